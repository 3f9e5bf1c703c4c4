/- RationalTruncated: at all arguments the law answers true: its tied card, proved. -/
import Derived.Test.YtgepdnoaemeofaaGreatDoorRows
import Derived.Test.YtgepdnoaemeofaaGreatDoorCards
import Derived.Test.YtgepdnoaemeofaaGreatDoorTie
import Derived.Test.YtgepdnoaemeofaaGreatDoorOpenRat
import Derived.Test.YtgepdnoaemeofaaGreatDoorJfRationalTruncated
import Derived.Test.YtgepdnoaemeofaaGreatDoorPnRationalTruncated
import Derived.WalkKit
import Derived.ProofKit
import Derived.OpenShut
import Derived.ShutString
import Derived.ChangeOld
import Derived.Below
import Derived.SizedLaws
import Derived.LaidMore
import Derived.Lay
import Derived.SevenTiedAt
import Derived.Stop.Joined
namespace Go.Proofs.YtgepdnoaemeofaaGreatDoor.rationalTruncated
open Go.ChangeShapes Go.WideShapes Go.ChangeAt Go.RowKit
open Go.ChangeMaps (open_string shut_string)
set_option linter.unusedVariables false
theorem own : ownKnob Tryz.prog.godebug = none := by kernel_rfl
set_option maxRecDepth 100000 in
theorem lifted (os : Os) (started : os.Started) (H : Type) (enc : TypeId × Value → H) :
    ReturnsInHanded {} Tryz.checked os 15 .any (fun w args => (Rows.rationalTruncatedSpec.pre enc Tryz.prog Tryz.f15 Rows.rationalTruncatedRow.domain false w args ∧ laidMetH Tryz.prog Rows.rationalTruncatedRow.laid w) ∧ sizedMet enc Tryz.prog Tryz.f15 (OpenSpec.ofChange Rows.rationalTruncatedSpec) false w args)
      (Rows.rationalTruncatedSpec.post enc Tryz.prog Tryz.f15 false true false false) := by
  refine returnsInHanded_of_change_and (C := Tryz.checked) (X := fun w _ => laidMetH Tryz.prog Rows.rationalTruncatedRow.laid w) (fun _ _ _ hh h => h.of_heap hh) own started (by kernel_rfl) Tryz.func15
    (ChangeSpec.witness_shaped (enc := enc) (C := Tryz.checked) (os := os) (X := fun w _ => laidMetH Tryz.prog Rows.rationalTruncatedRow.laid w) false (World.laidAll Tryz.prog os Rows.rationalTruncatedRow.laid)
      #[.agg #[.bool false, .string ⟨#[]⟩, .string ⟨#[]⟩], .int .u8 0] 8 (World.laidAll_os _ _ _)
      (World.shaped_of_ZipB (by kernel_rfl) (by kernel_rfl)) (by kernel_rfl) (by kernel_rfl) (by kernel_rfl)
      (by rw [MakeChecks.laidMetH_plain _ _ _ (by kernel_rfl)]; exact laidMet_laidAll _ (by kernel_rfl) (by kernel_rfl))) ?_
  intro W base args ds gs before hval0 hW hcnd _ hL _
  have hval : ∀ (j : Nat) t v, Tryz.f15.params[j]? = some t → args[j]? = some v → Value.okWide Tryz.prog W .any base t v := hval0
  have hW' := hW
  obtain ⟨p, q, hA0, hV, rfl, hfz, hnd⟩ := hW
  have hA : DataW.TrodAll enc Tryz.prog W 0 (fun _ => true) true Tryz.f15.params.toList args.toList ds p := hA0
  rw [Tryz.params15] at hA hval
  obtain ⟨v0, vs0, d0, ds0, p0, q0, hargs, rfl, rfl, h0, r0⟩ := trodAll_cons hA
  obtain ⟨v1, vs1, d1, ds1, p1, q1, rfl, rfl, rfl, h1, r1⟩ := trodAll_cons r0
  obtain ⟨rfl, rfl, rfl⟩ := trodAll_nil r1
  obtain rfl : args = #[v0, v1] := by cases args; simp_all
  obtain ⟨rfl, rfl⟩ := trodVars_none hV
  obtain ⟨n0, a0, b0, rfl, rfl, rfl, x0, y0⟩ := Arg.open_rat (hval 0 24 v0 rfl rfl) h0
  obtain ⟨a1, rfl, rfl, rfl, w1⟩ := open_int Tryz.underlying5 (hval 1 5 v1 rfl rfl) h1
  clear hA0 hval0
  obtain ⟨k, hk⟩ := (Pn.truncated_law n0 a0 b0 w1).rounds
  refine (A.insolvencylaw2_RationalTruncated.calls k n0 a0 b0 a1 true W hk rfl).mono fun e W' ⟨he, bel⟩ => ?_
  subst he
  exact ⟨_, rfl, _, _, _, [], _, [], hW', trodAll_mk1 (shut_bool Tryz.underlying4 _), (trodAll_cons_mk (Arg.shut_rat n0 x0 y0) (trodAll_cons_mk (shut_int Tryz.underlying5 w1) trodAll_mk0)), rfl, bel.frame _, fun h => by cases h⟩
theorem over : Rows.RationalTruncatedSaid :=
  OpenClaim.holds_of_wide 15 Tryz.f15 rfl rfl rfl rfl rfl rfl rfl ⟨rfl, rfl, rfl, rfl, rfl⟩ rfl rfl rfl rfl rfl (by kernel_rfl) Tryz.func15 rationalTruncatedJ.joined
    (of_decide_eq_true (by kernel_rfl)) (by unfold Func.isWrapper; first | (rw [if_pos (by decide +kernel)]; kernel_rfl) | (rw [if_neg (by decide +kernel)]; exact ⟨rfl, rfl⟩))
    (fun os started H enc _ => lifted os started H enc)
end Go.Proofs.YtgepdnoaemeofaaGreatDoor.rationalTruncated
namespace Go.Proofs.YtgepdnoaemeofaaGreatDoor
/-- The tied card. -/
theorem rationalTruncated_card : Rows.RationalTruncatedCardSaid :=
  Claim7.holds_tied_plain_at .later [] [.data, .pinned] true (true, "03b8fff5cf83c9bad4932de8bf2206da160dcbf6406213a7bfebbd68cc9f20fd") false rationalTruncated.over (fun _ h => by cases h) (by kernel_rfl) (fun _ h => by cases h) rationalTruncated_row_tie rfl ⟨rfl, rfl⟩ (by kernel_rfl) rfl
    (fun f fn hf hfn => by
      obtain rfl : f = 15 := Option.some.inj ((show Tryz.prog.funcNamed "insolvency/insolvencylaw2.RationalTruncated" = some 15 by kernel_rfl).symm.trans hf) |>.symm
      obtain rfl : fn = Tryz.f15 := (Option.some.inj (Tryz.func15.symm.trans hfn)).symm
      exact ⟨by kernel_rfl, fun j t ht => by
        rw [Tryz.params15] at ht
        have hm : t ∈ [24, 5] := by simpa using Array.mem_of_getElem? ht
        have hall : ([24, 5].all fun u => !Tryz.prog.wantsStandIn u) = true := by kernel_rfl
        exact (show Tryz.prog.wantsStandIn t = false by simpa using List.all_eq_true.1 hall t hm)⟩)
    (by kernel_rfl)
#print axioms rationalTruncated_card
end Go.Proofs.YtgepdnoaemeofaaGreatDoor
