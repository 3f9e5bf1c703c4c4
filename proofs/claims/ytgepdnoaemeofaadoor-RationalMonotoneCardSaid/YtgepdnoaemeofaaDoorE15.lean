/- Printed by a program of this session (wip/tools) out of the translation: plain functions and the proofs that the code comes to their answers. -/
import Derived.Test.YtgepdnoaemeofaaDoorK
import Derived.Test.YtgepdnoaemeofaaDoorE0
import Derived.Test.YtgepdnoaemeofaaDoorE2
import Derived.Test.YtgepdnoaemeofaaDoorE6
import Derived.Test.YtgepdnoaemeofaaDoorE14
namespace Go.Proofs.YtgepdnoaemeofaaDoor.E
open Go.RowKit Go.Proofs.YtgepdnoaemeofaaDoorW.PrintWords Go.Proofs.YtgepdnoaemeofaaDoorW.PrintLast Go.Proofs.YtgepdnoaemeofaaDoorW.PrintMore Go.Proofs.YtgepdnoaemeofaaDoorW.PK
attribute [local go_sem] max2_int min2_int max_two min_two max_three min_three max_four min_four   -- for this text's walks alone
set_option linter.unusedVariables false
set_option linter.unusedSimpArgs false

/-! ### natural_Subtract: function 61 -/
def natural_Subtract.f (k : Nat) (a0 : ByteArray) (a1 : ByteArray) : Option (ByteArray × Bool) := (natural_parse.f k a0).bind fun t485 => ((natural_parse.f k a1).bind fun t488 => ((natural_compare.f k t485 t488).bind fun t491 => (if t491 < 0 then (some ((⟨#[]⟩ : ByteArray), false)) else ((natural_subtract.f k t485 t488).bind fun t492 => ((natural_limbs_text.f k t492).bind fun t495 => (some (t495, true)))))))
theorem natural_Subtract.mono : ∀ a0 a1 k, LeO (natural_Subtract.f k a0 a1) (natural_Subtract.f (k + 1) a0 a1) := by
 intro a0 a1 k
 unfold natural_Subtract.f
 repeat' first
   | (with_reducible exact natural_compare.mono _ _ _)
   | (with_reducible exact natural_limbs_text.mono _ _)
   | (with_reducible exact natural_parse.mono _ _)
   | (with_reducible exact natural_subtract.mono _ _ _)
   | (with_reducible exact LeO.refl _)
   | (with_reducible exact LeO.none _)
   | (with_reducible refine LeO.ite ?_ ?_)
   | (with_reducible refine LeO.bind ?_ (fun _ => ?_))
   | exact natural_compare.mono _ _ _
   | exact natural_limbs_text.mono _ _
   | exact natural_parse.mono _ _
   | exact natural_subtract.mono _ _ _
   | exact LeO.none _
   | refine LeO.ite ?_ ?_
   | refine LeO.bind ?_ (fun _ => ?_)
set_option maxHeartbeats 8000000 in
set_option maxRecDepth 100000 in
theorem natural_Subtract.calls (k : Nat) (a0 : ByteArray) (a1 : ByteArray) (r1 : ByteArray) (r2 : Bool) (w : World) (h : natural_Subtract.f k a0 a1 = some (r1, r2)) :
  Calls Tryd.prog 61 #[.string a0, .string a1] w fun e w' => e = .returned (.tuple #[.string r1, .bool r2]) ∧ Below w.heap.size w w' := by
 have HB := Aside0.mk (Below.refl w.heap.size w)
 have H := h
 clear h
 unfold natural_Subtract.f at H
 obtain ⟨t485, A3, H⟩ := bs1 H
 obtain ⟨t488, A4, H⟩ := bs1 H
 obtain ⟨t491, A5, H⟩ := bs1 H
 by_cases c6 : t491 < 0
 ·rw [if_pos c6] at H
  have c6b0 : decide (t491 < 0) = true := decide_eq_true c6
  clear c6
  simp only [Option.some.injEq, Prod.mk.injEq] at H
  obtain ⟨rfl, rfl⟩ := H
  go_enter Tryd.func61, Tryd.ntmps61
  go_wp2_with (first | ((with_reducible refine gc 54 rfl ?_); refine gl (some 9) Tryd.func54 #[.string a0] ?_; (with_reducible refine (natural_parse.calls k a0 t485 _ A3.out).mono ?_); rintro e w7 ⟨v486, rfl, ho0, hb⟩; refine ⟨_, rfl, ?_⟩; have HO487 := Aside0.mk (Kd.V_lower (Kd.V_mono (ok' := fun k_ => True) ho0 (fun k_ hk_ => trivial)) (sz HB.out)); replace HB := Aside0.mk (bs HB.out hb); (try clear hb ho0)) | ((with_reducible refine gc 54 rfl ?_); refine gl (some 11) Tryd.func54 #[.string a1] ?_; (with_reducible refine (natural_parse.calls k a1 t488 _ A4.out).mono ?_); rintro e w8 ⟨v489, rfl, ho0, hb⟩; refine ⟨_, rfl, ?_⟩; replace HO487 := Aside0.mk (vb HO487.out hb); have HO490 := Aside0.mk (Kd.V_lower (Kd.V_mono (ok' := fun k_ => True) ho0 (fun k_ hk_ => trivial)) (sz HB.out)); replace HB := Aside0.mk (bs HB.out hb); (try clear hb ho0); obtain ⟨Ao9, co9, rfl⟩ := Kd.V_slice HO487.out; obtain ⟨Ao10, co10, rfl⟩ := Kd.V_slice HO490.out) | ((with_reducible refine gc 81 rfl ?_); refine gl (some 14) Tryd.func81 #[.slice Ao9 t485.length co9, .slice Ao10 t488.length co10] ?_; (with_reducible refine (natural_compare.calls k _ _ t485 _ _ t488 t491 _ ?side1 ?side2 ?side3 ?side4 A5.out).mono ?_); (case side1 => exact vs (Kd.V_reads' HO487.out).2.2); (case side2 => exact (Kd.V_reads' HO487.out).2.1); (case side3 => exact vs (Kd.V_reads' HO490.out).2.2); (case side4 => exact (Kd.V_reads' HO490.out).2.1); rintro e w' ⟨rfl, ⟨nd, rfl⟩⟩; refine ⟨_, rfl, ?_⟩))
  go_ret2
  exact ⟨fe, bz HB.out⟩
 ·rw [if_neg c6] at H
  have c6b0 : decide (t491 < 0) = false := decide_eq_false c6
  clear c6
  obtain ⟨t492, A11, H⟩ := bs1 H
  obtain ⟨t495, A12, H⟩ := bs1 H
  simp only [Option.some.injEq, Prod.mk.injEq] at H
  obtain ⟨rfl, rfl⟩ := H
  go_enter Tryd.func61, Tryd.ntmps61
  go_wp2_with (first | ((with_reducible refine gc 54 rfl ?_); refine gl (some 9) Tryd.func54 #[.string a0] ?_; (with_reducible refine (natural_parse.calls k a0 t485 _ A3.out).mono ?_); rintro e w13 ⟨v486, rfl, ho0, hb⟩; refine ⟨_, rfl, ?_⟩; have HO487 := Aside0.mk (Kd.V_lower (Kd.V_mono (ok' := fun k_ => True) ho0 (fun k_ hk_ => trivial)) (sz HB.out)); replace HB := Aside0.mk (bs HB.out hb); (try clear hb ho0)) | ((with_reducible refine gc 54 rfl ?_); refine gl (some 11) Tryd.func54 #[.string a1] ?_; (with_reducible refine (natural_parse.calls k a1 t488 _ A4.out).mono ?_); rintro e w14 ⟨v489, rfl, ho0, hb⟩; refine ⟨_, rfl, ?_⟩; replace HO487 := Aside0.mk (vb HO487.out hb); have HO490 := Aside0.mk (Kd.V_lower (Kd.V_mono (ok' := fun k_ => True) ho0 (fun k_ hk_ => trivial)) (sz HB.out)); replace HB := Aside0.mk (bs HB.out hb); (try clear hb ho0); obtain ⟨Ao15, co15, rfl⟩ := Kd.V_slice HO487.out; obtain ⟨Ao16, co16, rfl⟩ := Kd.V_slice HO490.out) | ((with_reducible refine gc 81 rfl ?_); refine gl (some 14) Tryd.func81 #[.slice Ao15 t485.length co15, .slice Ao16 t488.length co16] ?_; (with_reducible refine (natural_compare.calls k _ _ t485 _ _ t488 t491 _ ?side1 ?side2 ?side3 ?side4 A5.out).mono ?_); (case side1 => exact vs (Kd.V_reads' HO487.out).2.2); (case side2 => exact (Kd.V_reads' HO487.out).2.1); (case side3 => exact vs (Kd.V_reads' HO490.out).2.2); (case side4 => exact (Kd.V_reads' HO490.out).2.1); rintro e w' ⟨rfl, ⟨nd, rfl⟩⟩; refine ⟨_, rfl, ?_⟩) | ((with_reducible refine gc 90 rfl ?_); refine gl (some 18) Tryd.func90 #[.slice Ao15 t485.length co15, .slice Ao16 t488.length co16] ?_; (with_reducible refine (natural_subtract.calls k _ _ t485 _ _ t488 t492 _ ?side1 ?side2 ?side3 ?side4 A11.out).mono ?_); (case side1 => exact vs (Kd.V_reads' HO487.out).2.2); (case side2 => exact (Kd.V_reads' HO487.out).2.1); (case side3 => exact vs (Kd.V_reads' HO490.out).2.2); (case side4 => exact (Kd.V_reads' HO490.out).2.1); rintro e w17 ⟨v493, rfl, ho0, hb⟩; refine ⟨_, rfl, ?_⟩; replace HO487 := Aside0.mk (vb HO487.out hb); replace HO490 := Aside0.mk (vb HO490.out hb); have HO494 := Aside0.mk (Kd.V_lower (Kd.V_mono (ok' := fun k_ => True) ho0 (fun k_ hk_ => trivial)) (sz HB.out)); replace HB := Aside0.mk (bs HB.out hb); (try clear hb ho0); obtain ⟨Ao18, co18, rfl⟩ := Kd.V_slice HO494.out) | ((with_reducible refine gc 56 rfl ?_); refine gl (some 19) Tryd.func56 #[.slice Ao18 t492.length co18] ?_; (with_reducible refine (natural_limbs_text.calls k _ _ t492 t495 _ ?side1 ?side2 A12.out).mono ?_); (case side1 => exact vs (Kd.V_reads' HO494.out).2.2); (case side2 => exact (Kd.V_reads' HO494.out).2.1); rintro e w19 ⟨rfl, hb⟩; refine ⟨_, rfl, ?_⟩; replace HO487 := Aside0.mk (vb HO487.out hb); replace HO490 := Aside0.mk (vb HO490.out hb); replace HO494 := Aside0.mk (vb HO494.out hb); replace HB := Aside0.mk (bs HB.out hb); (try clear hb)))
  go_ret2
  exact ⟨fe, bz HB.out⟩

end Go.Proofs.YtgepdnoaemeofaaDoor.E
