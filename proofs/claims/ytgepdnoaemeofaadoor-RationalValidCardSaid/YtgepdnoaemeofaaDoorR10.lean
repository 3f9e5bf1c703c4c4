/- Printed by a program of this session (wip/tools) out of the translation: plain functions and the proofs that the code comes to their answers. -/
import Derived.Test.YtgepdnoaemeofaaDoorK
import Derived.Test.YtgepdnoaemeofaaDoorR0
import Derived.Test.YtgepdnoaemeofaaDoorR2
import Derived.Test.YtgepdnoaemeofaaDoorR7
import Derived.Test.YtgepdnoaemeofaaDoorR9
namespace Go.Proofs.YtgepdnoaemeofaaDoor.R
open Go.RowKit Go.Proofs.YtgepdnoaemeofaaDoorW.PrintWords Go.Proofs.YtgepdnoaemeofaaDoorW.PrintLast Go.Proofs.YtgepdnoaemeofaaDoorW.PrintMore Go.Proofs.YtgepdnoaemeofaaDoorW.PK
attribute [local go_sem] max2_int min2_int max_two min_two max_three min_three max_four min_four   -- for this text's walks alone
set_option linter.unusedVariables false
set_option linter.unusedSimpArgs false

/-! ### natural_Parse: function 67 -/
mutual
def natural_Parse.j0 : Nat → ByteArray → Bool → Option (ByteArray × Int)
 | 0, _, _ => none
 | k + 1, x0, x22 => if x22 = true then (some ((⟨#[]⟩ : ByteArray), 3)) else (if (x0.size : Int) > 2000 then (some ((⟨#[]⟩ : ByteArray), 2)) else (natural_Parse.l0 k x0 ([] : List Int) (x0.size : Int) 0))
def natural_Parse.l0 : Nat → ByteArray → List Int → Int → Int → Option (ByteArray × Int)
 | 0, _, _, _, _ => none
 | k + 1, x0, x4, x27, x28 => if x28 < x27 then (if 0 ≤ x28 then (if x28 < (x0.size : Int) then ((natural_multiplyAdd.f k x4 10 (((bt x0 x28) - 48) % 256)).bind fun t340 => (natural_Parse.l0 k x0 t340 x27 (wrap64 (x28 + 1)))) else (none)) else (none)) else ((natural_limbs_trim.f k x4).bind fun t343 => ((natural_limbs_text.f k t343).bind fun t346 => (some (t346, 0))))
end
def natural_Parse.f (k : Nat) (a0 : ByteArray) : Option (ByteArray × Int) := if a0.toList = ([] : List UInt8) then (natural_Parse.j0 k a0 true) else (if (a0.size : Int) > 1 then (if 0 < (a0.size : Int) then (if (bt a0 0) = 48 then (natural_Parse.j0 k a0 true) else ((strings_Trim.f a0 (⟨#[48, 49, 50, 51, 52, 53, 54, 55, 56, 57]⟩ : ByteArray)).bind fun t338 => (natural_Parse.j0 k a0 (t338.toList != ([] : List UInt8))))) else (none)) else ((strings_Trim.f a0 (⟨#[48, 49, 50, 51, 52, 53, 54, 55, 56, 57]⟩ : ByteArray)).bind fun t339 => (natural_Parse.j0 k a0 (t339.toList != ([] : List UInt8)))))
theorem natural_Parse.mono_l : ∀ k, (∀ y0 y1, LeO (natural_Parse.j0 k y0 y1) (natural_Parse.j0 (k + 1) y0 y1)) ∧ (∀ y0 y1 y2 y3, LeO (natural_Parse.l0 k y0 y1 y2 y3) (natural_Parse.l0 (k + 1) y0 y1 y2 y3))
 | 0 => ⟨fun _ _ r h => by simp [natural_Parse.j0] at h, fun _ _ _ _ r h => by simp [natural_Parse.l0] at h⟩
 | k + 1 => by
  obtain ⟨ih0, ih1⟩ := natural_Parse.mono_l k
  refine ⟨?_, ?_⟩
  ·intro y0 y1
   unfold natural_Parse.j0
   repeat' with_reducible first | exact ih0 _ _ | exact ih1 _ _ _ _ | exact natural_limbs_text.mono _ _ | exact natural_limbs_trim.mono _ _ | exact natural_multiplyAdd.mono _ _ _ _ | exact LeO.refl _ | exact LeO.none _ | refine LeO.ite ?_ ?_ | refine LeO.bind ?_ (fun _ => ?_)
  ·intro y0 y1 y2 y3
   unfold natural_Parse.l0
   repeat' with_reducible first | exact ih0 _ _ | exact ih1 _ _ _ _ | exact natural_limbs_text.mono _ _ | exact natural_limbs_trim.mono _ _ | exact natural_multiplyAdd.mono _ _ _ _ | exact LeO.refl _ | exact LeO.none _ | refine LeO.ite ?_ ?_ | refine LeO.bind ?_ (fun _ => ?_)
theorem natural_Parse.mono : ∀ a0 k, LeO (natural_Parse.f k a0) (natural_Parse.f (k + 1) a0) := by
 intro a0 k
 obtain ⟨ih0, ih1⟩ := natural_Parse.mono_l k
 unfold natural_Parse.f
 repeat' with_reducible first | exact ih0 _ _ | exact ih1 _ _ _ _ | exact natural_limbs_text.mono _ _ | exact natural_limbs_trim.mono _ _ | exact natural_multiplyAdd.mono _ _ _ _ | exact LeO.refl _ | exact LeO.none _ | refine LeO.ite ?_ ?_ | refine LeO.bind ?_ (fun _ => ?_)
set_option maxHeartbeats 8000000 in
set_option maxRecDepth 100000 in
theorem natural_Parse.calls (k : Nat) (a0 : ByteArray) (r1 : ByteArray) (r2 : Int) (w : World) (h : natural_Parse.f k a0 = some (r1, r2)) :
  Calls Tryd.prog 67 #[.string a0] w fun e w' => e = .returned (.tuple #[.string r1, .int .i64 r2]) ∧ Below w.heap.size w w' := by
 have HB := Aside0.mk (Below.refl w.heap.size w)
 have H := h
 clear h
 unfold natural_Parse.f at H
 have HC2 := Aside0.mk H
 clear H
 go_enter Tryd.func67, Tryd.ntmps67
 (try (simp only [Exit.then]; refine (by assumption : ∀ (a : Act) (w : World), Code.wp _ _ _ a w → _) _ _ ?_))
 go_upto_region 1 with (fail)
 go_cut [22] (fun v22 wc => ∃ (kq : Nat) (x22_1 : Bool), v22 = .bool x22_1 ∧ Aside0 (natural_Parse.j0 kq a0 x22_1 = some (r1, r2)) ∧ Aside0 (kq ≤ k) ∧ Aside0 (Below w.heap.size w wc))
 case first =>
  have H := HC2.out
  clear HC2
  by_cases c3 : a0.toList = ([] : List UInt8)
  ·rw [if_pos c3] at H
   have c3b0 := beq_iff_eq.mpr c3
   have c3b1 := bne_eq_false_iff_eq.mpr c3
   clear c3
   (first | rw [c3b0] | (simp only [i64_w, i32_w]; rw [c3b0]) | skip)
   have H' := Aside0.mk H
   clear H
   go_wp2
   go_meet
   case rel => exact ⟨_, (true), fs, H', ⟨by first | omega | exact Nat.le_refl _⟩, ⟨bz HB.out⟩⟩
  ·rw [if_neg c3] at H
   have c3b0 := beq_eq_false_iff_ne.mpr c3
   have c3b1 := bne_iff_ne.mpr c3
   (first | rw [c3b0] | (simp only [i64_w, i32_w]; rw [c3b0]) | skip)
   by_cases c4 : (a0.size : Int) > 1
   ·rw [if_pos c4] at H
    have c4b0 : decide (1 < (a0.size : Int)) = true := decide_eq_true c4
    have c4b1 : decide (1 < a0.size) = true := decide_eq_true (by omega)
    clear c4
    obtain ⟨c5, H⟩ := iN H
    have c5b0 : decide (0 < (a0.size : Int)) = true := decide_eq_true c5
    have c5b1 : decide (0 < a0.size) = true := decide_eq_true (by omega)
    clear c5
    by_cases c7 : (bt a0 0) = 48
    ·rw [if_pos c7] at H
     have c7b0 := beq_iff_eq.mpr c7
     have c7b1 := bne_eq_false_iff_eq.mpr c7
     clear c7
     have H' := Aside0.mk H
     clear H
     have p6 : 0 ≤ (0 : Int) := (by omega)
     have q6 : 0 < a0.size := (by have : (0 : Int) < (a0.size : Int) := oa; omega)
     have hx6 : ∀ h : 0 < a0.size, ((a0[0]'h).toNat : Int) = bt a0 0 := bt_at a0 0
     clear p6
     have qi6 : (0 < (a0.size : Int)) = True := eq_true oa
     replace q6 := eq_true q6
     go_wp2
     go_meet
     case rel => exact ⟨_, (true), fs, H', ⟨by first | omega | exact Nat.le_refl _⟩, ⟨bz HB.out⟩⟩
    ·rw [if_neg c7] at H
     have c7b0 := beq_eq_false_iff_ne.mpr c7
     have c7b1 := bne_iff_ne.mpr c7
     obtain ⟨t338, A8, H⟩ := bs1 H
     have H' := Aside0.mk H
     clear H
     have p6 : 0 ≤ (0 : Int) := (by omega)
     have q6 : 0 < a0.size := (by have : (0 : Int) < (a0.size : Int) := oa; omega)
     have hx6 : ∀ h : 0 < a0.size, ((a0[0]'h).toNat : Int) = bt a0 0 := bt_at a0 0
     clear p6
     have qi6 : (0 < (a0.size : Int)) = True := eq_true oa
     replace q6 := eq_true q6
     go_wp2_with (first | (go_at_call 94; (with_reducible refine (strings_Trim.calls a0 (⟨#[48, 49, 50, 51, 52, 53, 54, 55, 56, 57]⟩ : ByteArray) t338 _ A8.out).mono ?_); rintro e w9 ⟨rfl, hb⟩; replace HB := Aside0.mk (bs HB.out hb); (try clear hb)))
     go_meet
     case rel => exact ⟨_, ((t338.toList != ([] : List UInt8))), fs, H', ⟨by first | omega | exact Nat.le_refl _⟩, ⟨bz HB.out⟩⟩
   ·rw [if_neg c4] at H
    have c4b0 : decide (1 < (a0.size : Int)) = false := decide_eq_false c4
    have c4b1 : decide (1 < a0.size) = false := decide_eq_false (by omega)
    clear c4
    obtain ⟨t339, A10, H⟩ := bs1 H
    have H' := Aside0.mk H
    clear H
    go_wp2_with (first | (go_at_call 94; (with_reducible refine (strings_Trim.calls a0 (⟨#[48, 49, 50, 51, 52, 53, 54, 55, 56, 57]⟩ : ByteArray) t339 _ A10.out).mono ?_); rintro e w11 ⟨rfl, hb⟩; replace HB := Aside0.mk (bs HB.out hb); (try clear hb)))
    go_meet
    case rel => exact ⟨_, ((t339.toList != ([] : List UInt8))), fs, H', ⟨by first | omega | exact Nat.le_refl _⟩, ⟨bz HB.out⟩⟩
 case rest =>
  clear HC2
  (try clear c3b0); (try clear c3b1); (try clear c4b0); (try clear c4b1); (try clear c5b0); (try clear c5b1); (try clear q6); (try clear hx6); (try clear qi6); (try clear c7b0); (try clear c7b1); (try clear q6)
  obtain ⟨kq, x22_1, rfl, HA, HJ1, HB⟩ := hcut
  cases kq with
  | zero => exact absurd HA.out (by simp [natural_Parse.j0])
  | succ kj1 =>
   have H := HA.out
   clear HA
   simp only [natural_Parse.j0] at H
   by_cases c12 : x22_1 = true
   ·subst c12
    have H1 : (some ((⟨#[]⟩ : ByteArray), 3)) = some (r1, r2) := by rw [if_pos rfl] at H; exact H
    clear H
    have H := H1
    clear H1
    simp only [Option.some.injEq, Prod.mk.injEq] at H
    obtain ⟨rfl, rfl⟩ := H
    go_wp2
    go_ret2
    exact ⟨fe, bz HB.out⟩
   ·replace c12 := Bool.eq_false_iff.mpr c12
    subst c12
    have H1 : (if (a0.size : Int) > 2000 then (some ((⟨#[]⟩ : ByteArray), 2)) else (natural_Parse.l0 kj1 a0 ([] : List Int) (a0.size : Int) 0)) = some (r1, r2) := by rw [if_neg (show ¬ (false = true) by decide)] at H; exact H
    clear H
    have H := H1
    clear H1
    by_cases c13 : (a0.size : Int) > 2000
    ·rw [if_pos c13] at H
     have c13b0 : decide (2000 < (a0.size : Int)) = true := decide_eq_true c13
     have c13b1 : decide (2000 < a0.size) = true := decide_eq_true (by omega)
     clear c13
     simp only [Option.some.injEq, Prod.mk.injEq] at H
     obtain ⟨rfl, rfl⟩ := H
     go_wp2
     go_ret2
     exact ⟨fe, bz HB.out⟩
    ·rw [if_neg c13] at H
     have c13b0 : decide (2000 < (a0.size : Int)) = false := decide_eq_false c13
     have c13b1 : decide (2000 < a0.size) = false := decide_eq_false (by omega)
     clear c13
     have H' := Aside0.mk H
     clear H
     go_wp2
     go_loopg [4, 28] kj1 (fun kq v4 v28 w' => ∃ (x4_2 : List Int) (x28_2 : Int), v28 = .int .i64 x28_2 ∧ Aside0 (natural_Parse.l0 kq a0 x4_2 (a0.size : Int) x28_2 = some (r1, r2)) ∧ Aside0 (kq ≤ kj1) ∧ Aside0 (Kd.R (Kd.int .u32) 72 w' w.heap.size (fun _ => True) v4 x4_2) ∧ Aside0 (Below w.heap.size w w'))
     case atStart => exact ⟨(([] : List Int)), (0), fs, H', ⟨Nat.le_refl _⟩, ⟨by first | exact Kd.R_nil _ _ _ _ _ | exact Kd.N_nil _ _ _ _ _ | exact Kd.V_nil _ _ _ _ _ | exact Kd.Q_nil _ _ _ _ _ | exact Kd.S_nil _ _ _ _ _⟩, ⟨bz HB.out⟩⟩
     case round =>
      clear H'
      (try clear c3b0); (try clear c3b1); (try clear c4b0); (try clear c4b1); (try clear c5b0); (try clear c5b1); (try clear q6); (try clear hx6); (try clear qi6); (try clear c7b0); (try clear c7b1); (try clear c12); (try clear c13b0); (try clear c13b1); (try clear q6)
      obtain ⟨x4_2, x28_2, rfl, HA, HK2, HO_4, HB⟩ := hrel
      cases gk with
      | zero => exact absurd HA.out (by simp [natural_Parse.l0])
      | succ k2 =>
       have H := HA.out
       clear HA
       simp only [natural_Parse.l0] at H
       by_cases c14 : x28_2 < (a0.size : Int)
       ·rw [if_pos c14] at H
        have c14b0 : decide (x28_2 < (a0.size : Int)) = true := decide_eq_true c14
        clear c14
        obtain ⟨c15, H⟩ := iN H
        have c15b0 : decide (0 ≤ x28_2) = true := decide_eq_true c15
        clear c15
        obtain ⟨c16, H⟩ := iN H
        have c16b0 : decide (x28_2 < (a0.size : Int)) = true := decide_eq_true c16
        clear c16
        obtain ⟨t340, A18, H⟩ := bs1 H
        have H' := Aside0.mk H
        clear H
        have p17 : 0 ≤ (x28_2 : Int) := oa
        have q17 : x28_2 < (a0.size : Int) := oa
        have hx17 := bt_at a0 x28_2
        replace p17 := eq_true p17
        replace q17 := eq_true q17
        obtain ⟨Ao19, co19, eo19⟩ := Kd.R_slice HO_4.out
        subst eo19
        go_wp2_with (first | ((with_reducible refine gc 95 rfl ?_); refine gl (some 37) Tryd.func95 #[.slice Ao19 x4_2.length co19, .int .u32 10, .int .u32 (((bt a0 x28_2) - 48) % 256)] ?_; (with_reducible refine (natural_multiplyAdd.calls k2 (fun k_ => some k_ = (.slice Ao19 x4_2.length co19 : Value).ownBlock) (.slice Ao19 x4_2.length co19) x4_2 10 (((bt a0 x28_2) - 48) % 256) t340 w _ ?side1 ?side2 A18.out).mono ?_); (case side1 => repeat (first | (with_reducible first | exact HB.out | apply below_alloc | apply pw_below_drewN | apply below_drew1) | exact HB.out)); (case side2 => exact Kd.R_tight rfl HO_4.out); rintro e w20 ⟨v341, rfl, ho0, hb, hkp⟩; refine ⟨_, rfl, ?_⟩; have HO342 := Aside0.mk (Kd.R_mono (ok' := fun k_ => True) ho0 (fun k_ hk_ => trivial)); replace HB := Aside0.mk (hb); clear HO_4; (try clear hb hkp ho0)))
        go_roundg k2
        case measure => have := HJ1.out; have := HK2.out; omega
        case rel => exact ⟨(t340), (wrap64 (x28_2 + 1)), fs, H', ⟨by have := HJ1.out; have := HK2.out; omega⟩, ⟨vs HO342.out⟩, ⟨bz HB.out⟩⟩
       ·rw [if_neg c14] at H
        have c14b0 : decide (x28_2 < (a0.size : Int)) = false := decide_eq_false c14
        clear c14
        obtain ⟨t343, A21, H⟩ := bs1 H
        obtain ⟨t346, A22, H⟩ := bs1 H
        simp only [Option.some.injEq, Prod.mk.injEq] at H
        obtain ⟨rfl, rfl⟩ := H
        obtain ⟨Ao23, co23, eo23⟩ := Kd.R_slice HO_4.out
        subst eo23
        go_wp2_with (first | ((with_reducible refine gc 80 rfl ?_); refine gl (some 40) Tryd.func80 #[.slice Ao23 x4_2.length co23] ?_; (with_reducible refine (natural_limbs_trim.calls k2 (fun k_ => some k_ = (.slice Ao23 x4_2.length co23 : Value).ownBlock) _ _ x4_2 t343 _ ?side1 A21.out).mono ?_); (case side1 => exact Kd.R_V (Kd.R_tight rfl (HO_4.out))); rintro e w24 ⟨v344, rfl, ho0, hb⟩; refine ⟨_, rfl, ?_⟩; replace HO_4 := Aside0.mk (rb HO_4.out hb); have HO345 := Aside0.mk (Kd.V_lower (Kd.V_mono (ok' := fun k_ => True) ho0 (fun k_ hk_ => trivial)) (sz HB.out)); replace HB := Aside0.mk (bs HB.out hb); (try clear hb ho0); obtain ⟨Ao25, co25, rfl⟩ := Kd.V_slice HO345.out) | ((with_reducible refine gc 56 rfl ?_); refine gl (some 41) Tryd.func56 #[.slice Ao25 t343.length co25] ?_; (with_reducible refine (natural_limbs_text.calls k2 _ _ t343 t346 _ ?side1 ?side2 A22.out).mono ?_); (case side1 => exact vs (Kd.V_reads' HO345.out).2.2); (case side2 => exact (Kd.V_reads' HO345.out).2.1); rintro e w26 ⟨rfl, hb⟩; refine ⟨_, rfl, ?_⟩; replace HO_4 := Aside0.mk (rb HO_4.out hb); replace HO345 := Aside0.mk (vb HO345.out hb); replace HB := Aside0.mk (bs HB.out hb); (try clear hb)))
        go_ret2
        exact ⟨fe, bz HB.out⟩

/-! ### rational_digits: function 49 -/
def rational_digits.f (k : Nat) (a0 : ByteArray) : Option (ByteArray) := (strings_TrimLeft.f k a0 (⟨#[48]⟩ : ByteArray)).bind fun t347 => (if t347.toList = ([] : List UInt8) then (some (⟨#[]⟩ : ByteArray)) else ((natural_Parse.f k t347).bind fun bt348 => (some bt348.1)))
theorem rational_digits.mono : ∀ a0 k, LeO (rational_digits.f k a0) (rational_digits.f (k + 1) a0) := by
 intro a0 k
 unfold rational_digits.f
 repeat' with_reducible first | exact natural_Parse.mono _ _ | exact strings_TrimLeft.mono _ _ _ | exact LeO.refl _ | exact LeO.none _ | refine LeO.ite ?_ ?_ | refine LeO.bind ?_ (fun _ => ?_)
set_option maxHeartbeats 8000000 in
set_option maxRecDepth 100000 in
theorem rational_digits.calls (k : Nat) (a0 : ByteArray) (r : ByteArray) (w : World) (h : rational_digits.f k a0 = some r) :
  Calls Tryd.prog 49 #[.string a0] w fun e w' => e = .returned (.string r) ∧ Below w.heap.size w w' := by
 have HB := Aside0.mk (Below.refl w.heap.size w)
 have H := h
 clear h
 unfold rational_digits.f at H
 obtain ⟨t347, A2, H⟩ := bs1 H
 by_cases c3 : t347.toList = ([] : List UInt8)
 ·rw [if_pos c3] at H
  have c3b0 := beq_iff_eq.mpr c3
  have c3b1 := bne_eq_false_iff_eq.mpr c3
  clear c3
  obtain rfl := Option.some.inj H
  go_enter Tryd.func49, Tryd.ntmps49
  go_wp2_with (first | ((with_reducible refine gc 53 rfl ?_); refine gl (some 6) Tryd.func53 #[.string a0, .string (⟨#[48]⟩ : ByteArray)] ?_; (with_reducible refine (strings_TrimLeft.calls k a0 (⟨#[48]⟩ : ByteArray) t347 _ A2.out).mono ?_); rintro e w4 ⟨rfl, hb⟩; refine ⟨_, rfl, ?_⟩; replace HB := Aside0.mk (bs HB.out hb); (try clear hb)))
  go_ret
  exact ⟨fe, bz HB.out⟩
 ·rw [if_neg c3] at H
  have c3b0 := beq_eq_false_iff_ne.mpr c3
  have c3b1 := bne_iff_ne.mpr c3
  obtain ⟨⟨t348, t349⟩, A5, H⟩ := bs1 H; dsimp only at H
  obtain rfl := Option.some.inj H
  go_enter Tryd.func49, Tryd.ntmps49
  go_wp2_with (first | ((with_reducible refine gc 53 rfl ?_); refine gl (some 6) Tryd.func53 #[.string a0, .string (⟨#[48]⟩ : ByteArray)] ?_; (with_reducible refine (strings_TrimLeft.calls k a0 (⟨#[48]⟩ : ByteArray) t347 _ A2.out).mono ?_); rintro e w6 ⟨rfl, hb⟩; refine ⟨_, rfl, ?_⟩; replace HB := Aside0.mk (bs HB.out hb); (try clear hb)) | ((with_reducible refine gc 67 rfl ?_); refine gl (some 11) Tryd.func67 #[.string t347] ?_; (with_reducible refine (natural_Parse.calls k t347 t348 t349 _ A5.out).mono ?_); rintro e w7 ⟨rfl, hb⟩; refine ⟨_, rfl, ?_⟩; replace HB := Aside0.mk (bs HB.out hb); (try clear hb)))
  go_ret
  exact ⟨fe, bz HB.out⟩

end Go.Proofs.YtgepdnoaemeofaaDoor.R
