/- Printed by a program of this session (wip/tools) out of the translation: plain functions and the proofs that the code comes to their answers. -/
import Derived.Test.YtgepdnoaemeofaaDoorK
import Derived.Test.YtgepdnoaemeofaaDoorR0
import Derived.Test.YtgepdnoaemeofaaDoorR7
import Derived.Test.YtgepdnoaemeofaaDoorR8
import Derived.Test.YtgepdnoaemeofaaDoorR9
import Derived.Test.YtgepdnoaemeofaaDoorR10
namespace Go.Proofs.YtgepdnoaemeofaaDoor.R
open Go.RowKit Go.Proofs.YtgepdnoaemeofaaDoorW.PrintWords Go.Proofs.YtgepdnoaemeofaaDoorW.PrintLast Go.Proofs.YtgepdnoaemeofaaDoorW.PrintMore Go.Proofs.YtgepdnoaemeofaaDoorW.PK
attribute [local go_sem] max2_int min2_int max_two min_two max_three min_three max_four min_four   -- for this text's walks alone
set_option linter.unusedVariables false
set_option linter.unusedSimpArgs false

/-! ### rational_Parse: function 22 -/
mutual
def rational_Parse.j0 : Nat → Bool → ByteArray → ByteArray → Bool → Option (Bool × ByteArray × ByteArray × Int)
 | 0, _, _, _, _ => none
 | k + 1, x5, x6, x7, x39 => if x39 = true then (some (false, (⟨#[]⟩ : ByteArray), (⟨#[]⟩ : ByteArray), 3)) else (if (x6.size : Int) > 2000 then (rational_Parse.j1 k x5 x6 x7 true) else (rational_Parse.j1 k x5 x6 x7 (decide ((x7.size : Int) > 2000))))
def rational_Parse.j1 : Nat → Bool → ByteArray → ByteArray → Bool → Option (Bool × ByteArray × ByteArray × Int)
 | 0, _, _, _, _ => none
 | k + 1, x5, x6, x7, x48 => if x48 = true then (some (false, (⟨#[]⟩ : ByteArray), (⟨#[]⟩ : ByteArray), 2)) else ((rational_tenTo.f k (x7.size : Int)).bind fun t361 => ((rational_digits.f k x6).bind fun t362 => ((natural_Multiply.f k t362 t361).bind fun t363 => ((rational_digits.f k x7).bind fun t364 => ((natural_Add.f k t363 t364).bind fun t365 => ((rational_reduced.f k x5 t365 t361).bind fun bt366 => (some (bt366.1, bt366.2.1, bt366.2.2, 0))))))))
def rational_Parse.j2 : Nat → Bool → ByteArray → ByteArray → Bool → Option (Bool × ByteArray × ByteArray × Int)
 | 0, _, _, _, _ => none
 | k + 1, x5, x9, x10, x72 => if x72 = true then (some (false, (⟨#[]⟩ : ByteArray), (⟨#[]⟩ : ByteArray), 3)) else (if (x9.size : Int) > 2000 then (rational_Parse.j3 k x5 x9 x10 true) else (rational_Parse.j3 k x5 x9 x10 (decide ((x10.size : Int) > 2000))))
def rational_Parse.j3 : Nat → Bool → ByteArray → ByteArray → Bool → Option (Bool × ByteArray × ByteArray × Int)
 | 0, _, _, _, _ => none
 | k + 1, x5, x9, x10, x81 => if x81 = true then (some (false, (⟨#[]⟩ : ByteArray), (⟨#[]⟩ : ByteArray), 2)) else (if x10.toList = ([48] : List UInt8) then (some (false, (⟨#[]⟩ : ByteArray), (⟨#[]⟩ : ByteArray), 1)) else ((rational_digits.f k x9).bind fun t371 => ((rational_digits.f k x10).bind fun t372 => ((rational_reduced.f k x5 t371 t372).bind fun bt373 => (some (bt373.1, bt373.2.1, bt373.2.2, 0))))))
end
def rational_Parse.f (k : Nat) (a0 : ByteArray) : Option (Bool × ByteArray × ByteArray × Int) := (strings_CutPrefix.f a0 (⟨#[45]⟩ : ByteArray)).bind fun bt351 => ((strings_Cut.f k bt351.1 (⟨#[46]⟩ : ByteArray)).bind fun bt353 => ((strings_Cut.f k bt351.1 (⟨#[47]⟩ : ByteArray)).bind fun bt356 => (if bt353.2.2 = true then ((rational_isInteger.f k bt353.1).bind fun t359 => (if t359 = true then ((rational_isDigits.f k bt353.2.1).bind fun t360 => (rational_Parse.j0 k bt351.2 bt353.1 bt353.2.1 (!t360))) else (rational_Parse.j0 k bt351.2 bt353.1 bt353.2.1 true))) else (if bt356.2.2 = true then ((rational_isInteger.f k bt356.1).bind fun t369 => (if t369 = true then ((rational_isInteger.f k bt356.2.1).bind fun t370 => (rational_Parse.j2 k bt351.2 bt356.1 bt356.2.1 (!t370))) else (rational_Parse.j2 k bt351.2 bt356.1 bt356.2.1 true))) else ((rational_isInteger.f k bt351.1).bind fun t376 => (if t376 = true then (if (bt351.1.size : Int) > 2000 then (some (false, (⟨#[]⟩ : ByteArray), (⟨#[]⟩ : ByteArray), 2)) else ((rational_digits.f k bt351.1).bind fun t377 => ((rational_reduced.f k bt351.2 t377 (⟨#[1]⟩ : ByteArray)).bind fun bt378 => (some (bt378.1, bt378.2.1, bt378.2.2, 0))))) else (some (false, (⟨#[]⟩ : ByteArray), (⟨#[]⟩ : ByteArray), 3))))))))
theorem rational_Parse.mono_l : ∀ k, (∀ y0 y1 y2 y3, LeO (rational_Parse.j0 k y0 y1 y2 y3) (rational_Parse.j0 (k + 1) y0 y1 y2 y3)) ∧ (∀ y0 y1 y2 y3, LeO (rational_Parse.j1 k y0 y1 y2 y3) (rational_Parse.j1 (k + 1) y0 y1 y2 y3)) ∧ (∀ y0 y1 y2 y3, LeO (rational_Parse.j2 k y0 y1 y2 y3) (rational_Parse.j2 (k + 1) y0 y1 y2 y3)) ∧ (∀ y0 y1 y2 y3, LeO (rational_Parse.j3 k y0 y1 y2 y3) (rational_Parse.j3 (k + 1) y0 y1 y2 y3))
 | 0 => ⟨fun _ _ _ _ r h => by simp [rational_Parse.j0] at h, fun _ _ _ _ r h => by simp [rational_Parse.j1] at h, fun _ _ _ _ r h => by simp [rational_Parse.j2] at h, fun _ _ _ _ r h => by simp [rational_Parse.j3] at h⟩
 | k + 1 => by
  obtain ⟨ih0, ih1, ih2, ih3⟩ := rational_Parse.mono_l k
  refine ⟨?_, ?_, ?_, ?_⟩
  ·intro y0 y1 y2 y3
   unfold rational_Parse.j0
   repeat' with_reducible first | exact ih0 _ _ _ _ | exact ih1 _ _ _ _ | exact ih2 _ _ _ _ | exact ih3 _ _ _ _ | exact natural_Add.mono _ _ _ | exact natural_Multiply.mono _ _ _ | exact rational_digits.mono _ _ | exact rational_isDigits.mono _ _ | exact rational_isInteger.mono _ _ | exact rational_reduced.mono _ _ _ _ | exact rational_tenTo.mono _ _ | exact strings_Cut.mono _ _ _ | exact LeO.refl _ | exact LeO.none _ | refine LeO.ite ?_ ?_ | refine LeO.bind ?_ (fun _ => ?_)
  ·intro y0 y1 y2 y3
   unfold rational_Parse.j1
   repeat' with_reducible first | exact ih0 _ _ _ _ | exact ih1 _ _ _ _ | exact ih2 _ _ _ _ | exact ih3 _ _ _ _ | exact natural_Add.mono _ _ _ | exact natural_Multiply.mono _ _ _ | exact rational_digits.mono _ _ | exact rational_isDigits.mono _ _ | exact rational_isInteger.mono _ _ | exact rational_reduced.mono _ _ _ _ | exact rational_tenTo.mono _ _ | exact strings_Cut.mono _ _ _ | exact LeO.refl _ | exact LeO.none _ | refine LeO.ite ?_ ?_ | refine LeO.bind ?_ (fun _ => ?_)
  ·intro y0 y1 y2 y3
   unfold rational_Parse.j2
   repeat' with_reducible first | exact ih0 _ _ _ _ | exact ih1 _ _ _ _ | exact ih2 _ _ _ _ | exact ih3 _ _ _ _ | exact natural_Add.mono _ _ _ | exact natural_Multiply.mono _ _ _ | exact rational_digits.mono _ _ | exact rational_isDigits.mono _ _ | exact rational_isInteger.mono _ _ | exact rational_reduced.mono _ _ _ _ | exact rational_tenTo.mono _ _ | exact strings_Cut.mono _ _ _ | exact LeO.refl _ | exact LeO.none _ | refine LeO.ite ?_ ?_ | refine LeO.bind ?_ (fun _ => ?_)
  ·intro y0 y1 y2 y3
   unfold rational_Parse.j3
   repeat' with_reducible first | exact ih0 _ _ _ _ | exact ih1 _ _ _ _ | exact ih2 _ _ _ _ | exact ih3 _ _ _ _ | exact natural_Add.mono _ _ _ | exact natural_Multiply.mono _ _ _ | exact rational_digits.mono _ _ | exact rational_isDigits.mono _ _ | exact rational_isInteger.mono _ _ | exact rational_reduced.mono _ _ _ _ | exact rational_tenTo.mono _ _ | exact strings_Cut.mono _ _ _ | exact LeO.refl _ | exact LeO.none _ | refine LeO.ite ?_ ?_ | refine LeO.bind ?_ (fun _ => ?_)
theorem rational_Parse.mono : ∀ a0 k, LeO (rational_Parse.f k a0) (rational_Parse.f (k + 1) a0) := by
 intro a0 k
 obtain ⟨ih0, ih1, ih2, ih3⟩ := rational_Parse.mono_l k
 unfold rational_Parse.f
 repeat' with_reducible first | exact ih0 _ _ _ _ | exact ih1 _ _ _ _ | exact ih2 _ _ _ _ | exact ih3 _ _ _ _ | exact natural_Add.mono _ _ _ | exact natural_Multiply.mono _ _ _ | exact rational_digits.mono _ _ | exact rational_isDigits.mono _ _ | exact rational_isInteger.mono _ _ | exact rational_reduced.mono _ _ _ _ | exact rational_tenTo.mono _ _ | exact strings_Cut.mono _ _ _ | exact LeO.refl _ | exact LeO.none _ | refine LeO.ite ?_ ?_ | refine LeO.bind ?_ (fun _ => ?_)
set_option maxHeartbeats 8000000 in
set_option maxRecDepth 100000 in
theorem rational_Parse.calls (k : Nat) (a0 : ByteArray) (r1 : Bool) (r2 : ByteArray) (r3 : ByteArray) (r4 : Int) (w : World) (h : rational_Parse.f k a0 = some (r1, r2, r3, r4)) :
  Calls Tryd.prog 22 #[.string a0] w fun e w' => e = .returned (.tuple #[.agg #[.bool r1, .string r2, .string r3], .int .i64 r4]) ∧ Below w.heap.size w w' := by
 have hu23 := Tryd.underlying23
 have HB := Aside0.mk (Below.refl w.heap.size w)
 have H := h
 clear h
 unfold rational_Parse.f at H
 obtain ⟨⟨t351, t352⟩, A2, H⟩ := bs1 H; dsimp only at H
 obtain ⟨⟨t353, t354, t355⟩, A3, H⟩ := bs1 H; dsimp only at H
 obtain ⟨⟨t356, t357, t358⟩, A4, H⟩ := bs1 H; dsimp only at H
 by_cases c5 : t355 = true
 ·subst c5
  have H1 : ((rational_isInteger.f k t353).bind fun t359 => (if t359 = true then ((rational_isDigits.f k t354).bind fun t360 => (rational_Parse.j0 k t352 t353 t354 (!t360))) else (rational_Parse.j0 k t352 t353 t354 true))) = some (r1, r2, r3, r4) := by rw [if_pos rfl] at H; exact H
  clear H
  have H := H1
  clear H1
  have HC6 := Aside0.mk H
  clear H
  go_enter Tryd.func22, Tryd.ntmps22
  (try (simp only [Exit.then]; refine (by assumption : ∀ (a : Act) (w : World), Code.wp _ _ _ a w → _) _ _ ?_))
  go_upto_region 5 with (first | ((with_reducible refine gd 2 rfl ?_); (try (refine gate_guard (by rfl) ?_; dsimp only)); refine bx 2 (#[.bool false, .string (⟨#[]⟩ : ByteArray), .string (⟨#[]⟩ : ByteArray)]) 23 ?_; intro gb350 hg w7 hbox hb; have BK350 := Aside0.mk (hbox); have GW350 := sg hg HB.out; have GE350 := sg hg HB.out; replace HB := Aside0.mk (bs HB.out hb); clear hb hbox hg) | ((with_reducible refine gc 43 rfl ?_); refine gl (some 15) Tryd.func43 #[.string a0, .string (⟨#[45]⟩ : ByteArray)] ?_; (with_reducible refine (strings_CutPrefix.calls a0 (⟨#[45]⟩ : ByteArray) t351 t352 _ A2.out).mono ?_); rintro e w' ⟨rfl, ⟨nd, rfl⟩⟩; refine ⟨_, rfl, ?_⟩) | ((with_reducible refine gc 44 rfl ?_); refine gl (some 20) Tryd.func44 #[.string t351, .string (⟨#[46]⟩ : ByteArray)] ?_; (with_reducible refine (strings_Cut.calls k t351 (⟨#[46]⟩ : ByteArray) t353 t354 true _ A3.out).mono ?_); rintro e w' ⟨rfl, ⟨nd, rfl⟩⟩; refine ⟨_, rfl, ?_⟩) | ((with_reducible refine gc 44 rfl ?_); refine gl (some 26) Tryd.func44 #[.string t351, .string (⟨#[47]⟩ : ByteArray)] ?_; (with_reducible refine (strings_Cut.calls k t351 (⟨#[47]⟩ : ByteArray) t356 t357 t358 _ A4.out).mono ?_); rintro e w' ⟨rfl, ⟨nd, rfl⟩⟩; refine ⟨_, rfl, ?_⟩))
  (try simp only [Act.put, List.setIfInBounds_toArray, List.set_cons_zero, List.set_cons_succ])
  go_cut [39] (fun v39 wc => ∃ (kq : Nat) (x39_5 : Bool), v39 = .bool x39_5 ∧ Aside0 (rational_Parse.j0 kq t352 t353 t354 x39_5 = some (r1, r2, r3, r4)) ∧ Aside0 (kq ≤ k) ∧ Aside0 (wc.heap[gb350]? = some (.cells #[.bool false, .string (⟨#[]⟩ : ByteArray), .string (⟨#[]⟩ : ByteArray)] 23 (0, 0))) ∧ Aside0 (Below w.heap.size w wc))
  case first =>
   have H := HC6.out
   clear HC6
   obtain ⟨t359, A8, H⟩ := bs1 H
   by_cases c9 : t359 = true
   ·subst c9
    have H1 : ((rational_isDigits.f k t354).bind fun t360 => (rational_Parse.j0 k t352 t353 t354 (!t360))) = some (r1, r2, r3, r4) := by rw [if_pos rfl] at H; exact H
    clear H
    have H := H1
    clear H1
    obtain ⟨t360, A10, H⟩ := bs1 H
    have H' := Aside0.mk H
    clear H
    go_wp2_with (first | ((with_reducible refine gc 45 rfl ?_); refine gl (some 33) Tryd.func45 #[.string t353] ?_; (with_reducible refine (rational_isInteger.calls k t353 true _ A8.out).mono ?_); rintro e w' ⟨rfl, ⟨nd, rfl⟩⟩; refine ⟨_, rfl, ?_⟩) | (go_at_call 46; (with_reducible refine (rational_isDigits.calls k t354 t360 _ A10.out).mono ?_); rintro e w' ⟨rfl, ⟨nd, rfl⟩⟩))
    go_meet
    case rel => exact ⟨_, (!t360), fs, H', ⟨by first | omega | exact Nat.le_refl _⟩, ⟨bq BK350.out⟩, ⟨bz HB.out⟩⟩
   ·replace c9 := Bool.eq_false_iff.mpr c9
    subst c9
    have H1 : (rational_Parse.j0 k t352 t353 t354 true) = some (r1, r2, r3, r4) := by rw [if_neg (show ¬ (false = true) by decide)] at H; exact H
    clear H
    have H := H1
    clear H1
    have H' := Aside0.mk H
    clear H
    go_wp2_with (first | ((with_reducible refine gc 45 rfl ?_); refine gl (some 33) Tryd.func45 #[.string t353] ?_; (with_reducible refine (rational_isInteger.calls k t353 false _ A8.out).mono ?_); rintro e w' ⟨rfl, ⟨nd, rfl⟩⟩; refine ⟨_, rfl, ?_⟩))
    go_meet
    case rel => exact ⟨_, (true), fs, H', ⟨by first | omega | exact Nat.le_refl _⟩, ⟨bq BK350.out⟩, ⟨bz HB.out⟩⟩
  case rest =>
   clear HC6
   (try clear c5); (try clear c9)
   obtain ⟨kq, x39_5, rfl, HA, HJ5, BK350, HB⟩ := hcut
   cases kq with
   | zero => exact absurd HA.out (by simp [rational_Parse.j0])
   | succ kj5 =>
    have H := HA.out
    clear HA
    simp only [rational_Parse.j0] at H
    by_cases c11 : x39_5 = true
    ·subst c11
     have H1 : (some (false, (⟨#[]⟩ : ByteArray), (⟨#[]⟩ : ByteArray), 3)) = some (r1, r2, r3, r4) := by rw [if_pos rfl] at H; exact H
     clear H
     have H := H1
     clear H1
     simp only [Option.some.injEq, Prod.mk.injEq] at H
     obtain ⟨rfl, rfl, rfl, rfl⟩ := H
     obtain ⟨hcz12_0, hcz12_1, hcz12_2, hfz12_0, hfz12_1, hfz12_2⟩ := c3 BK350.out
     go_wp2
     refine bodyPost_ret (results_ct rfl _ _ gb350 23 #[.bool false, .string (⟨#[]⟩ : ByteArray), .string (⟨#[]⟩ : ByteArray)] (0, 0) _ rfl (bq BK350.out) Tryd.underlying23 rfl (by kernel_rfl)) rfl ?_
     exact ⟨fe, bz HB.out⟩
    ·replace c11 := Bool.eq_false_iff.mpr c11
     subst c11
     have H1 : (if (t353.size : Int) > 2000 then (rational_Parse.j1 kj5 t352 t353 t354 true) else (rational_Parse.j1 kj5 t352 t353 t354 (decide ((t354.size : Int) > 2000)))) = some (r1, r2, r3, r4) := by rw [if_neg (show ¬ (false = true) by decide)] at H; exact H
     clear H
     have H := H1
     clear H1
     have HC13 := Aside0.mk H
     clear H
     (try (simp only [Exit.then]; refine (by assumption : ∀ (a : Act) (w : World), Code.wp _ _ _ a w → _) _ _ ?_))
     go_upto_region 7 with (fail)
     go_cut [48] (fun v48 wc => ∃ (kq : Nat) (x48_12 : Bool), v48 = .bool x48_12 ∧ Aside0 (rational_Parse.j1 kq t352 t353 t354 x48_12 = some (r1, r2, r3, r4)) ∧ Aside0 (kq ≤ kj5) ∧ Aside0 (wc.heap[gb350]? = some (.cells #[.bool false, .string (⟨#[]⟩ : ByteArray), .string (⟨#[]⟩ : ByteArray)] 23 (0, 0))) ∧ Aside0 (Below w.heap.size w wc))
     case first =>
      have H := HC13.out
      clear HC13
      by_cases c14 : (t353.size : Int) > 2000
      ·rw [if_pos c14] at H
       have c14b0 : decide (2000 < (t353.size : Int)) = true := decide_eq_true c14
       have c14b1 : decide (2000 < t353.size) = true := decide_eq_true (by omega)
       clear c14
       (first | rw [c14b0] | (simp only [i64_w, i32_w]; rw [c14b0]) | skip)
       have H' := Aside0.mk H
       clear H
       go_wp2
       go_meet
       case rel => exact ⟨_, (true), fs, H', ⟨by have := HJ5.out; first | omega | exact Nat.le_refl _⟩, ⟨bq BK350.out⟩, ⟨bz HB.out⟩⟩
      ·rw [if_neg c14] at H
       have c14b0 : decide (2000 < (t353.size : Int)) = false := decide_eq_false c14
       have c14b1 : decide (2000 < t353.size) = false := decide_eq_false (by omega)
       clear c14
       (first | rw [c14b0] | (simp only [i64_w, i32_w]; rw [c14b0]) | skip)
       have H' := Aside0.mk H
       clear H
       go_wp2
       go_meet
       case rel => exact ⟨_, (decide ((t354.size : Int) > 2000)), fs, H', ⟨by have := HJ5.out; first | omega | exact Nat.le_refl _⟩, ⟨bq BK350.out⟩, ⟨bz HB.out⟩⟩
     case rest =>
      clear HC13
      (try clear c5); (try clear c9); (try clear c11); (try clear c14b0); (try clear c14b1); (try clear hcz12_0); (try clear hcz12_1); (try clear hcz12_2); (try clear hfz12_0); (try clear hfz12_1); (try clear hfz12_2)
      obtain ⟨kq, x48_12, rfl, HA, HJ12, BK350, HB⟩ := hcut
      cases kq with
      | zero => exact absurd HA.out (by simp [rational_Parse.j1])
      | succ kj12 =>
       have H := HA.out
       clear HA
       simp only [rational_Parse.j1] at H
       by_cases c15 : x48_12 = true
       ·subst c15
        have H1 : (some (false, (⟨#[]⟩ : ByteArray), (⟨#[]⟩ : ByteArray), 2)) = some (r1, r2, r3, r4) := by rw [if_pos rfl] at H; exact H
        clear H
        have H := H1
        clear H1
        simp only [Option.some.injEq, Prod.mk.injEq] at H
        obtain ⟨rfl, rfl, rfl, rfl⟩ := H
        obtain ⟨hcz16_0, hcz16_1, hcz16_2, hfz16_0, hfz16_1, hfz16_2⟩ := c3 BK350.out
        go_wp2
        refine bodyPost_ret (results_ct rfl _ _ gb350 23 #[.bool false, .string (⟨#[]⟩ : ByteArray), .string (⟨#[]⟩ : ByteArray)] (0, 0) _ rfl (bq BK350.out) Tryd.underlying23 rfl (by kernel_rfl)) rfl ?_
        exact ⟨fe, bz HB.out⟩
       ·replace c15 := Bool.eq_false_iff.mpr c15
        subst c15
        have H1 : ((rational_tenTo.f kj12 (t354.size : Int)).bind fun t361 => ((rational_digits.f kj12 t353).bind fun t362 => ((natural_Multiply.f kj12 t362 t361).bind fun t363 => ((rational_digits.f kj12 t354).bind fun t364 => ((natural_Add.f kj12 t363 t364).bind fun t365 => ((rational_reduced.f kj12 t352 t365 t361).bind fun bt366 => (some (bt366.1, bt366.2.1, bt366.2.2, 0)))))))) = some (r1, r2, r3, r4) := by rw [if_neg (show ¬ (false = true) by decide)] at H; exact H
        clear H
        have H := H1
        clear H1
        obtain ⟨t361, A17, H⟩ := bs1 H
        obtain ⟨t362, A18, H⟩ := bs1 H
        obtain ⟨t363, A19, H⟩ := bs1 H
        obtain ⟨t364, A20, H⟩ := bs1 H
        obtain ⟨t365, A21, H⟩ := bs1 H
        obtain ⟨⟨t366, t367, t368⟩, A22, H⟩ := bs1 H; dsimp only at H
        simp only [Option.some.injEq, Prod.mk.injEq] at H
        obtain ⟨rfl, rfl, rfl, rfl⟩ := H
        go_wp2_with (first | ((with_reducible refine gc 47 rfl ?_); refine gl (some 52) Tryd.func47 #[.int .i64 (t354.size : Int)] ?_; (with_reducible refine (rational_tenTo.calls kj12 (t354.size : Int) t361 _ A17.out).mono ?_); rintro e w23 ⟨rfl, hb⟩; refine ⟨_, rfl, ?_⟩; replace BK350 := Aside0.mk (bk0 BK350.out hb); replace HB := Aside0.mk (bs HB.out hb); (try clear hb)) | ((with_reducible refine gc 49 rfl ?_); refine gl (some 55) Tryd.func49 #[.string t353] ?_; (with_reducible refine (rational_digits.calls kj12 t353 t362 _ A18.out).mono ?_); rintro e w24 ⟨rfl, hb⟩; refine ⟨_, rfl, ?_⟩; replace BK350 := Aside0.mk (bk0 BK350.out hb); replace HB := Aside0.mk (bs HB.out hb); (try clear hb)) | ((with_reducible refine gc 40 rfl ?_); refine gl (some 57) Tryd.func40 #[.string t362, .string t361] ?_; (with_reducible refine (natural_Multiply.calls kj12 t362 t361 t363 _ A19.out).mono ?_); rintro e w25 ⟨rfl, hb⟩; refine ⟨_, rfl, ?_⟩; replace BK350 := Aside0.mk (bk0 BK350.out hb); replace HB := Aside0.mk (bs HB.out hb); (try clear hb)) | ((with_reducible refine gc 49 rfl ?_); refine gl (some 59) Tryd.func49 #[.string t354] ?_; (with_reducible refine (rational_digits.calls kj12 t354 t364 _ A20.out).mono ?_); rintro e w26 ⟨rfl, hb⟩; refine ⟨_, rfl, ?_⟩; replace BK350 := Aside0.mk (bk0 BK350.out hb); replace HB := Aside0.mk (bs HB.out hb); (try clear hb)) | ((with_reducible refine gc 48 rfl ?_); refine gl (some 60) Tryd.func48 #[.string t363, .string t364] ?_; (with_reducible refine (natural_Add.calls kj12 t363 t364 t365 _ A21.out).mono ?_); rintro e w27 ⟨rfl, hb⟩; refine ⟨_, rfl, ?_⟩; replace BK350 := Aside0.mk (bk0 BK350.out hb); replace HB := Aside0.mk (bs HB.out hb); (try clear hb)) | ((with_reducible refine gc 30 rfl ?_); refine gl (some 62) Tryd.func30 #[.bool t352, .string t365, .string t361] ?_; (with_reducible refine (rational_reduced.calls kj12 t352 t365 t361 t366 t367 t368 _ A22.out).mono ?_); rintro e w28 ⟨rfl, hb⟩; refine ⟨_, rfl, ?_⟩; replace BK350 := Aside0.mk (bk0 BK350.out hb); replace HB := Aside0.mk (bs HB.out hb); (try clear hb); obtain ⟨hcz29_0, hcz29_1, hcz29_2, hfz29_0, hfz29_1, hfz29_2⟩ := c3 BK350.out))
        refine bodyPost_ret (results_ct rfl _ _ gb350 23 #[.bool t366, .string t367, .string t368] (0, 0) _ rfl (bq BK350.out) Tryd.underlying23 rfl (by kernel_rfl)) rfl ?_
        exact ⟨fe, bz HB.out⟩
 ·replace c5 := Bool.eq_false_iff.mpr c5
  subst c5
  have H1 : (if t358 = true then ((rational_isInteger.f k t356).bind fun t369 => (if t369 = true then ((rational_isInteger.f k t357).bind fun t370 => (rational_Parse.j2 k t352 t356 t357 (!t370))) else (rational_Parse.j2 k t352 t356 t357 true))) else ((rational_isInteger.f k t351).bind fun t376 => (if t376 = true then (if (t351.size : Int) > 2000 then (some (false, (⟨#[]⟩ : ByteArray), (⟨#[]⟩ : ByteArray), 2)) else ((rational_digits.f k t351).bind fun t377 => ((rational_reduced.f k t352 t377 (⟨#[1]⟩ : ByteArray)).bind fun bt378 => (some (bt378.1, bt378.2.1, bt378.2.2, 0))))) else (some (false, (⟨#[]⟩ : ByteArray), (⟨#[]⟩ : ByteArray), 3))))) = some (r1, r2, r3, r4) := by rw [if_neg (show ¬ (false = true) by decide)] at H; exact H
  clear H
  have H := H1
  clear H1
  by_cases c30 : t358 = true
  ·subst c30
   have H1 : ((rational_isInteger.f k t356).bind fun t369 => (if t369 = true then ((rational_isInteger.f k t357).bind fun t370 => (rational_Parse.j2 k t352 t356 t357 (!t370))) else (rational_Parse.j2 k t352 t356 t357 true))) = some (r1, r2, r3, r4) := by rw [if_pos rfl] at H; exact H
   clear H
   have H := H1
   clear H1
   have HC31 := Aside0.mk H
   clear H
   go_enter Tryd.func22, Tryd.ntmps22
   (try (simp only [Exit.then]; refine (by assumption : ∀ (a : Act) (w : World), Code.wp _ _ _ a w → _) _ _ ?_))
   go_upto_region 12 with (first | ((with_reducible refine gd 2 rfl ?_); (try (refine gate_guard (by rfl) ?_; dsimp only)); refine bx 2 (#[.bool false, .string (⟨#[]⟩ : ByteArray), .string (⟨#[]⟩ : ByteArray)]) 23 ?_; intro gb350 hg w32 hbox hb; have BK350 := Aside0.mk (hbox); have GW350 := sg hg HB.out; have GE350 := sg hg HB.out; replace HB := Aside0.mk (bs HB.out hb); clear hb hbox hg) | ((with_reducible refine gc 43 rfl ?_); refine gl (some 15) Tryd.func43 #[.string a0, .string (⟨#[45]⟩ : ByteArray)] ?_; (with_reducible refine (strings_CutPrefix.calls a0 (⟨#[45]⟩ : ByteArray) t351 t352 _ A2.out).mono ?_); rintro e w' ⟨rfl, ⟨nd, rfl⟩⟩; refine ⟨_, rfl, ?_⟩) | ((with_reducible refine gc 44 rfl ?_); refine gl (some 20) Tryd.func44 #[.string t351, .string (⟨#[46]⟩ : ByteArray)] ?_; (with_reducible refine (strings_Cut.calls k t351 (⟨#[46]⟩ : ByteArray) t353 t354 false _ A3.out).mono ?_); rintro e w' ⟨rfl, ⟨nd, rfl⟩⟩; refine ⟨_, rfl, ?_⟩) | ((with_reducible refine gc 44 rfl ?_); refine gl (some 26) Tryd.func44 #[.string t351, .string (⟨#[47]⟩ : ByteArray)] ?_; (with_reducible refine (strings_Cut.calls k t351 (⟨#[47]⟩ : ByteArray) t356 t357 true _ A4.out).mono ?_); rintro e w' ⟨rfl, ⟨nd, rfl⟩⟩; refine ⟨_, rfl, ?_⟩))
   (try simp only [Act.put, List.setIfInBounds_toArray, List.set_cons_zero, List.set_cons_succ])
   go_cut [72] (fun v72 wc => ∃ (kq : Nat) (x72_30 : Bool), v72 = .bool x72_30 ∧ Aside0 (rational_Parse.j2 kq t352 t356 t357 x72_30 = some (r1, r2, r3, r4)) ∧ Aside0 (kq ≤ k) ∧ Aside0 (wc.heap[gb350]? = some (.cells #[.bool false, .string (⟨#[]⟩ : ByteArray), .string (⟨#[]⟩ : ByteArray)] 23 (0, 0))) ∧ Aside0 (Below w.heap.size w wc))
   case first =>
    have H := HC31.out
    clear HC31
    obtain ⟨t369, A33, H⟩ := bs1 H
    by_cases c34 : t369 = true
    ·subst c34
     have H1 : ((rational_isInteger.f k t357).bind fun t370 => (rational_Parse.j2 k t352 t356 t357 (!t370))) = some (r1, r2, r3, r4) := by rw [if_pos rfl] at H; exact H
     clear H
     have H := H1
     clear H1
     obtain ⟨t370, A35, H⟩ := bs1 H
     have H' := Aside0.mk H
     clear H
     go_wp2_with (first | ((with_reducible refine gc 45 rfl ?_); refine gl (some 66) Tryd.func45 #[.string t356] ?_; (with_reducible refine (rational_isInteger.calls k t356 true _ A33.out).mono ?_); rintro e w' ⟨rfl, ⟨nd, rfl⟩⟩; refine ⟨_, rfl, ?_⟩) | (go_at_call 45; (with_reducible refine (rational_isInteger.calls k t357 t370 _ A35.out).mono ?_); rintro e w' ⟨rfl, ⟨nd, rfl⟩⟩))
     go_meet
     case rel => exact ⟨_, (!t370), fs, H', ⟨by first | omega | exact Nat.le_refl _⟩, ⟨bq BK350.out⟩, ⟨bz HB.out⟩⟩
    ·replace c34 := Bool.eq_false_iff.mpr c34
     subst c34
     have H1 : (rational_Parse.j2 k t352 t356 t357 true) = some (r1, r2, r3, r4) := by rw [if_neg (show ¬ (false = true) by decide)] at H; exact H
     clear H
     have H := H1
     clear H1
     have H' := Aside0.mk H
     clear H
     go_wp2_with (first | ((with_reducible refine gc 45 rfl ?_); refine gl (some 66) Tryd.func45 #[.string t356] ?_; (with_reducible refine (rational_isInteger.calls k t356 false _ A33.out).mono ?_); rintro e w' ⟨rfl, ⟨nd, rfl⟩⟩; refine ⟨_, rfl, ?_⟩))
     go_meet
     case rel => exact ⟨_, (true), fs, H', ⟨by first | omega | exact Nat.le_refl _⟩, ⟨bq BK350.out⟩, ⟨bz HB.out⟩⟩
   case rest =>
    clear HC31
    (try clear c5); (try clear c9); (try clear c11); (try clear c14b0); (try clear c14b1); (try clear c15); (try clear c30); (try clear c34); (try clear hcz12_0); (try clear hcz12_1); (try clear hcz12_2); (try clear hcz16_0); (try clear hcz16_1); (try clear hcz16_2); (try clear hcz29_0); (try clear hcz29_1); (try clear hcz29_2); (try clear hfz12_0); (try clear hfz12_1); (try clear hfz12_2); (try clear hfz16_0); (try clear hfz16_1); (try clear hfz16_2); (try clear hfz29_0); (try clear hfz29_1); (try clear hfz29_2)
    obtain ⟨kq, x72_30, rfl, HA, HJ30, BK350, HB⟩ := hcut
    cases kq with
    | zero => exact absurd HA.out (by simp [rational_Parse.j2])
    | succ kj30 =>
     have H := HA.out
     clear HA
     simp only [rational_Parse.j2] at H
     by_cases c36 : x72_30 = true
     ·subst c36
      have H1 : (some (false, (⟨#[]⟩ : ByteArray), (⟨#[]⟩ : ByteArray), 3)) = some (r1, r2, r3, r4) := by rw [if_pos rfl] at H; exact H
      clear H
      have H := H1
      clear H1
      simp only [Option.some.injEq, Prod.mk.injEq] at H
      obtain ⟨rfl, rfl, rfl, rfl⟩ := H
      obtain ⟨hcz37_0, hcz37_1, hcz37_2, hfz37_0, hfz37_1, hfz37_2⟩ := c3 BK350.out
      go_wp2
      refine bodyPost_ret (results_ct rfl _ _ gb350 23 #[.bool false, .string (⟨#[]⟩ : ByteArray), .string (⟨#[]⟩ : ByteArray)] (0, 0) _ rfl (bq BK350.out) Tryd.underlying23 rfl (by kernel_rfl)) rfl ?_
      exact ⟨fe, bz HB.out⟩
     ·replace c36 := Bool.eq_false_iff.mpr c36
      subst c36
      have H1 : (if (t356.size : Int) > 2000 then (rational_Parse.j3 kj30 t352 t356 t357 true) else (rational_Parse.j3 kj30 t352 t356 t357 (decide ((t357.size : Int) > 2000)))) = some (r1, r2, r3, r4) := by rw [if_neg (show ¬ (false = true) by decide)] at H; exact H
      clear H
      have H := H1
      clear H1
      have HC38 := Aside0.mk H
      clear H
      (try (simp only [Exit.then]; refine (by assumption : ∀ (a : Act) (w : World), Code.wp _ _ _ a w → _) _ _ ?_))
      go_upto_region 14 with (fail)
      go_cut [81] (fun v81 wc => ∃ (kq : Nat) (x81_37 : Bool), v81 = .bool x81_37 ∧ Aside0 (rational_Parse.j3 kq t352 t356 t357 x81_37 = some (r1, r2, r3, r4)) ∧ Aside0 (kq ≤ kj30) ∧ Aside0 (wc.heap[gb350]? = some (.cells #[.bool false, .string (⟨#[]⟩ : ByteArray), .string (⟨#[]⟩ : ByteArray)] 23 (0, 0))) ∧ Aside0 (Below w.heap.size w wc))
      case first =>
       have H := HC38.out
       clear HC38
       by_cases c39 : (t356.size : Int) > 2000
       ·rw [if_pos c39] at H
        have c39b0 : decide (2000 < (t356.size : Int)) = true := decide_eq_true c39
        have c39b1 : decide (2000 < t356.size) = true := decide_eq_true (by omega)
        clear c39
        (first | rw [c39b0] | (simp only [i64_w, i32_w]; rw [c39b0]) | skip)
        have H' := Aside0.mk H
        clear H
        go_wp2
        go_meet
        case rel => exact ⟨_, (true), fs, H', ⟨by have := HJ30.out; first | omega | exact Nat.le_refl _⟩, ⟨bq BK350.out⟩, ⟨bz HB.out⟩⟩
       ·rw [if_neg c39] at H
        have c39b0 : decide (2000 < (t356.size : Int)) = false := decide_eq_false c39
        have c39b1 : decide (2000 < t356.size) = false := decide_eq_false (by omega)
        clear c39
        (first | rw [c39b0] | (simp only [i64_w, i32_w]; rw [c39b0]) | skip)
        have H' := Aside0.mk H
        clear H
        go_wp2
        go_meet
        case rel => exact ⟨_, (decide ((t357.size : Int) > 2000)), fs, H', ⟨by have := HJ30.out; first | omega | exact Nat.le_refl _⟩, ⟨bq BK350.out⟩, ⟨bz HB.out⟩⟩
      case rest =>
       clear HC38
       (try clear c5); (try clear c9); (try clear c11); (try clear c14b0); (try clear c14b1); (try clear c15); (try clear c30); (try clear c34); (try clear c36); (try clear c39b0); (try clear c39b1); (try clear hcz12_0); (try clear hcz12_1); (try clear hcz12_2); (try clear hcz16_0); (try clear hcz16_1); (try clear hcz16_2); (try clear hcz29_0); (try clear hcz29_1); (try clear hcz29_2); (try clear hcz37_0); (try clear hcz37_1); (try clear hcz37_2); (try clear hfz12_0); (try clear hfz12_1); (try clear hfz12_2); (try clear hfz16_0); (try clear hfz16_1); (try clear hfz16_2); (try clear hfz29_0); (try clear hfz29_1); (try clear hfz29_2); (try clear hfz37_0); (try clear hfz37_1); (try clear hfz37_2)
       obtain ⟨kq, x81_37, rfl, HA, HJ37, BK350, HB⟩ := hcut
       cases kq with
       | zero => exact absurd HA.out (by simp [rational_Parse.j3])
       | succ kj37 =>
        have H := HA.out
        clear HA
        simp only [rational_Parse.j3] at H
        by_cases c40 : x81_37 = true
        ·subst c40
         have H1 : (some (false, (⟨#[]⟩ : ByteArray), (⟨#[]⟩ : ByteArray), 2)) = some (r1, r2, r3, r4) := by rw [if_pos rfl] at H; exact H
         clear H
         have H := H1
         clear H1
         simp only [Option.some.injEq, Prod.mk.injEq] at H
         obtain ⟨rfl, rfl, rfl, rfl⟩ := H
         obtain ⟨hcz41_0, hcz41_1, hcz41_2, hfz41_0, hfz41_1, hfz41_2⟩ := c3 BK350.out
         go_wp2
         refine bodyPost_ret (results_ct rfl _ _ gb350 23 #[.bool false, .string (⟨#[]⟩ : ByteArray), .string (⟨#[]⟩ : ByteArray)] (0, 0) _ rfl (bq BK350.out) Tryd.underlying23 rfl (by kernel_rfl)) rfl ?_
         exact ⟨fe, bz HB.out⟩
        ·replace c40 := Bool.eq_false_iff.mpr c40
         subst c40
         have H1 : (if t357.toList = ([48] : List UInt8) then (some (false, (⟨#[]⟩ : ByteArray), (⟨#[]⟩ : ByteArray), 1)) else ((rational_digits.f kj37 t356).bind fun t371 => ((rational_digits.f kj37 t357).bind fun t372 => ((rational_reduced.f kj37 t352 t371 t372).bind fun bt373 => (some (bt373.1, bt373.2.1, bt373.2.2, 0)))))) = some (r1, r2, r3, r4) := by rw [if_neg (show ¬ (false = true) by decide)] at H; exact H
         clear H
         have H := H1
         clear H1
         by_cases c42 : t357.toList = ([48] : List UInt8)
         ·rw [if_pos c42] at H
          have c42b0 := beq_iff_eq.mpr c42
          have c42b1 := bne_eq_false_iff_eq.mpr c42
          clear c42
          simp only [Option.some.injEq, Prod.mk.injEq] at H
          obtain ⟨rfl, rfl, rfl, rfl⟩ := H
          obtain ⟨hcz43_0, hcz43_1, hcz43_2, hfz43_0, hfz43_1, hfz43_2⟩ := c3 BK350.out
          go_wp2
          refine bodyPost_ret (results_ct rfl _ _ gb350 23 #[.bool false, .string (⟨#[]⟩ : ByteArray), .string (⟨#[]⟩ : ByteArray)] (0, 0) _ rfl (bq BK350.out) Tryd.underlying23 rfl (by kernel_rfl)) rfl ?_
          exact ⟨fe, bz HB.out⟩
         ·rw [if_neg c42] at H
          have c42b0 := beq_eq_false_iff_ne.mpr c42
          have c42b1 := bne_iff_ne.mpr c42
          obtain ⟨t371, A44, H⟩ := bs1 H
          obtain ⟨t372, A45, H⟩ := bs1 H
          obtain ⟨⟨t373, t374, t375⟩, A46, H⟩ := bs1 H; dsimp only at H
          simp only [Option.some.injEq, Prod.mk.injEq] at H
          obtain ⟨rfl, rfl, rfl, rfl⟩ := H
          go_wp2_with (first | ((with_reducible refine gc 49 rfl ?_); refine gl (some 88) Tryd.func49 #[.string t356] ?_; (with_reducible refine (rational_digits.calls kj37 t356 t371 _ A44.out).mono ?_); rintro e w47 ⟨rfl, hb⟩; refine ⟨_, rfl, ?_⟩; replace BK350 := Aside0.mk (bk0 BK350.out hb); replace HB := Aside0.mk (bs HB.out hb); (try clear hb)) | ((with_reducible refine gc 49 rfl ?_); refine gl (some 90) Tryd.func49 #[.string t357] ?_; (with_reducible refine (rational_digits.calls kj37 t357 t372 _ A45.out).mono ?_); rintro e w48 ⟨rfl, hb⟩; refine ⟨_, rfl, ?_⟩; replace BK350 := Aside0.mk (bk0 BK350.out hb); replace HB := Aside0.mk (bs HB.out hb); (try clear hb)) | ((with_reducible refine gc 30 rfl ?_); refine gl (some 91) Tryd.func30 #[.bool t352, .string t371, .string t372] ?_; (with_reducible refine (rational_reduced.calls kj37 t352 t371 t372 t373 t374 t375 _ A46.out).mono ?_); rintro e w49 ⟨rfl, hb⟩; refine ⟨_, rfl, ?_⟩; replace BK350 := Aside0.mk (bk0 BK350.out hb); replace HB := Aside0.mk (bs HB.out hb); (try clear hb); obtain ⟨hcz50_0, hcz50_1, hcz50_2, hfz50_0, hfz50_1, hfz50_2⟩ := c3 BK350.out))
          refine bodyPost_ret (results_ct rfl _ _ gb350 23 #[.bool t373, .string t374, .string t375] (0, 0) _ rfl (bq BK350.out) Tryd.underlying23 rfl (by kernel_rfl)) rfl ?_
          exact ⟨fe, bz HB.out⟩
  ·replace c30 := Bool.eq_false_iff.mpr c30
   subst c30
   have H1 : ((rational_isInteger.f k t351).bind fun t376 => (if t376 = true then (if (t351.size : Int) > 2000 then (some (false, (⟨#[]⟩ : ByteArray), (⟨#[]⟩ : ByteArray), 2)) else ((rational_digits.f k t351).bind fun t377 => ((rational_reduced.f k t352 t377 (⟨#[1]⟩ : ByteArray)).bind fun bt378 => (some (bt378.1, bt378.2.1, bt378.2.2, 0))))) else (some (false, (⟨#[]⟩ : ByteArray), (⟨#[]⟩ : ByteArray), 3)))) = some (r1, r2, r3, r4) := by rw [if_neg (show ¬ (false = true) by decide)] at H; exact H
   clear H
   have H := H1
   clear H1
   obtain ⟨t376, A51, H⟩ := bs1 H
   by_cases c52 : t376 = true
   ·subst c52
    have H1 : (if (t351.size : Int) > 2000 then (some (false, (⟨#[]⟩ : ByteArray), (⟨#[]⟩ : ByteArray), 2)) else ((rational_digits.f k t351).bind fun t377 => ((rational_reduced.f k t352 t377 (⟨#[1]⟩ : ByteArray)).bind fun bt378 => (some (bt378.1, bt378.2.1, bt378.2.2, 0))))) = some (r1, r2, r3, r4) := by rw [if_pos rfl] at H; exact H
    clear H
    have H := H1
    clear H1
    by_cases c53 : (t351.size : Int) > 2000
    ·rw [if_pos c53] at H
     have c53b0 : decide (2000 < (t351.size : Int)) = true := decide_eq_true c53
     have c53b1 : decide (2000 < t351.size) = true := decide_eq_true (by omega)
     clear c53
     simp only [Option.some.injEq, Prod.mk.injEq] at H
     obtain ⟨rfl, rfl, rfl, rfl⟩ := H
     go_enter Tryd.func22, Tryd.ntmps22
     go_wp2_with (first | ((with_reducible refine gd 2 rfl ?_); (try (refine gate_guard (by rfl) ?_; dsimp only)); refine bx 2 (#[.bool false, .string (⟨#[]⟩ : ByteArray), .string (⟨#[]⟩ : ByteArray)]) 23 ?_; intro gb350 hg w54 hbox hb; have BK350 := Aside0.mk (hbox); have GW350 := sg hg HB.out; have GE350 := sg hg HB.out; replace HB := Aside0.mk (bs HB.out hb); clear hb hbox hg) | ((with_reducible refine gc 43 rfl ?_); refine gl (some 15) Tryd.func43 #[.string a0, .string (⟨#[45]⟩ : ByteArray)] ?_; (with_reducible refine (strings_CutPrefix.calls a0 (⟨#[45]⟩ : ByteArray) t351 t352 _ A2.out).mono ?_); rintro e w' ⟨rfl, ⟨nd, rfl⟩⟩; refine ⟨_, rfl, ?_⟩; (try (rw [drewN_self w54]; generalize hq_ : World.drewN w54 _ = w54; have n0_ : Aside0 (w54.heap[gb350]? = some (.cells #[.bool false, .string (⟨#[]⟩ : ByteArray), .string (⟨#[]⟩ : ByteArray)] 23 (0, 0))) := ⟨by rw [← hq_]; exact (bq BK350.out)⟩; have n1_ : Aside0 (Below w.heap.size w w54) := ⟨by rw [← hq_]; exact (bz HB.out)⟩; clear BK350 HB hq_; have BK350 := n0_; have HB := n1_; clear n0_ n1_))) | ((with_reducible refine gc 44 rfl ?_); refine gl (some 20) Tryd.func44 #[.string t351, .string (⟨#[46]⟩ : ByteArray)] ?_; (with_reducible refine (strings_Cut.calls k t351 (⟨#[46]⟩ : ByteArray) t353 t354 false _ A3.out).mono ?_); rintro e w' ⟨rfl, ⟨nd, rfl⟩⟩; refine ⟨_, rfl, ?_⟩; (try (rw [drewN_self w54]; generalize hq_ : World.drewN w54 _ = w54; have n0_ : Aside0 (w54.heap[gb350]? = some (.cells #[.bool false, .string (⟨#[]⟩ : ByteArray), .string (⟨#[]⟩ : ByteArray)] 23 (0, 0))) := ⟨by rw [← hq_]; exact (bq BK350.out)⟩; have n1_ : Aside0 (Below w.heap.size w w54) := ⟨by rw [← hq_]; exact (bz HB.out)⟩; clear BK350 HB hq_; have BK350 := n0_; have HB := n1_; clear n0_ n1_))) | ((with_reducible refine gc 44 rfl ?_); refine gl (some 26) Tryd.func44 #[.string t351, .string (⟨#[47]⟩ : ByteArray)] ?_; (with_reducible refine (strings_Cut.calls k t351 (⟨#[47]⟩ : ByteArray) t356 t357 false _ A4.out).mono ?_); rintro e w' ⟨rfl, ⟨nd, rfl⟩⟩; refine ⟨_, rfl, ?_⟩; (try (rw [drewN_self w54]; generalize hq_ : World.drewN w54 _ = w54; have n0_ : Aside0 (w54.heap[gb350]? = some (.cells #[.bool false, .string (⟨#[]⟩ : ByteArray), .string (⟨#[]⟩ : ByteArray)] 23 (0, 0))) := ⟨by rw [← hq_]; exact (bq BK350.out)⟩; have n1_ : Aside0 (Below w.heap.size w w54) := ⟨by rw [← hq_]; exact (bz HB.out)⟩; clear BK350 HB hq_; have BK350 := n0_; have HB := n1_; clear n0_ n1_))) | ((with_reducible refine gc 45 rfl ?_); refine gl (some 94) Tryd.func45 #[.string t351] ?_; (with_reducible refine (rational_isInteger.calls k t351 true _ A51.out).mono ?_); rintro e w' ⟨rfl, ⟨nd, rfl⟩⟩; refine ⟨_, rfl, ?_⟩; (try (rw [drewN_self w54]; generalize hq_ : World.drewN w54 _ = w54; have n0_ : Aside0 (w54.heap[gb350]? = some (.cells #[.bool false, .string (⟨#[]⟩ : ByteArray), .string (⟨#[]⟩ : ByteArray)] 23 (0, 0))) := ⟨by rw [← hq_]; exact (bq BK350.out)⟩; have n1_ : Aside0 (Below w.heap.size w w54) := ⟨by rw [← hq_]; exact (bz HB.out)⟩; clear BK350 HB hq_; have BK350 := n0_; have HB := n1_; clear n0_ n1_)); obtain ⟨hcz55_0, hcz55_1, hcz55_2, hfz55_0, hfz55_1, hfz55_2⟩ := c3 BK350.out))
     refine bodyPost_ret (results_ct rfl _ _ gb350 23 #[.bool false, .string (⟨#[]⟩ : ByteArray), .string (⟨#[]⟩ : ByteArray)] (0, 0) _ rfl (bq BK350.out) Tryd.underlying23 rfl (by kernel_rfl)) rfl ?_
     exact ⟨fe, bz HB.out⟩
    ·rw [if_neg c53] at H
     have c53b0 : decide (2000 < (t351.size : Int)) = false := decide_eq_false c53
     have c53b1 : decide (2000 < t351.size) = false := decide_eq_false (by omega)
     clear c53
     obtain ⟨t377, A56, H⟩ := bs1 H
     obtain ⟨⟨t378, t379, t380⟩, A57, H⟩ := bs1 H; dsimp only at H
     simp only [Option.some.injEq, Prod.mk.injEq] at H
     obtain ⟨rfl, rfl, rfl, rfl⟩ := H
     go_enter Tryd.func22, Tryd.ntmps22
     go_wp2_with (first | ((with_reducible refine gd 2 rfl ?_); (try (refine gate_guard (by rfl) ?_; dsimp only)); refine bx 2 (#[.bool false, .string (⟨#[]⟩ : ByteArray), .string (⟨#[]⟩ : ByteArray)]) 23 ?_; intro gb350 hg w58 hbox hb; have BK350 := Aside0.mk (hbox); have GW350 := sg hg HB.out; have GE350 := sg hg HB.out; replace HB := Aside0.mk (bs HB.out hb); clear hb hbox hg) | ((with_reducible refine gc 43 rfl ?_); refine gl (some 15) Tryd.func43 #[.string a0, .string (⟨#[45]⟩ : ByteArray)] ?_; (with_reducible refine (strings_CutPrefix.calls a0 (⟨#[45]⟩ : ByteArray) t351 t352 _ A2.out).mono ?_); rintro e w' ⟨rfl, ⟨nd, rfl⟩⟩; refine ⟨_, rfl, ?_⟩; (try (rw [drewN_self w58]; generalize hq_ : World.drewN w58 _ = w58; have n0_ : Aside0 (w58.heap[gb350]? = some (.cells #[.bool false, .string (⟨#[]⟩ : ByteArray), .string (⟨#[]⟩ : ByteArray)] 23 (0, 0))) := ⟨by rw [← hq_]; exact (bq BK350.out)⟩; have n1_ : Aside0 (Below w.heap.size w w58) := ⟨by rw [← hq_]; exact (bz HB.out)⟩; clear BK350 HB hq_; have BK350 := n0_; have HB := n1_; clear n0_ n1_))) | ((with_reducible refine gc 44 rfl ?_); refine gl (some 20) Tryd.func44 #[.string t351, .string (⟨#[46]⟩ : ByteArray)] ?_; (with_reducible refine (strings_Cut.calls k t351 (⟨#[46]⟩ : ByteArray) t353 t354 false _ A3.out).mono ?_); rintro e w' ⟨rfl, ⟨nd, rfl⟩⟩; refine ⟨_, rfl, ?_⟩; (try (rw [drewN_self w58]; generalize hq_ : World.drewN w58 _ = w58; have n0_ : Aside0 (w58.heap[gb350]? = some (.cells #[.bool false, .string (⟨#[]⟩ : ByteArray), .string (⟨#[]⟩ : ByteArray)] 23 (0, 0))) := ⟨by rw [← hq_]; exact (bq BK350.out)⟩; have n1_ : Aside0 (Below w.heap.size w w58) := ⟨by rw [← hq_]; exact (bz HB.out)⟩; clear BK350 HB hq_; have BK350 := n0_; have HB := n1_; clear n0_ n1_))) | ((with_reducible refine gc 44 rfl ?_); refine gl (some 26) Tryd.func44 #[.string t351, .string (⟨#[47]⟩ : ByteArray)] ?_; (with_reducible refine (strings_Cut.calls k t351 (⟨#[47]⟩ : ByteArray) t356 t357 false _ A4.out).mono ?_); rintro e w' ⟨rfl, ⟨nd, rfl⟩⟩; refine ⟨_, rfl, ?_⟩; (try (rw [drewN_self w58]; generalize hq_ : World.drewN w58 _ = w58; have n0_ : Aside0 (w58.heap[gb350]? = some (.cells #[.bool false, .string (⟨#[]⟩ : ByteArray), .string (⟨#[]⟩ : ByteArray)] 23 (0, 0))) := ⟨by rw [← hq_]; exact (bq BK350.out)⟩; have n1_ : Aside0 (Below w.heap.size w w58) := ⟨by rw [← hq_]; exact (bz HB.out)⟩; clear BK350 HB hq_; have BK350 := n0_; have HB := n1_; clear n0_ n1_))) | ((with_reducible refine gc 45 rfl ?_); refine gl (some 94) Tryd.func45 #[.string t351] ?_; (with_reducible refine (rational_isInteger.calls k t351 true _ A51.out).mono ?_); rintro e w' ⟨rfl, ⟨nd, rfl⟩⟩; refine ⟨_, rfl, ?_⟩; (try (rw [drewN_self w58]; generalize hq_ : World.drewN w58 _ = w58; have n0_ : Aside0 (w58.heap[gb350]? = some (.cells #[.bool false, .string (⟨#[]⟩ : ByteArray), .string (⟨#[]⟩ : ByteArray)] 23 (0, 0))) := ⟨by rw [← hq_]; exact (bq BK350.out)⟩; have n1_ : Aside0 (Below w.heap.size w w58) := ⟨by rw [← hq_]; exact (bz HB.out)⟩; clear BK350 HB hq_; have BK350 := n0_; have HB := n1_; clear n0_ n1_))) | ((with_reducible refine gc 49 rfl ?_); refine gl (some 104) Tryd.func49 #[.string t351] ?_; (with_reducible refine (rational_digits.calls k t351 t377 _ A56.out).mono ?_); rintro e w59 ⟨rfl, hb⟩; refine ⟨_, rfl, ?_⟩; replace BK350 := Aside0.mk (bk0 BK350.out hb); replace HB := Aside0.mk (bs HB.out hb); (try clear hb)) | ((with_reducible refine gc 30 rfl ?_); refine gl (some 105) Tryd.func30 #[.bool t352, .string t377, .string (⟨#[1]⟩ : ByteArray)] ?_; (with_reducible refine (rational_reduced.calls k t352 t377 (⟨#[1]⟩ : ByteArray) t378 t379 t380 _ A57.out).mono ?_); rintro e w60 ⟨rfl, hb⟩; refine ⟨_, rfl, ?_⟩; replace BK350 := Aside0.mk (bk0 BK350.out hb); replace HB := Aside0.mk (bs HB.out hb); (try clear hb); obtain ⟨hcz61_0, hcz61_1, hcz61_2, hfz61_0, hfz61_1, hfz61_2⟩ := c3 BK350.out))
     refine bodyPost_ret (results_ct rfl _ _ gb350 23 #[.bool t378, .string t379, .string t380] (0, 0) _ rfl (bq BK350.out) Tryd.underlying23 rfl (by kernel_rfl)) rfl ?_
     exact ⟨fe, bz HB.out⟩
   ·replace c52 := Bool.eq_false_iff.mpr c52
    subst c52
    have H1 : (some (false, (⟨#[]⟩ : ByteArray), (⟨#[]⟩ : ByteArray), 3)) = some (r1, r2, r3, r4) := by rw [if_neg (show ¬ (false = true) by decide)] at H; exact H
    clear H
    have H := H1
    clear H1
    simp only [Option.some.injEq, Prod.mk.injEq] at H
    obtain ⟨rfl, rfl, rfl, rfl⟩ := H
    go_enter Tryd.func22, Tryd.ntmps22
    go_wp2_with (first | ((with_reducible refine gd 2 rfl ?_); (try (refine gate_guard (by rfl) ?_; dsimp only)); refine bx 2 (#[.bool false, .string (⟨#[]⟩ : ByteArray), .string (⟨#[]⟩ : ByteArray)]) 23 ?_; intro gb350 hg w62 hbox hb; have BK350 := Aside0.mk (hbox); have GW350 := sg hg HB.out; have GE350 := sg hg HB.out; replace HB := Aside0.mk (bs HB.out hb); clear hb hbox hg) | ((with_reducible refine gc 43 rfl ?_); refine gl (some 15) Tryd.func43 #[.string a0, .string (⟨#[45]⟩ : ByteArray)] ?_; (with_reducible refine (strings_CutPrefix.calls a0 (⟨#[45]⟩ : ByteArray) t351 t352 _ A2.out).mono ?_); rintro e w' ⟨rfl, ⟨nd, rfl⟩⟩; refine ⟨_, rfl, ?_⟩; (try (rw [drewN_self w62]; generalize hq_ : World.drewN w62 _ = w62; have n0_ : Aside0 (w62.heap[gb350]? = some (.cells #[.bool false, .string (⟨#[]⟩ : ByteArray), .string (⟨#[]⟩ : ByteArray)] 23 (0, 0))) := ⟨by rw [← hq_]; exact (bq BK350.out)⟩; have n1_ : Aside0 (Below w.heap.size w w62) := ⟨by rw [← hq_]; exact (bz HB.out)⟩; clear BK350 HB hq_; have BK350 := n0_; have HB := n1_; clear n0_ n1_))) | ((with_reducible refine gc 44 rfl ?_); refine gl (some 20) Tryd.func44 #[.string t351, .string (⟨#[46]⟩ : ByteArray)] ?_; (with_reducible refine (strings_Cut.calls k t351 (⟨#[46]⟩ : ByteArray) t353 t354 false _ A3.out).mono ?_); rintro e w' ⟨rfl, ⟨nd, rfl⟩⟩; refine ⟨_, rfl, ?_⟩; (try (rw [drewN_self w62]; generalize hq_ : World.drewN w62 _ = w62; have n0_ : Aside0 (w62.heap[gb350]? = some (.cells #[.bool false, .string (⟨#[]⟩ : ByteArray), .string (⟨#[]⟩ : ByteArray)] 23 (0, 0))) := ⟨by rw [← hq_]; exact (bq BK350.out)⟩; have n1_ : Aside0 (Below w.heap.size w w62) := ⟨by rw [← hq_]; exact (bz HB.out)⟩; clear BK350 HB hq_; have BK350 := n0_; have HB := n1_; clear n0_ n1_))) | ((with_reducible refine gc 44 rfl ?_); refine gl (some 26) Tryd.func44 #[.string t351, .string (⟨#[47]⟩ : ByteArray)] ?_; (with_reducible refine (strings_Cut.calls k t351 (⟨#[47]⟩ : ByteArray) t356 t357 false _ A4.out).mono ?_); rintro e w' ⟨rfl, ⟨nd, rfl⟩⟩; refine ⟨_, rfl, ?_⟩; (try (rw [drewN_self w62]; generalize hq_ : World.drewN w62 _ = w62; have n0_ : Aside0 (w62.heap[gb350]? = some (.cells #[.bool false, .string (⟨#[]⟩ : ByteArray), .string (⟨#[]⟩ : ByteArray)] 23 (0, 0))) := ⟨by rw [← hq_]; exact (bq BK350.out)⟩; have n1_ : Aside0 (Below w.heap.size w w62) := ⟨by rw [← hq_]; exact (bz HB.out)⟩; clear BK350 HB hq_; have BK350 := n0_; have HB := n1_; clear n0_ n1_))) | ((with_reducible refine gc 45 rfl ?_); refine gl (some 94) Tryd.func45 #[.string t351] ?_; (with_reducible refine (rational_isInteger.calls k t351 false _ A51.out).mono ?_); rintro e w' ⟨rfl, ⟨nd, rfl⟩⟩; refine ⟨_, rfl, ?_⟩; (try (rw [drewN_self w62]; generalize hq_ : World.drewN w62 _ = w62; have n0_ : Aside0 (w62.heap[gb350]? = some (.cells #[.bool false, .string (⟨#[]⟩ : ByteArray), .string (⟨#[]⟩ : ByteArray)] 23 (0, 0))) := ⟨by rw [← hq_]; exact (bq BK350.out)⟩; have n1_ : Aside0 (Below w.heap.size w w62) := ⟨by rw [← hq_]; exact (bz HB.out)⟩; clear BK350 HB hq_; have BK350 := n0_; have HB := n1_; clear n0_ n1_)); obtain ⟨hcz63_0, hcz63_1, hcz63_2, hfz63_0, hfz63_1, hfz63_2⟩ := c3 BK350.out))
    refine bodyPost_ret (results_ct rfl _ _ gb350 23 #[.bool false, .string (⟨#[]⟩ : ByteArray), .string (⟨#[]⟩ : ByteArray)] (0, 0) _ rfl (bq BK350.out) Tryd.underlying23 rfl (by kernel_rfl)) rfl ?_
    exact ⟨fe, bz HB.out⟩

end Go.Proofs.YtgepdnoaemeofaaDoor.R
