/- Printed by a program of this session (wip/tools) out of the translation: plain functions and the proofs that the code comes to their answers. -/
import Derived.Test.YtgepdnoaemeofaaDoorXRationalMake3
namespace Go.Proofs.YtgepdnoaemeofaaDoor.M
open Go.RowKit Go.Proofs.YtgepdnoaemeofaaDoorW.PrintWords Go.Proofs.YtgepdnoaemeofaaDoorW.PrintLast Go.Proofs.YtgepdnoaemeofaaDoorW.PrintMore Go.Proofs.YtgepdnoaemeofaaDoorW.PK
attribute [local go_sem] max2_int min2_int max_two min_two max_three min_three max_four min_four   -- for this text's walks alone
set_option linter.unusedVariables false
set_option linter.unusedSimpArgs false

/-! ### rational_Parse: function 22 -/
mutual
def rational_Parse.j0 : Nat → Bool → ByteArray → ByteArray → Bool → Option (Bool × ByteArray × ByteArray × Int)
 | 0, _, _, _, _ => none
 | k + 1, x5, x6, x7, x39 => if x39 = true then (some (false, (⟨#[]⟩ : ByteArray), (⟨#[]⟩ : ByteArray), 3)) else (if (x6.size : Int) > 2000 then (rational_Parse.j1 k x5 x6 x7 true) else (rational_Parse.j1 k x5 x6 x7 (decide ((x7.size : Int) > 2000))))
def rational_Parse.j1 : Nat → Bool → ByteArray → ByteArray → Bool → Option (Bool × ByteArray × ByteArray × Int)
 | 0, _, _, _, _ => none
 | k + 1, x5, x6, x7, x48 => if x48 = true then (some (false, (⟨#[]⟩ : ByteArray), (⟨#[]⟩ : ByteArray), 2)) else ((rational_tenTo.f k (x7.size : Int)).bind fun t356 => ((rational_digits.f k x6).bind fun t357 => ((natural_Multiply.f k t357 t356).bind fun t358 => ((rational_digits.f k x7).bind fun t359 => ((natural_Add.f k t358 t359).bind fun t360 => ((rational_reduced.f k x5 t360 t356).bind fun bt361 => (some (bt361.1, bt361.2.1, bt361.2.2, 0))))))))
def rational_Parse.j2 : Nat → Bool → ByteArray → ByteArray → Bool → Option (Bool × ByteArray × ByteArray × Int)
 | 0, _, _, _, _ => none
 | k + 1, x5, x9, x10, x72 => if x72 = true then (some (false, (⟨#[]⟩ : ByteArray), (⟨#[]⟩ : ByteArray), 3)) else (if (x9.size : Int) > 2000 then (rational_Parse.j3 k x5 x9 x10 true) else (rational_Parse.j3 k x5 x9 x10 (decide ((x10.size : Int) > 2000))))
def rational_Parse.j3 : Nat → Bool → ByteArray → ByteArray → Bool → Option (Bool × ByteArray × ByteArray × Int)
 | 0, _, _, _, _ => none
 | k + 1, x5, x9, x10, x81 => if x81 = true then (some (false, (⟨#[]⟩ : ByteArray), (⟨#[]⟩ : ByteArray), 2)) else (if x10.toList = ([48] : List UInt8) then (some (false, (⟨#[]⟩ : ByteArray), (⟨#[]⟩ : ByteArray), 1)) else ((rational_digits.f k x9).bind fun t366 => ((rational_digits.f k x10).bind fun t367 => ((rational_reduced.f k x5 t366 t367).bind fun bt368 => (some (bt368.1, bt368.2.1, bt368.2.2, 0))))))
end
def rational_Parse.f (k : Nat) (a0 : ByteArray) : Option (Bool × ByteArray × ByteArray × Int) := (strings_CutPrefix.f a0 (⟨#[45]⟩ : ByteArray)).bind fun bt346 => ((strings_Cut.f k bt346.1 (⟨#[46]⟩ : ByteArray)).bind fun bt348 => ((strings_Cut.f k bt346.1 (⟨#[47]⟩ : ByteArray)).bind fun bt351 => (if bt348.2.2 = true then ((rational_isInteger.f k bt348.1).bind fun t354 => (if t354 = true then ((rational_isDigits.f k bt348.2.1).bind fun t355 => (rational_Parse.j0 k bt346.2 bt348.1 bt348.2.1 (!t355))) else (rational_Parse.j0 k bt346.2 bt348.1 bt348.2.1 true))) else (if bt351.2.2 = true then ((rational_isInteger.f k bt351.1).bind fun t364 => (if t364 = true then ((rational_isInteger.f k bt351.2.1).bind fun t365 => (rational_Parse.j2 k bt346.2 bt351.1 bt351.2.1 (!t365))) else (rational_Parse.j2 k bt346.2 bt351.1 bt351.2.1 true))) else ((rational_isInteger.f k bt346.1).bind fun t371 => (if t371 = true then (if (bt346.1.size : Int) > 2000 then (some (false, (⟨#[]⟩ : ByteArray), (⟨#[]⟩ : ByteArray), 2)) else ((rational_digits.f k bt346.1).bind fun t372 => ((rational_reduced.f k bt346.2 t372 (⟨#[1]⟩ : ByteArray)).bind fun bt373 => (some (bt373.1, bt373.2.1, bt373.2.2, 0))))) else (some (false, (⟨#[]⟩ : ByteArray), (⟨#[]⟩ : ByteArray), 3))))))))
theorem rational_Parse.mono_l : ∀ k, (∀ y0 y1 y2 y3, LeO (rational_Parse.j0 k y0 y1 y2 y3) (rational_Parse.j0 (k + 1) y0 y1 y2 y3)) ∧ (∀ y0 y1 y2 y3, LeO (rational_Parse.j1 k y0 y1 y2 y3) (rational_Parse.j1 (k + 1) y0 y1 y2 y3)) ∧ (∀ y0 y1 y2 y3, LeO (rational_Parse.j2 k y0 y1 y2 y3) (rational_Parse.j2 (k + 1) y0 y1 y2 y3)) ∧ (∀ y0 y1 y2 y3, LeO (rational_Parse.j3 k y0 y1 y2 y3) (rational_Parse.j3 (k + 1) y0 y1 y2 y3))
 | 0 => ⟨fun _ _ _ _ r h => by simp [rational_Parse.j0] at h, fun _ _ _ _ r h => by simp [rational_Parse.j1] at h, fun _ _ _ _ r h => by simp [rational_Parse.j2] at h, fun _ _ _ _ r h => by simp [rational_Parse.j3] at h⟩
 | k + 1 => by
  obtain ⟨ih0, ih1, ih2, ih3⟩ := rational_Parse.mono_l k
  refine ⟨?_, ?_, ?_, ?_⟩
  ·intro y0 y1 y2 y3
   unfold rational_Parse.j0
   repeat' with_reducible first | exact ih0 _ _ _ _ | exact ih1 _ _ _ _ | exact ih2 _ _ _ _ | exact ih3 _ _ _ _ | exact natural_Add.mono _ _ _ | exact natural_Multiply.mono _ _ _ | exact rational_digits.mono _ _ | exact rational_isDigits.mono _ _ | exact rational_isInteger.mono _ _ | exact rational_reduced.mono _ _ _ _ | exact rational_tenTo.mono _ _ | exact strings_Cut.mono _ _ _ | exact LeO.refl _ | exact LeO.none _ | refine LeO.ite ?_ ?_ | refine LeO.bind ?_ (fun _ => ?_)
  ·intro y0 y1 y2 y3
   unfold rational_Parse.j1
   repeat' with_reducible first | exact ih0 _ _ _ _ | exact ih1 _ _ _ _ | exact ih2 _ _ _ _ | exact ih3 _ _ _ _ | exact natural_Add.mono _ _ _ | exact natural_Multiply.mono _ _ _ | exact rational_digits.mono _ _ | exact rational_isDigits.mono _ _ | exact rational_isInteger.mono _ _ | exact rational_reduced.mono _ _ _ _ | exact rational_tenTo.mono _ _ | exact strings_Cut.mono _ _ _ | exact LeO.refl _ | exact LeO.none _ | refine LeO.ite ?_ ?_ | refine LeO.bind ?_ (fun _ => ?_)
  ·intro y0 y1 y2 y3
   unfold rational_Parse.j2
   repeat' with_reducible first | exact ih0 _ _ _ _ | exact ih1 _ _ _ _ | exact ih2 _ _ _ _ | exact ih3 _ _ _ _ | exact natural_Add.mono _ _ _ | exact natural_Multiply.mono _ _ _ | exact rational_digits.mono _ _ | exact rational_isDigits.mono _ _ | exact rational_isInteger.mono _ _ | exact rational_reduced.mono _ _ _ _ | exact rational_tenTo.mono _ _ | exact strings_Cut.mono _ _ _ | exact LeO.refl _ | exact LeO.none _ | refine LeO.ite ?_ ?_ | refine LeO.bind ?_ (fun _ => ?_)
  ·intro y0 y1 y2 y3
   unfold rational_Parse.j3
   repeat' with_reducible first | exact ih0 _ _ _ _ | exact ih1 _ _ _ _ | exact ih2 _ _ _ _ | exact ih3 _ _ _ _ | exact natural_Add.mono _ _ _ | exact natural_Multiply.mono _ _ _ | exact rational_digits.mono _ _ | exact rational_isDigits.mono _ _ | exact rational_isInteger.mono _ _ | exact rational_reduced.mono _ _ _ _ | exact rational_tenTo.mono _ _ | exact strings_Cut.mono _ _ _ | exact LeO.refl _ | exact LeO.none _ | refine LeO.ite ?_ ?_ | refine LeO.bind ?_ (fun _ => ?_)
theorem rational_Parse.mono : ∀ a0 k, LeO (rational_Parse.f k a0) (rational_Parse.f (k + 1) a0) := by
 intro a0 k
 obtain ⟨ih0, ih1, ih2, ih3⟩ := rational_Parse.mono_l k
 unfold rational_Parse.f
 repeat' with_reducible first | exact ih0 _ _ _ _ | exact ih1 _ _ _ _ | exact ih2 _ _ _ _ | exact ih3 _ _ _ _ | exact natural_Add.mono _ _ _ | exact natural_Multiply.mono _ _ _ | exact rational_digits.mono _ _ | exact rational_isDigits.mono _ _ | exact rational_isInteger.mono _ _ | exact rational_reduced.mono _ _ _ _ | exact rational_tenTo.mono _ _ | exact strings_Cut.mono _ _ _ | exact LeO.refl _ | exact LeO.none _ | refine LeO.ite ?_ ?_ | refine LeO.bind ?_ (fun _ => ?_)
set_option maxHeartbeats 8000000 in
set_option maxRecDepth 100000 in
theorem rational_Parse.calls (k : Nat) (a0 : ByteArray) (r1 : Bool) (r2 : ByteArray) (r3 : ByteArray) (r4 : Int) (w : World) (h : rational_Parse.f k a0 = some (r1, r2, r3, r4)) :
  Calls Tryd.prog 22 #[.string a0] w fun e w' => e = .returned (.tuple #[.agg #[.bool r1, .string r2, .string r3], .int .i64 r4]) ∧ Below w.heap.size w w' := by
 have hu23 := Tryd.underlying23
 have HB := Aside0.mk (Below.refl w.heap.size w)
 have H := h
 clear h
 unfold rational_Parse.f at H
 obtain ⟨⟨t346, t347⟩, A2, H⟩ := bs1 H; dsimp only at H
 obtain ⟨⟨t348, t349, t350⟩, A3, H⟩ := bs1 H; dsimp only at H
 obtain ⟨⟨t351, t352, t353⟩, A4, H⟩ := bs1 H; dsimp only at H
 by_cases c5 : t350 = true
 ·subst c5
  have H1 : ((rational_isInteger.f k t348).bind fun t354 => (if t354 = true then ((rational_isDigits.f k t349).bind fun t355 => (rational_Parse.j0 k t347 t348 t349 (!t355))) else (rational_Parse.j0 k t347 t348 t349 true))) = some (r1, r2, r3, r4) := by rw [if_pos rfl] at H; exact H
  clear H
  have H := H1
  clear H1
  have HC6 := Aside0.mk H
  clear H
  go_enter Tryd.func22, Tryd.ntmps22
  (try (simp only [Exit.then]; refine (by assumption : ∀ (a : Act) (w : World), Code.wp _ _ _ a w → _) _ _ ?_))
  go_upto_region 5 with (first | ((with_reducible refine gd 2 rfl ?_); (try (refine gate_guard (by rfl) ?_; dsimp only)); refine bx 2 (#[.bool false, .string (⟨#[]⟩ : ByteArray), .string (⟨#[]⟩ : ByteArray)]) 23 ?_; intro gb345 hg w7 hbox hb; have BK345 := Aside0.mk (hbox); have GW345 := sg hg HB.out; have GE345 := sg hg HB.out; replace HB := Aside0.mk (bs HB.out hb); clear hb hbox hg) | ((with_reducible refine gc 43 rfl ?_); refine gl (some 15) Tryd.func43 #[.string a0, .string (⟨#[45]⟩ : ByteArray)] ?_; (with_reducible refine (strings_CutPrefix.calls a0 (⟨#[45]⟩ : ByteArray) t346 t347 _ A2.out).mono ?_); rintro e w' ⟨rfl, ⟨nd, rfl⟩⟩; refine ⟨_, rfl, ?_⟩) | ((with_reducible refine gc 44 rfl ?_); refine gl (some 20) Tryd.func44 #[.string t346, .string (⟨#[46]⟩ : ByteArray)] ?_; (with_reducible refine (strings_Cut.calls k t346 (⟨#[46]⟩ : ByteArray) t348 t349 true _ A3.out).mono ?_); rintro e w' ⟨rfl, ⟨nd, rfl⟩⟩; refine ⟨_, rfl, ?_⟩) | ((with_reducible refine gc 44 rfl ?_); refine gl (some 26) Tryd.func44 #[.string t346, .string (⟨#[47]⟩ : ByteArray)] ?_; (with_reducible refine (strings_Cut.calls k t346 (⟨#[47]⟩ : ByteArray) t351 t352 t353 _ A4.out).mono ?_); rintro e w' ⟨rfl, ⟨nd, rfl⟩⟩; refine ⟨_, rfl, ?_⟩))
  (try simp only [Act.put, List.setIfInBounds_toArray, List.set_cons_zero, List.set_cons_succ])
  go_cut [39] (fun v39 wc => ∃ (kq : Nat) (x39_5 : Bool), v39 = .bool x39_5 ∧ Aside0 (rational_Parse.j0 kq t347 t348 t349 x39_5 = some (r1, r2, r3, r4)) ∧ Aside0 (kq ≤ k) ∧ Aside0 (wc.heap[gb345]? = some (.cells #[.bool false, .string (⟨#[]⟩ : ByteArray), .string (⟨#[]⟩ : ByteArray)] 23 (0, 0))) ∧ Aside0 (Below w.heap.size w wc))
  case first =>
   have H := HC6.out
   clear HC6
   obtain ⟨t354, A8, H⟩ := bs1 H
   by_cases c9 : t354 = true
   ·subst c9
    have H1 : ((rational_isDigits.f k t349).bind fun t355 => (rational_Parse.j0 k t347 t348 t349 (!t355))) = some (r1, r2, r3, r4) := by rw [if_pos rfl] at H; exact H
    clear H
    have H := H1
    clear H1
    obtain ⟨t355, A10, H⟩ := bs1 H
    have H' := Aside0.mk H
    clear H
    go_wp2_with (first | ((with_reducible refine gc 45 rfl ?_); refine gl (some 33) Tryd.func45 #[.string t348] ?_; (with_reducible refine (rational_isInteger.calls k t348 true _ A8.out).mono ?_); rintro e w' ⟨rfl, ⟨nd, rfl⟩⟩; refine ⟨_, rfl, ?_⟩) | (go_at_call 46; (with_reducible refine (rational_isDigits.calls k t349 t355 _ A10.out).mono ?_); rintro e w' ⟨rfl, ⟨nd, rfl⟩⟩))
    go_meet
    case rel => exact ⟨_, (!t355), fs, H', ⟨by first | omega | exact Nat.le_refl _⟩, ⟨bq BK345.out⟩, ⟨bz HB.out⟩⟩
   ·replace c9 := Bool.eq_false_iff.mpr c9
    subst c9
    have H1 : (rational_Parse.j0 k t347 t348 t349 true) = some (r1, r2, r3, r4) := by rw [if_neg (show ¬ (false = true) by decide)] at H; exact H
    clear H
    have H := H1
    clear H1
    have H' := Aside0.mk H
    clear H
    go_wp2_with (first | ((with_reducible refine gc 45 rfl ?_); refine gl (some 33) Tryd.func45 #[.string t348] ?_; (with_reducible refine (rational_isInteger.calls k t348 false _ A8.out).mono ?_); rintro e w' ⟨rfl, ⟨nd, rfl⟩⟩; refine ⟨_, rfl, ?_⟩))
    go_meet
    case rel => exact ⟨_, (true), fs, H', ⟨by first | omega | exact Nat.le_refl _⟩, ⟨bq BK345.out⟩, ⟨bz HB.out⟩⟩
  case rest =>
   clear HC6
   (try clear c5); (try clear c9)
   obtain ⟨kq, x39_5, rfl, HA, HJ5, BK345, HB⟩ := hcut
   cases kq with
   | zero => exact absurd HA.out (by simp [rational_Parse.j0])
   | succ kj5 =>
    have H := HA.out
    clear HA
    simp only [rational_Parse.j0] at H
    by_cases c11 : x39_5 = true
    ·subst c11
     have H1 : (some (false, (⟨#[]⟩ : ByteArray), (⟨#[]⟩ : ByteArray), 3)) = some (r1, r2, r3, r4) := by rw [if_pos rfl] at H; exact H
     clear H
     have H := H1
     clear H1
     simp only [Option.some.injEq, Prod.mk.injEq] at H
     obtain ⟨rfl, rfl, rfl, rfl⟩ := H
     obtain ⟨hcz12_0, hcz12_1, hcz12_2, hfz12_0, hfz12_1, hfz12_2⟩ := c3 BK345.out
     go_wp2
     refine bodyPost_ret (results_ct rfl _ _ gb345 23 #[.bool false, .string (⟨#[]⟩ : ByteArray), .string (⟨#[]⟩ : ByteArray)] (0, 0) _ rfl (bq BK345.out) Tryd.underlying23 rfl (by kernel_rfl)) rfl ?_
     exact ⟨fe, bz HB.out⟩
    ·replace c11 := Bool.eq_false_iff.mpr c11
     subst c11
     have H1 : (if (t348.size : Int) > 2000 then (rational_Parse.j1 kj5 t347 t348 t349 true) else (rational_Parse.j1 kj5 t347 t348 t349 (decide ((t349.size : Int) > 2000)))) = some (r1, r2, r3, r4) := by rw [if_neg (show ¬ (false = true) by decide)] at H; exact H
     clear H
     have H := H1
     clear H1
     have HC13 := Aside0.mk H
     clear H
     (try (simp only [Exit.then]; refine (by assumption : ∀ (a : Act) (w : World), Code.wp _ _ _ a w → _) _ _ ?_))
     go_upto_region 7 with (fail)
     go_cut [48] (fun v48 wc => ∃ (kq : Nat) (x48_12 : Bool), v48 = .bool x48_12 ∧ Aside0 (rational_Parse.j1 kq t347 t348 t349 x48_12 = some (r1, r2, r3, r4)) ∧ Aside0 (kq ≤ kj5) ∧ Aside0 (wc.heap[gb345]? = some (.cells #[.bool false, .string (⟨#[]⟩ : ByteArray), .string (⟨#[]⟩ : ByteArray)] 23 (0, 0))) ∧ Aside0 (Below w.heap.size w wc))
     case first =>
      have H := HC13.out
      clear HC13
      by_cases c14 : (t348.size : Int) > 2000
      ·rw [if_pos c14] at H
       have c14b0 : decide (2000 < (t348.size : Int)) = true := decide_eq_true c14
       have c14b1 : decide (2000 < t348.size) = true := decide_eq_true (by omega)
       clear c14
       (first | rw [c14b0] | (simp only [i64_w, i32_w]; rw [c14b0]) | skip)
       have H' := Aside0.mk H
       clear H
       go_wp2
       go_meet
       case rel => exact ⟨_, (true), fs, H', ⟨by have := HJ5.out; first | omega | exact Nat.le_refl _⟩, ⟨bq BK345.out⟩, ⟨bz HB.out⟩⟩
      ·rw [if_neg c14] at H
       have c14b0 : decide (2000 < (t348.size : Int)) = false := decide_eq_false c14
       have c14b1 : decide (2000 < t348.size) = false := decide_eq_false (by omega)
       clear c14
       (first | rw [c14b0] | (simp only [i64_w, i32_w]; rw [c14b0]) | skip)
       have H' := Aside0.mk H
       clear H
       go_wp2
       go_meet
       case rel => exact ⟨_, (decide ((t349.size : Int) > 2000)), fs, H', ⟨by have := HJ5.out; first | omega | exact Nat.le_refl _⟩, ⟨bq BK345.out⟩, ⟨bz HB.out⟩⟩
     case rest =>
      clear HC13
      (try clear c5); (try clear c9); (try clear c11); (try clear c14b0); (try clear c14b1); (try clear hcz12_0); (try clear hcz12_1); (try clear hcz12_2); (try clear hfz12_0); (try clear hfz12_1); (try clear hfz12_2)
      obtain ⟨kq, x48_12, rfl, HA, HJ12, BK345, HB⟩ := hcut
      cases kq with
      | zero => exact absurd HA.out (by simp [rational_Parse.j1])
      | succ kj12 =>
       have H := HA.out
       clear HA
       simp only [rational_Parse.j1] at H
       by_cases c15 : x48_12 = true
       ·subst c15
        have H1 : (some (false, (⟨#[]⟩ : ByteArray), (⟨#[]⟩ : ByteArray), 2)) = some (r1, r2, r3, r4) := by rw [if_pos rfl] at H; exact H
        clear H
        have H := H1
        clear H1
        simp only [Option.some.injEq, Prod.mk.injEq] at H
        obtain ⟨rfl, rfl, rfl, rfl⟩ := H
        obtain ⟨hcz16_0, hcz16_1, hcz16_2, hfz16_0, hfz16_1, hfz16_2⟩ := c3 BK345.out
        go_wp2
        refine bodyPost_ret (results_ct rfl _ _ gb345 23 #[.bool false, .string (⟨#[]⟩ : ByteArray), .string (⟨#[]⟩ : ByteArray)] (0, 0) _ rfl (bq BK345.out) Tryd.underlying23 rfl (by kernel_rfl)) rfl ?_
        exact ⟨fe, bz HB.out⟩
       ·replace c15 := Bool.eq_false_iff.mpr c15
        subst c15
        have H1 : ((rational_tenTo.f kj12 (t349.size : Int)).bind fun t356 => ((rational_digits.f kj12 t348).bind fun t357 => ((natural_Multiply.f kj12 t357 t356).bind fun t358 => ((rational_digits.f kj12 t349).bind fun t359 => ((natural_Add.f kj12 t358 t359).bind fun t360 => ((rational_reduced.f kj12 t347 t360 t356).bind fun bt361 => (some (bt361.1, bt361.2.1, bt361.2.2, 0)))))))) = some (r1, r2, r3, r4) := by rw [if_neg (show ¬ (false = true) by decide)] at H; exact H
        clear H
        have H := H1
        clear H1
        obtain ⟨t356, A17, H⟩ := bs1 H
        obtain ⟨t357, A18, H⟩ := bs1 H
        obtain ⟨t358, A19, H⟩ := bs1 H
        obtain ⟨t359, A20, H⟩ := bs1 H
        obtain ⟨t360, A21, H⟩ := bs1 H
        obtain ⟨⟨t361, t362, t363⟩, A22, H⟩ := bs1 H; dsimp only at H
        simp only [Option.some.injEq, Prod.mk.injEq] at H
        obtain ⟨rfl, rfl, rfl, rfl⟩ := H
        go_wp2_with (first | ((with_reducible refine gc 47 rfl ?_); refine gl (some 52) Tryd.func47 #[.int .i64 (t349.size : Int)] ?_; (with_reducible refine (rational_tenTo.calls kj12 (t349.size : Int) t356 _ A17.out).mono ?_); rintro e w23 ⟨rfl, hb⟩; refine ⟨_, rfl, ?_⟩; replace BK345 := Aside0.mk (bk0 BK345.out hb); replace HB := Aside0.mk (bs HB.out hb); (try clear hb)) | ((with_reducible refine gc 49 rfl ?_); refine gl (some 55) Tryd.func49 #[.string t348] ?_; (with_reducible refine (rational_digits.calls kj12 t348 t357 _ A18.out).mono ?_); rintro e w24 ⟨rfl, hb⟩; refine ⟨_, rfl, ?_⟩; replace BK345 := Aside0.mk (bk0 BK345.out hb); replace HB := Aside0.mk (bs HB.out hb); (try clear hb)) | ((with_reducible refine gc 40 rfl ?_); refine gl (some 57) Tryd.func40 #[.string t357, .string t356] ?_; (with_reducible refine (natural_Multiply.calls kj12 t357 t356 t358 _ A19.out).mono ?_); rintro e w25 ⟨rfl, hb⟩; refine ⟨_, rfl, ?_⟩; replace BK345 := Aside0.mk (bk0 BK345.out hb); replace HB := Aside0.mk (bs HB.out hb); (try clear hb)) | ((with_reducible refine gc 49 rfl ?_); refine gl (some 59) Tryd.func49 #[.string t349] ?_; (with_reducible refine (rational_digits.calls kj12 t349 t359 _ A20.out).mono ?_); rintro e w26 ⟨rfl, hb⟩; refine ⟨_, rfl, ?_⟩; replace BK345 := Aside0.mk (bk0 BK345.out hb); replace HB := Aside0.mk (bs HB.out hb); (try clear hb)) | ((with_reducible refine gc 48 rfl ?_); refine gl (some 60) Tryd.func48 #[.string t358, .string t359] ?_; (with_reducible refine (natural_Add.calls kj12 t358 t359 t360 _ A21.out).mono ?_); rintro e w27 ⟨rfl, hb⟩; refine ⟨_, rfl, ?_⟩; replace BK345 := Aside0.mk (bk0 BK345.out hb); replace HB := Aside0.mk (bs HB.out hb); (try clear hb)) | ((with_reducible refine gc 30 rfl ?_); refine gl (some 62) Tryd.func30 #[.bool t347, .string t360, .string t356] ?_; (with_reducible refine (rational_reduced.calls kj12 t347 t360 t356 t361 t362 t363 _ A22.out).mono ?_); rintro e w28 ⟨rfl, hb⟩; refine ⟨_, rfl, ?_⟩; replace BK345 := Aside0.mk (bk0 BK345.out hb); replace HB := Aside0.mk (bs HB.out hb); (try clear hb); obtain ⟨hcz29_0, hcz29_1, hcz29_2, hfz29_0, hfz29_1, hfz29_2⟩ := c3 BK345.out))
        refine bodyPost_ret (results_ct rfl _ _ gb345 23 #[.bool t361, .string t362, .string t363] (0, 0) _ rfl (bq BK345.out) Tryd.underlying23 rfl (by kernel_rfl)) rfl ?_
        exact ⟨fe, bz HB.out⟩
 ·replace c5 := Bool.eq_false_iff.mpr c5
  subst c5
  have H1 : (if t353 = true then ((rational_isInteger.f k t351).bind fun t364 => (if t364 = true then ((rational_isInteger.f k t352).bind fun t365 => (rational_Parse.j2 k t347 t351 t352 (!t365))) else (rational_Parse.j2 k t347 t351 t352 true))) else ((rational_isInteger.f k t346).bind fun t371 => (if t371 = true then (if (t346.size : Int) > 2000 then (some (false, (⟨#[]⟩ : ByteArray), (⟨#[]⟩ : ByteArray), 2)) else ((rational_digits.f k t346).bind fun t372 => ((rational_reduced.f k t347 t372 (⟨#[1]⟩ : ByteArray)).bind fun bt373 => (some (bt373.1, bt373.2.1, bt373.2.2, 0))))) else (some (false, (⟨#[]⟩ : ByteArray), (⟨#[]⟩ : ByteArray), 3))))) = some (r1, r2, r3, r4) := by rw [if_neg (show ¬ (false = true) by decide)] at H; exact H
  clear H
  have H := H1
  clear H1
  by_cases c30 : t353 = true
  ·subst c30
   have H1 : ((rational_isInteger.f k t351).bind fun t364 => (if t364 = true then ((rational_isInteger.f k t352).bind fun t365 => (rational_Parse.j2 k t347 t351 t352 (!t365))) else (rational_Parse.j2 k t347 t351 t352 true))) = some (r1, r2, r3, r4) := by rw [if_pos rfl] at H; exact H
   clear H
   have H := H1
   clear H1
   have HC31 := Aside0.mk H
   clear H
   go_enter Tryd.func22, Tryd.ntmps22
   (try (simp only [Exit.then]; refine (by assumption : ∀ (a : Act) (w : World), Code.wp _ _ _ a w → _) _ _ ?_))
   go_upto_region 12 with (first | ((with_reducible refine gd 2 rfl ?_); (try (refine gate_guard (by rfl) ?_; dsimp only)); refine bx 2 (#[.bool false, .string (⟨#[]⟩ : ByteArray), .string (⟨#[]⟩ : ByteArray)]) 23 ?_; intro gb345 hg w32 hbox hb; have BK345 := Aside0.mk (hbox); have GW345 := sg hg HB.out; have GE345 := sg hg HB.out; replace HB := Aside0.mk (bs HB.out hb); clear hb hbox hg) | ((with_reducible refine gc 43 rfl ?_); refine gl (some 15) Tryd.func43 #[.string a0, .string (⟨#[45]⟩ : ByteArray)] ?_; (with_reducible refine (strings_CutPrefix.calls a0 (⟨#[45]⟩ : ByteArray) t346 t347 _ A2.out).mono ?_); rintro e w' ⟨rfl, ⟨nd, rfl⟩⟩; refine ⟨_, rfl, ?_⟩) | ((with_reducible refine gc 44 rfl ?_); refine gl (some 20) Tryd.func44 #[.string t346, .string (⟨#[46]⟩ : ByteArray)] ?_; (with_reducible refine (strings_Cut.calls k t346 (⟨#[46]⟩ : ByteArray) t348 t349 false _ A3.out).mono ?_); rintro e w' ⟨rfl, ⟨nd, rfl⟩⟩; refine ⟨_, rfl, ?_⟩) | ((with_reducible refine gc 44 rfl ?_); refine gl (some 26) Tryd.func44 #[.string t346, .string (⟨#[47]⟩ : ByteArray)] ?_; (with_reducible refine (strings_Cut.calls k t346 (⟨#[47]⟩ : ByteArray) t351 t352 true _ A4.out).mono ?_); rintro e w' ⟨rfl, ⟨nd, rfl⟩⟩; refine ⟨_, rfl, ?_⟩))
   (try simp only [Act.put, List.setIfInBounds_toArray, List.set_cons_zero, List.set_cons_succ])
   go_cut [72] (fun v72 wc => ∃ (kq : Nat) (x72_30 : Bool), v72 = .bool x72_30 ∧ Aside0 (rational_Parse.j2 kq t347 t351 t352 x72_30 = some (r1, r2, r3, r4)) ∧ Aside0 (kq ≤ k) ∧ Aside0 (wc.heap[gb345]? = some (.cells #[.bool false, .string (⟨#[]⟩ : ByteArray), .string (⟨#[]⟩ : ByteArray)] 23 (0, 0))) ∧ Aside0 (Below w.heap.size w wc))
   case first =>
    have H := HC31.out
    clear HC31
    obtain ⟨t364, A33, H⟩ := bs1 H
    by_cases c34 : t364 = true
    ·subst c34
     have H1 : ((rational_isInteger.f k t352).bind fun t365 => (rational_Parse.j2 k t347 t351 t352 (!t365))) = some (r1, r2, r3, r4) := by rw [if_pos rfl] at H; exact H
     clear H
     have H := H1
     clear H1
     obtain ⟨t365, A35, H⟩ := bs1 H
     have H' := Aside0.mk H
     clear H
     go_wp2_with (first | ((with_reducible refine gc 45 rfl ?_); refine gl (some 66) Tryd.func45 #[.string t351] ?_; (with_reducible refine (rational_isInteger.calls k t351 true _ A33.out).mono ?_); rintro e w' ⟨rfl, ⟨nd, rfl⟩⟩; refine ⟨_, rfl, ?_⟩) | (go_at_call 45; (with_reducible refine (rational_isInteger.calls k t352 t365 _ A35.out).mono ?_); rintro e w' ⟨rfl, ⟨nd, rfl⟩⟩))
     go_meet
     case rel => exact ⟨_, (!t365), fs, H', ⟨by first | omega | exact Nat.le_refl _⟩, ⟨bq BK345.out⟩, ⟨bz HB.out⟩⟩
    ·replace c34 := Bool.eq_false_iff.mpr c34
     subst c34
     have H1 : (rational_Parse.j2 k t347 t351 t352 true) = some (r1, r2, r3, r4) := by rw [if_neg (show ¬ (false = true) by decide)] at H; exact H
     clear H
     have H := H1
     clear H1
     have H' := Aside0.mk H
     clear H
     go_wp2_with (first | ((with_reducible refine gc 45 rfl ?_); refine gl (some 66) Tryd.func45 #[.string t351] ?_; (with_reducible refine (rational_isInteger.calls k t351 false _ A33.out).mono ?_); rintro e w' ⟨rfl, ⟨nd, rfl⟩⟩; refine ⟨_, rfl, ?_⟩))
     go_meet
     case rel => exact ⟨_, (true), fs, H', ⟨by first | omega | exact Nat.le_refl _⟩, ⟨bq BK345.out⟩, ⟨bz HB.out⟩⟩
   case rest =>
    clear HC31
    (try clear c5); (try clear c9); (try clear c11); (try clear c14b0); (try clear c14b1); (try clear c15); (try clear c30); (try clear c34); (try clear hcz12_0); (try clear hcz12_1); (try clear hcz12_2); (try clear hcz16_0); (try clear hcz16_1); (try clear hcz16_2); (try clear hcz29_0); (try clear hcz29_1); (try clear hcz29_2); (try clear hfz12_0); (try clear hfz12_1); (try clear hfz12_2); (try clear hfz16_0); (try clear hfz16_1); (try clear hfz16_2); (try clear hfz29_0); (try clear hfz29_1); (try clear hfz29_2)
    obtain ⟨kq, x72_30, rfl, HA, HJ30, BK345, HB⟩ := hcut
    cases kq with
    | zero => exact absurd HA.out (by simp [rational_Parse.j2])
    | succ kj30 =>
     have H := HA.out
     clear HA
     simp only [rational_Parse.j2] at H
     by_cases c36 : x72_30 = true
     ·subst c36
      have H1 : (some (false, (⟨#[]⟩ : ByteArray), (⟨#[]⟩ : ByteArray), 3)) = some (r1, r2, r3, r4) := by rw [if_pos rfl] at H; exact H
      clear H
      have H := H1
      clear H1
      simp only [Option.some.injEq, Prod.mk.injEq] at H
      obtain ⟨rfl, rfl, rfl, rfl⟩ := H
      obtain ⟨hcz37_0, hcz37_1, hcz37_2, hfz37_0, hfz37_1, hfz37_2⟩ := c3 BK345.out
      go_wp2
      refine bodyPost_ret (results_ct rfl _ _ gb345 23 #[.bool false, .string (⟨#[]⟩ : ByteArray), .string (⟨#[]⟩ : ByteArray)] (0, 0) _ rfl (bq BK345.out) Tryd.underlying23 rfl (by kernel_rfl)) rfl ?_
      exact ⟨fe, bz HB.out⟩
     ·replace c36 := Bool.eq_false_iff.mpr c36
      subst c36
      have H1 : (if (t351.size : Int) > 2000 then (rational_Parse.j3 kj30 t347 t351 t352 true) else (rational_Parse.j3 kj30 t347 t351 t352 (decide ((t352.size : Int) > 2000)))) = some (r1, r2, r3, r4) := by rw [if_neg (show ¬ (false = true) by decide)] at H; exact H
      clear H
      have H := H1
      clear H1
      have HC38 := Aside0.mk H
      clear H
      (try (simp only [Exit.then]; refine (by assumption : ∀ (a : Act) (w : World), Code.wp _ _ _ a w → _) _ _ ?_))
      go_upto_region 14 with (fail)
      go_cut [81] (fun v81 wc => ∃ (kq : Nat) (x81_37 : Bool), v81 = .bool x81_37 ∧ Aside0 (rational_Parse.j3 kq t347 t351 t352 x81_37 = some (r1, r2, r3, r4)) ∧ Aside0 (kq ≤ kj30) ∧ Aside0 (wc.heap[gb345]? = some (.cells #[.bool false, .string (⟨#[]⟩ : ByteArray), .string (⟨#[]⟩ : ByteArray)] 23 (0, 0))) ∧ Aside0 (Below w.heap.size w wc))
      case first =>
       have H := HC38.out
       clear HC38
       by_cases c39 : (t351.size : Int) > 2000
       ·rw [if_pos c39] at H
        have c39b0 : decide (2000 < (t351.size : Int)) = true := decide_eq_true c39
        have c39b1 : decide (2000 < t351.size) = true := decide_eq_true (by omega)
        clear c39
        (first | rw [c39b0] | (simp only [i64_w, i32_w]; rw [c39b0]) | skip)
        have H' := Aside0.mk H
        clear H
        go_wp2
        go_meet
        case rel => exact ⟨_, (true), fs, H', ⟨by have := HJ30.out; first | omega | exact Nat.le_refl _⟩, ⟨bq BK345.out⟩, ⟨bz HB.out⟩⟩
       ·rw [if_neg c39] at H
        have c39b0 : decide (2000 < (t351.size : Int)) = false := decide_eq_false c39
        have c39b1 : decide (2000 < t351.size) = false := decide_eq_false (by omega)
        clear c39
        (first | rw [c39b0] | (simp only [i64_w, i32_w]; rw [c39b0]) | skip)
        have H' := Aside0.mk H
        clear H
        go_wp2
        go_meet
        case rel => exact ⟨_, (decide ((t352.size : Int) > 2000)), fs, H', ⟨by have := HJ30.out; first | omega | exact Nat.le_refl _⟩, ⟨bq BK345.out⟩, ⟨bz HB.out⟩⟩
      case rest =>
       clear HC38
       (try clear c5); (try clear c9); (try clear c11); (try clear c14b0); (try clear c14b1); (try clear c15); (try clear c30); (try clear c34); (try clear c36); (try clear c39b0); (try clear c39b1); (try clear hcz12_0); (try clear hcz12_1); (try clear hcz12_2); (try clear hcz16_0); (try clear hcz16_1); (try clear hcz16_2); (try clear hcz29_0); (try clear hcz29_1); (try clear hcz29_2); (try clear hcz37_0); (try clear hcz37_1); (try clear hcz37_2); (try clear hfz12_0); (try clear hfz12_1); (try clear hfz12_2); (try clear hfz16_0); (try clear hfz16_1); (try clear hfz16_2); (try clear hfz29_0); (try clear hfz29_1); (try clear hfz29_2); (try clear hfz37_0); (try clear hfz37_1); (try clear hfz37_2)
       obtain ⟨kq, x81_37, rfl, HA, HJ37, BK345, HB⟩ := hcut
       cases kq with
       | zero => exact absurd HA.out (by simp [rational_Parse.j3])
       | succ kj37 =>
        have H := HA.out
        clear HA
        simp only [rational_Parse.j3] at H
        by_cases c40 : x81_37 = true
        ·subst c40
         have H1 : (some (false, (⟨#[]⟩ : ByteArray), (⟨#[]⟩ : ByteArray), 2)) = some (r1, r2, r3, r4) := by rw [if_pos rfl] at H; exact H
         clear H
         have H := H1
         clear H1
         simp only [Option.some.injEq, Prod.mk.injEq] at H
         obtain ⟨rfl, rfl, rfl, rfl⟩ := H
         obtain ⟨hcz41_0, hcz41_1, hcz41_2, hfz41_0, hfz41_1, hfz41_2⟩ := c3 BK345.out
         go_wp2
         refine bodyPost_ret (results_ct rfl _ _ gb345 23 #[.bool false, .string (⟨#[]⟩ : ByteArray), .string (⟨#[]⟩ : ByteArray)] (0, 0) _ rfl (bq BK345.out) Tryd.underlying23 rfl (by kernel_rfl)) rfl ?_
         exact ⟨fe, bz HB.out⟩
        ·replace c40 := Bool.eq_false_iff.mpr c40
         subst c40
         have H1 : (if t352.toList = ([48] : List UInt8) then (some (false, (⟨#[]⟩ : ByteArray), (⟨#[]⟩ : ByteArray), 1)) else ((rational_digits.f kj37 t351).bind fun t366 => ((rational_digits.f kj37 t352).bind fun t367 => ((rational_reduced.f kj37 t347 t366 t367).bind fun bt368 => (some (bt368.1, bt368.2.1, bt368.2.2, 0)))))) = some (r1, r2, r3, r4) := by rw [if_neg (show ¬ (false = true) by decide)] at H; exact H
         clear H
         have H := H1
         clear H1
         by_cases c42 : t352.toList = ([48] : List UInt8)
         ·rw [if_pos c42] at H
          have c42b0 := beq_iff_eq.mpr c42
          have c42b1 := bne_eq_false_iff_eq.mpr c42
          clear c42
          simp only [Option.some.injEq, Prod.mk.injEq] at H
          obtain ⟨rfl, rfl, rfl, rfl⟩ := H
          obtain ⟨hcz43_0, hcz43_1, hcz43_2, hfz43_0, hfz43_1, hfz43_2⟩ := c3 BK345.out
          go_wp2
          refine bodyPost_ret (results_ct rfl _ _ gb345 23 #[.bool false, .string (⟨#[]⟩ : ByteArray), .string (⟨#[]⟩ : ByteArray)] (0, 0) _ rfl (bq BK345.out) Tryd.underlying23 rfl (by kernel_rfl)) rfl ?_
          exact ⟨fe, bz HB.out⟩
         ·rw [if_neg c42] at H
          have c42b0 := beq_eq_false_iff_ne.mpr c42
          have c42b1 := bne_iff_ne.mpr c42
          obtain ⟨t366, A44, H⟩ := bs1 H
          obtain ⟨t367, A45, H⟩ := bs1 H
          obtain ⟨⟨t368, t369, t370⟩, A46, H⟩ := bs1 H; dsimp only at H
          simp only [Option.some.injEq, Prod.mk.injEq] at H
          obtain ⟨rfl, rfl, rfl, rfl⟩ := H
          go_wp2_with (first | ((with_reducible refine gc 49 rfl ?_); refine gl (some 88) Tryd.func49 #[.string t351] ?_; (with_reducible refine (rational_digits.calls kj37 t351 t366 _ A44.out).mono ?_); rintro e w47 ⟨rfl, hb⟩; refine ⟨_, rfl, ?_⟩; replace BK345 := Aside0.mk (bk0 BK345.out hb); replace HB := Aside0.mk (bs HB.out hb); (try clear hb)) | ((with_reducible refine gc 49 rfl ?_); refine gl (some 90) Tryd.func49 #[.string t352] ?_; (with_reducible refine (rational_digits.calls kj37 t352 t367 _ A45.out).mono ?_); rintro e w48 ⟨rfl, hb⟩; refine ⟨_, rfl, ?_⟩; replace BK345 := Aside0.mk (bk0 BK345.out hb); replace HB := Aside0.mk (bs HB.out hb); (try clear hb)) | ((with_reducible refine gc 30 rfl ?_); refine gl (some 91) Tryd.func30 #[.bool t347, .string t366, .string t367] ?_; (with_reducible refine (rational_reduced.calls kj37 t347 t366 t367 t368 t369 t370 _ A46.out).mono ?_); rintro e w49 ⟨rfl, hb⟩; refine ⟨_, rfl, ?_⟩; replace BK345 := Aside0.mk (bk0 BK345.out hb); replace HB := Aside0.mk (bs HB.out hb); (try clear hb); obtain ⟨hcz50_0, hcz50_1, hcz50_2, hfz50_0, hfz50_1, hfz50_2⟩ := c3 BK345.out))
          refine bodyPost_ret (results_ct rfl _ _ gb345 23 #[.bool t368, .string t369, .string t370] (0, 0) _ rfl (bq BK345.out) Tryd.underlying23 rfl (by kernel_rfl)) rfl ?_
          exact ⟨fe, bz HB.out⟩
  ·replace c30 := Bool.eq_false_iff.mpr c30
   subst c30
   have H1 : ((rational_isInteger.f k t346).bind fun t371 => (if t371 = true then (if (t346.size : Int) > 2000 then (some (false, (⟨#[]⟩ : ByteArray), (⟨#[]⟩ : ByteArray), 2)) else ((rational_digits.f k t346).bind fun t372 => ((rational_reduced.f k t347 t372 (⟨#[1]⟩ : ByteArray)).bind fun bt373 => (some (bt373.1, bt373.2.1, bt373.2.2, 0))))) else (some (false, (⟨#[]⟩ : ByteArray), (⟨#[]⟩ : ByteArray), 3)))) = some (r1, r2, r3, r4) := by rw [if_neg (show ¬ (false = true) by decide)] at H; exact H
   clear H
   have H := H1
   clear H1
   obtain ⟨t371, A51, H⟩ := bs1 H
   by_cases c52 : t371 = true
   ·subst c52
    have H1 : (if (t346.size : Int) > 2000 then (some (false, (⟨#[]⟩ : ByteArray), (⟨#[]⟩ : ByteArray), 2)) else ((rational_digits.f k t346).bind fun t372 => ((rational_reduced.f k t347 t372 (⟨#[1]⟩ : ByteArray)).bind fun bt373 => (some (bt373.1, bt373.2.1, bt373.2.2, 0))))) = some (r1, r2, r3, r4) := by rw [if_pos rfl] at H; exact H
    clear H
    have H := H1
    clear H1
    by_cases c53 : (t346.size : Int) > 2000
    ·rw [if_pos c53] at H
     have c53b0 : decide (2000 < (t346.size : Int)) = true := decide_eq_true c53
     have c53b1 : decide (2000 < t346.size) = true := decide_eq_true (by omega)
     clear c53
     simp only [Option.some.injEq, Prod.mk.injEq] at H
     obtain ⟨rfl, rfl, rfl, rfl⟩ := H
     go_enter Tryd.func22, Tryd.ntmps22
     go_wp2_with (first | ((with_reducible refine gd 2 rfl ?_); (try (refine gate_guard (by rfl) ?_; dsimp only)); refine bx 2 (#[.bool false, .string (⟨#[]⟩ : ByteArray), .string (⟨#[]⟩ : ByteArray)]) 23 ?_; intro gb345 hg w54 hbox hb; have BK345 := Aside0.mk (hbox); have GW345 := sg hg HB.out; have GE345 := sg hg HB.out; replace HB := Aside0.mk (bs HB.out hb); clear hb hbox hg) | ((with_reducible refine gc 43 rfl ?_); refine gl (some 15) Tryd.func43 #[.string a0, .string (⟨#[45]⟩ : ByteArray)] ?_; (with_reducible refine (strings_CutPrefix.calls a0 (⟨#[45]⟩ : ByteArray) t346 t347 _ A2.out).mono ?_); rintro e w' ⟨rfl, ⟨nd, rfl⟩⟩; refine ⟨_, rfl, ?_⟩; (try (rw [drewN_self w54]; generalize hq_ : World.drewN w54 _ = w54; have n0_ : Aside0 (w54.heap[gb345]? = some (.cells #[.bool false, .string (⟨#[]⟩ : ByteArray), .string (⟨#[]⟩ : ByteArray)] 23 (0, 0))) := ⟨by rw [← hq_]; exact (bq BK345.out)⟩; have n1_ : Aside0 (Below w.heap.size w w54) := ⟨by rw [← hq_]; exact (bz HB.out)⟩; clear BK345 HB hq_; have BK345 := n0_; have HB := n1_; clear n0_ n1_))) | ((with_reducible refine gc 44 rfl ?_); refine gl (some 20) Tryd.func44 #[.string t346, .string (⟨#[46]⟩ : ByteArray)] ?_; (with_reducible refine (strings_Cut.calls k t346 (⟨#[46]⟩ : ByteArray) t348 t349 false _ A3.out).mono ?_); rintro e w' ⟨rfl, ⟨nd, rfl⟩⟩; refine ⟨_, rfl, ?_⟩; (try (rw [drewN_self w54]; generalize hq_ : World.drewN w54 _ = w54; have n0_ : Aside0 (w54.heap[gb345]? = some (.cells #[.bool false, .string (⟨#[]⟩ : ByteArray), .string (⟨#[]⟩ : ByteArray)] 23 (0, 0))) := ⟨by rw [← hq_]; exact (bq BK345.out)⟩; have n1_ : Aside0 (Below w.heap.size w w54) := ⟨by rw [← hq_]; exact (bz HB.out)⟩; clear BK345 HB hq_; have BK345 := n0_; have HB := n1_; clear n0_ n1_))) | ((with_reducible refine gc 44 rfl ?_); refine gl (some 26) Tryd.func44 #[.string t346, .string (⟨#[47]⟩ : ByteArray)] ?_; (with_reducible refine (strings_Cut.calls k t346 (⟨#[47]⟩ : ByteArray) t351 t352 false _ A4.out).mono ?_); rintro e w' ⟨rfl, ⟨nd, rfl⟩⟩; refine ⟨_, rfl, ?_⟩; (try (rw [drewN_self w54]; generalize hq_ : World.drewN w54 _ = w54; have n0_ : Aside0 (w54.heap[gb345]? = some (.cells #[.bool false, .string (⟨#[]⟩ : ByteArray), .string (⟨#[]⟩ : ByteArray)] 23 (0, 0))) := ⟨by rw [← hq_]; exact (bq BK345.out)⟩; have n1_ : Aside0 (Below w.heap.size w w54) := ⟨by rw [← hq_]; exact (bz HB.out)⟩; clear BK345 HB hq_; have BK345 := n0_; have HB := n1_; clear n0_ n1_))) | ((with_reducible refine gc 45 rfl ?_); refine gl (some 94) Tryd.func45 #[.string t346] ?_; (with_reducible refine (rational_isInteger.calls k t346 true _ A51.out).mono ?_); rintro e w' ⟨rfl, ⟨nd, rfl⟩⟩; refine ⟨_, rfl, ?_⟩; (try (rw [drewN_self w54]; generalize hq_ : World.drewN w54 _ = w54; have n0_ : Aside0 (w54.heap[gb345]? = some (.cells #[.bool false, .string (⟨#[]⟩ : ByteArray), .string (⟨#[]⟩ : ByteArray)] 23 (0, 0))) := ⟨by rw [← hq_]; exact (bq BK345.out)⟩; have n1_ : Aside0 (Below w.heap.size w w54) := ⟨by rw [← hq_]; exact (bz HB.out)⟩; clear BK345 HB hq_; have BK345 := n0_; have HB := n1_; clear n0_ n1_)); obtain ⟨hcz55_0, hcz55_1, hcz55_2, hfz55_0, hfz55_1, hfz55_2⟩ := c3 BK345.out))
     refine bodyPost_ret (results_ct rfl _ _ gb345 23 #[.bool false, .string (⟨#[]⟩ : ByteArray), .string (⟨#[]⟩ : ByteArray)] (0, 0) _ rfl (bq BK345.out) Tryd.underlying23 rfl (by kernel_rfl)) rfl ?_
     exact ⟨fe, bz HB.out⟩
    ·rw [if_neg c53] at H
     have c53b0 : decide (2000 < (t346.size : Int)) = false := decide_eq_false c53
     have c53b1 : decide (2000 < t346.size) = false := decide_eq_false (by omega)
     clear c53
     obtain ⟨t372, A56, H⟩ := bs1 H
     obtain ⟨⟨t373, t374, t375⟩, A57, H⟩ := bs1 H; dsimp only at H
     simp only [Option.some.injEq, Prod.mk.injEq] at H
     obtain ⟨rfl, rfl, rfl, rfl⟩ := H
     go_enter Tryd.func22, Tryd.ntmps22
     go_wp2_with (first | ((with_reducible refine gd 2 rfl ?_); (try (refine gate_guard (by rfl) ?_; dsimp only)); refine bx 2 (#[.bool false, .string (⟨#[]⟩ : ByteArray), .string (⟨#[]⟩ : ByteArray)]) 23 ?_; intro gb345 hg w58 hbox hb; have BK345 := Aside0.mk (hbox); have GW345 := sg hg HB.out; have GE345 := sg hg HB.out; replace HB := Aside0.mk (bs HB.out hb); clear hb hbox hg) | ((with_reducible refine gc 43 rfl ?_); refine gl (some 15) Tryd.func43 #[.string a0, .string (⟨#[45]⟩ : ByteArray)] ?_; (with_reducible refine (strings_CutPrefix.calls a0 (⟨#[45]⟩ : ByteArray) t346 t347 _ A2.out).mono ?_); rintro e w' ⟨rfl, ⟨nd, rfl⟩⟩; refine ⟨_, rfl, ?_⟩; (try (rw [drewN_self w58]; generalize hq_ : World.drewN w58 _ = w58; have n0_ : Aside0 (w58.heap[gb345]? = some (.cells #[.bool false, .string (⟨#[]⟩ : ByteArray), .string (⟨#[]⟩ : ByteArray)] 23 (0, 0))) := ⟨by rw [← hq_]; exact (bq BK345.out)⟩; have n1_ : Aside0 (Below w.heap.size w w58) := ⟨by rw [← hq_]; exact (bz HB.out)⟩; clear BK345 HB hq_; have BK345 := n0_; have HB := n1_; clear n0_ n1_))) | ((with_reducible refine gc 44 rfl ?_); refine gl (some 20) Tryd.func44 #[.string t346, .string (⟨#[46]⟩ : ByteArray)] ?_; (with_reducible refine (strings_Cut.calls k t346 (⟨#[46]⟩ : ByteArray) t348 t349 false _ A3.out).mono ?_); rintro e w' ⟨rfl, ⟨nd, rfl⟩⟩; refine ⟨_, rfl, ?_⟩; (try (rw [drewN_self w58]; generalize hq_ : World.drewN w58 _ = w58; have n0_ : Aside0 (w58.heap[gb345]? = some (.cells #[.bool false, .string (⟨#[]⟩ : ByteArray), .string (⟨#[]⟩ : ByteArray)] 23 (0, 0))) := ⟨by rw [← hq_]; exact (bq BK345.out)⟩; have n1_ : Aside0 (Below w.heap.size w w58) := ⟨by rw [← hq_]; exact (bz HB.out)⟩; clear BK345 HB hq_; have BK345 := n0_; have HB := n1_; clear n0_ n1_))) | ((with_reducible refine gc 44 rfl ?_); refine gl (some 26) Tryd.func44 #[.string t346, .string (⟨#[47]⟩ : ByteArray)] ?_; (with_reducible refine (strings_Cut.calls k t346 (⟨#[47]⟩ : ByteArray) t351 t352 false _ A4.out).mono ?_); rintro e w' ⟨rfl, ⟨nd, rfl⟩⟩; refine ⟨_, rfl, ?_⟩; (try (rw [drewN_self w58]; generalize hq_ : World.drewN w58 _ = w58; have n0_ : Aside0 (w58.heap[gb345]? = some (.cells #[.bool false, .string (⟨#[]⟩ : ByteArray), .string (⟨#[]⟩ : ByteArray)] 23 (0, 0))) := ⟨by rw [← hq_]; exact (bq BK345.out)⟩; have n1_ : Aside0 (Below w.heap.size w w58) := ⟨by rw [← hq_]; exact (bz HB.out)⟩; clear BK345 HB hq_; have BK345 := n0_; have HB := n1_; clear n0_ n1_))) | ((with_reducible refine gc 45 rfl ?_); refine gl (some 94) Tryd.func45 #[.string t346] ?_; (with_reducible refine (rational_isInteger.calls k t346 true _ A51.out).mono ?_); rintro e w' ⟨rfl, ⟨nd, rfl⟩⟩; refine ⟨_, rfl, ?_⟩; (try (rw [drewN_self w58]; generalize hq_ : World.drewN w58 _ = w58; have n0_ : Aside0 (w58.heap[gb345]? = some (.cells #[.bool false, .string (⟨#[]⟩ : ByteArray), .string (⟨#[]⟩ : ByteArray)] 23 (0, 0))) := ⟨by rw [← hq_]; exact (bq BK345.out)⟩; have n1_ : Aside0 (Below w.heap.size w w58) := ⟨by rw [← hq_]; exact (bz HB.out)⟩; clear BK345 HB hq_; have BK345 := n0_; have HB := n1_; clear n0_ n1_))) | ((with_reducible refine gc 49 rfl ?_); refine gl (some 104) Tryd.func49 #[.string t346] ?_; (with_reducible refine (rational_digits.calls k t346 t372 _ A56.out).mono ?_); rintro e w59 ⟨rfl, hb⟩; refine ⟨_, rfl, ?_⟩; replace BK345 := Aside0.mk (bk0 BK345.out hb); replace HB := Aside0.mk (bs HB.out hb); (try clear hb)) | ((with_reducible refine gc 30 rfl ?_); refine gl (some 105) Tryd.func30 #[.bool t347, .string t372, .string (⟨#[1]⟩ : ByteArray)] ?_; (with_reducible refine (rational_reduced.calls k t347 t372 (⟨#[1]⟩ : ByteArray) t373 t374 t375 _ A57.out).mono ?_); rintro e w60 ⟨rfl, hb⟩; refine ⟨_, rfl, ?_⟩; replace BK345 := Aside0.mk (bk0 BK345.out hb); replace HB := Aside0.mk (bs HB.out hb); (try clear hb); obtain ⟨hcz61_0, hcz61_1, hcz61_2, hfz61_0, hfz61_1, hfz61_2⟩ := c3 BK345.out))
     refine bodyPost_ret (results_ct rfl _ _ gb345 23 #[.bool t373, .string t374, .string t375] (0, 0) _ rfl (bq BK345.out) Tryd.underlying23 rfl (by kernel_rfl)) rfl ?_
     exact ⟨fe, bz HB.out⟩
   ·replace c52 := Bool.eq_false_iff.mpr c52
    subst c52
    have H1 : (some (false, (⟨#[]⟩ : ByteArray), (⟨#[]⟩ : ByteArray), 3)) = some (r1, r2, r3, r4) := by rw [if_neg (show ¬ (false = true) by decide)] at H; exact H
    clear H
    have H := H1
    clear H1
    simp only [Option.some.injEq, Prod.mk.injEq] at H
    obtain ⟨rfl, rfl, rfl, rfl⟩ := H
    go_enter Tryd.func22, Tryd.ntmps22
    go_wp2_with (first | ((with_reducible refine gd 2 rfl ?_); (try (refine gate_guard (by rfl) ?_; dsimp only)); refine bx 2 (#[.bool false, .string (⟨#[]⟩ : ByteArray), .string (⟨#[]⟩ : ByteArray)]) 23 ?_; intro gb345 hg w62 hbox hb; have BK345 := Aside0.mk (hbox); have GW345 := sg hg HB.out; have GE345 := sg hg HB.out; replace HB := Aside0.mk (bs HB.out hb); clear hb hbox hg) | ((with_reducible refine gc 43 rfl ?_); refine gl (some 15) Tryd.func43 #[.string a0, .string (⟨#[45]⟩ : ByteArray)] ?_; (with_reducible refine (strings_CutPrefix.calls a0 (⟨#[45]⟩ : ByteArray) t346 t347 _ A2.out).mono ?_); rintro e w' ⟨rfl, ⟨nd, rfl⟩⟩; refine ⟨_, rfl, ?_⟩; (try (rw [drewN_self w62]; generalize hq_ : World.drewN w62 _ = w62; have n0_ : Aside0 (w62.heap[gb345]? = some (.cells #[.bool false, .string (⟨#[]⟩ : ByteArray), .string (⟨#[]⟩ : ByteArray)] 23 (0, 0))) := ⟨by rw [← hq_]; exact (bq BK345.out)⟩; have n1_ : Aside0 (Below w.heap.size w w62) := ⟨by rw [← hq_]; exact (bz HB.out)⟩; clear BK345 HB hq_; have BK345 := n0_; have HB := n1_; clear n0_ n1_))) | ((with_reducible refine gc 44 rfl ?_); refine gl (some 20) Tryd.func44 #[.string t346, .string (⟨#[46]⟩ : ByteArray)] ?_; (with_reducible refine (strings_Cut.calls k t346 (⟨#[46]⟩ : ByteArray) t348 t349 false _ A3.out).mono ?_); rintro e w' ⟨rfl, ⟨nd, rfl⟩⟩; refine ⟨_, rfl, ?_⟩; (try (rw [drewN_self w62]; generalize hq_ : World.drewN w62 _ = w62; have n0_ : Aside0 (w62.heap[gb345]? = some (.cells #[.bool false, .string (⟨#[]⟩ : ByteArray), .string (⟨#[]⟩ : ByteArray)] 23 (0, 0))) := ⟨by rw [← hq_]; exact (bq BK345.out)⟩; have n1_ : Aside0 (Below w.heap.size w w62) := ⟨by rw [← hq_]; exact (bz HB.out)⟩; clear BK345 HB hq_; have BK345 := n0_; have HB := n1_; clear n0_ n1_))) | ((with_reducible refine gc 44 rfl ?_); refine gl (some 26) Tryd.func44 #[.string t346, .string (⟨#[47]⟩ : ByteArray)] ?_; (with_reducible refine (strings_Cut.calls k t346 (⟨#[47]⟩ : ByteArray) t351 t352 false _ A4.out).mono ?_); rintro e w' ⟨rfl, ⟨nd, rfl⟩⟩; refine ⟨_, rfl, ?_⟩; (try (rw [drewN_self w62]; generalize hq_ : World.drewN w62 _ = w62; have n0_ : Aside0 (w62.heap[gb345]? = some (.cells #[.bool false, .string (⟨#[]⟩ : ByteArray), .string (⟨#[]⟩ : ByteArray)] 23 (0, 0))) := ⟨by rw [← hq_]; exact (bq BK345.out)⟩; have n1_ : Aside0 (Below w.heap.size w w62) := ⟨by rw [← hq_]; exact (bz HB.out)⟩; clear BK345 HB hq_; have BK345 := n0_; have HB := n1_; clear n0_ n1_))) | ((with_reducible refine gc 45 rfl ?_); refine gl (some 94) Tryd.func45 #[.string t346] ?_; (with_reducible refine (rational_isInteger.calls k t346 false _ A51.out).mono ?_); rintro e w' ⟨rfl, ⟨nd, rfl⟩⟩; refine ⟨_, rfl, ?_⟩; (try (rw [drewN_self w62]; generalize hq_ : World.drewN w62 _ = w62; have n0_ : Aside0 (w62.heap[gb345]? = some (.cells #[.bool false, .string (⟨#[]⟩ : ByteArray), .string (⟨#[]⟩ : ByteArray)] 23 (0, 0))) := ⟨by rw [← hq_]; exact (bq BK345.out)⟩; have n1_ : Aside0 (Below w.heap.size w w62) := ⟨by rw [← hq_]; exact (bz HB.out)⟩; clear BK345 HB hq_; have BK345 := n0_; have HB := n1_; clear n0_ n1_)); obtain ⟨hcz63_0, hcz63_1, hcz63_2, hfz63_0, hfz63_1, hfz63_2⟩ := c3 BK345.out))
    refine bodyPost_ret (results_ct rfl _ _ gb345 23 #[.bool false, .string (⟨#[]⟩ : ByteArray), .string (⟨#[]⟩ : ByteArray)] (0, 0) _ rfl (bq BK345.out) Tryd.underlying23 rfl (by kernel_rfl)) rfl ?_
    exact ⟨fe, bz HB.out⟩

/-! ### rational_Valid: function 9 -/
def rational_Valid.j0 : Nat → Bool → Bool → ByteArray → ByteArray → Option (Bool)
 | 0, _, _, _, _ => none
 | k + 1, x16, x377000, x377001, x377002 => if x16 = true then (some false) else (if x377001.toList = ([] : List UInt8) then (if x377000 = true then (some false) else (some (x377002.toList == ([] : List UInt8)))) else (if x377002.toList = ([] : List UInt8) then (some true) else (if x377002.toList = ([1] : List UInt8) then (some false) else ((natural_GCD.f k x377001 x377002).bind fun t379 => (some (t379.toList == ([1] : List UInt8)))))))
def rational_Valid.f (k : Nat) (a0_0 : Bool) (a0_1 : ByteArray) (a0_2 : ByteArray) : Option (Bool) := (natural_Normalize.f k a0_1).bind fun t377 => (if t377.toList = a0_1.toList then ((natural_Normalize.f k a0_2).bind fun t378 => (rational_Valid.j0 k (t378.toList != a0_2.toList) a0_0 a0_1 a0_2)) else (rational_Valid.j0 k true a0_0 a0_1 a0_2))
theorem rational_Valid.mono_l : ∀ k, (∀ y0 y1 y2 y3, LeO (rational_Valid.j0 k y0 y1 y2 y3) (rational_Valid.j0 (k + 1) y0 y1 y2 y3))
 | 0 => fun _ _ _ _ r h => by simp [rational_Valid.j0] at h
 | k + 1 => by
  have ih0 := rational_Valid.mono_l k
  ·intro y0 y1 y2 y3
   unfold rational_Valid.j0
   repeat' with_reducible first | exact ih0 _ _ _ _ | exact natural_GCD.mono _ _ _ | exact natural_Normalize.mono _ _ | exact LeO.refl _ | exact LeO.none _ | refine LeO.ite ?_ ?_ | refine LeO.bind ?_ (fun _ => ?_)
theorem rational_Valid.mono : ∀ a0 a1 a2 k, LeO (rational_Valid.f k a0 a1 a2) (rational_Valid.f (k + 1) a0 a1 a2) := by
 intro a0 a1 a2 k
 have ih0 := rational_Valid.mono_l k
 unfold rational_Valid.f
 repeat' with_reducible first | exact ih0 _ _ _ _ | exact natural_GCD.mono _ _ _ | exact natural_Normalize.mono _ _ | exact LeO.refl _ | exact LeO.none _ | refine LeO.ite ?_ ?_ | refine LeO.bind ?_ (fun _ => ?_)
def rational_Valid.T1 : Bool × List (List Nat × List Nat) := (true, [([], []), ([0], [0]), ([1], [1]), ([], []), ([3], [3]), ([2, 4], [2, 4]), ([5, 2], [5]), ([6], [6]), ([7, 6], [6, 7]), ([8, 6, 6], [6, 8]), ([6], [6]), ([10, 6], [6, 10]), ([9, 11, 6], [6, 9, 11]), ([6, 12], [6, 12])])
def rational_Valid.B1 : List Nat := [0, 1, 3, 0, 8, 31, 63, 127, 255, 511, 127, 1151, 4095, 8191]
theorem rational_Valid.tab1 : rtab .any (opsOf Tryd.f9 1) = rational_Valid.T1 := by kernel_rfl
theorem rational_Valid.bits1 : waitsOk rational_Valid.T1.2 rational_Valid.B1 = true := by kernel_rfl
set_option maxHeartbeats 8000000 in
set_option maxRecDepth 100000 in
theorem rational_Valid.calls (k : Nat) (a0_0 : Bool) (a0_1 : ByteArray) (a0_2 : ByteArray) (r : Bool) (w : World) (h : rational_Valid.f k a0_0 a0_1 a0_2 = some r) :
  Calls Tryd.prog 9 #[.agg #[.bool a0_0, .string a0_1, .string a0_2]] w fun e w' => e = .returned (.bool r) ∧ Below w.heap.size w w' := by
 have hu23 := Tryd.underlying23
 have HB := Aside0.mk (Below.refl w.heap.size w)
 have H := h
 clear h
 unfold rational_Valid.f at H
 have HC2 := Aside0.mk H
 clear H
 go_enter Tryd.func9, Tryd.ntmps9
 (try (simp only [Exit.then]; refine (by assumption : ∀ (a : Act) (w : World), Code.wp _ _ _ a w → _) _ _ ?_))
 go_upto_region 1 with (first | ((with_reducible refine gd 1 rfl ?_); refine bx 1 (#[.bool a0_0, .string a0_1, .string a0_2]) 23 ?_; intro gb376 hg w3 hbox hb; have BK376 := Aside0.mk (hbox); have GW376 := sg hg HB.out; have GE376 := sg hg HB.out; replace HB := Aside0.mk (bs HB.out hb); clear hb hbox hg))
 (try simp only [Act.put, List.setIfInBounds_toArray, List.set_cons_zero, List.set_cons_succ])
 go_cut [16] (fun v16 wc => ∃ (kq : Nat) (x16_1 : Bool), v16 = .bool x16_1 ∧ Aside0 (rational_Valid.j0 kq x16_1 a0_0 a0_1 a0_2 = some r) ∧ Aside0 (kq ≤ k) ∧ Aside0 (wc.heap[gb376]? = some (.cells #[.bool a0_0, .string a0_1, .string a0_2] 23 (0, 0))) ∧ Aside0 (Below w.heap.size w wc))
 case first =>
  have H := HC2.out
  clear HC2
  obtain ⟨t377, A4, H⟩ := bs1 H
  by_cases c5 : t377.toList = a0_1.toList
  ·rw [if_pos c5] at H
   have c5b0 := beq_iff_eq.mpr c5
   have c5b1 := bne_eq_false_iff_eq.mpr c5
   clear c5
   (first | rw [c5b0] | (simp only [i64_w, i32_w]; rw [c5b0]) | skip)
   obtain ⟨t378, A6, H⟩ := bs1 H
   have H' := Aside0.mk H
   clear H
   try go_wp2
   replace BK376 := Aside0.mk (blk_drew BK376.out)
   replace HB := Aside0.mk (below_drew1 HB.out)
   refine start_ (n := 14) (S := fun w' => w'.cell? ⟨gb376, 0, none⟩ = some (.bool a0_0) ∧ w'.cell? ⟨gb376, 1, none⟩ = some (.string a0_1) ∧ w'.cell? ⟨gb376, 2, none⟩ = some (.string a0_2)) (ds := []) #[false, false, false, false, false, false, false, false, false, false, false, false, false, false] (by kernel_rfl) rfl rfl ⟨(blk_cell BK376.out 0).trans rfl, (blk_cell BK376.out 1).trans rfl, (blk_cell BK376.out 2).trans rfl⟩ (fun hHeld => ?_); refine with_tabW rational_Valid.tab1 rational_Valid.bits1 (fun HT_ HW_ => ?_)
   generalize w3.drew = w7 at BK376 HB hHeld ⊢
   refine py 0 (some 3) #[true, false, false, false, false, false, false, false, false, false, false, false, false, false] HT_ ?_
   refine py 3 (some 6) #[true, false, false, true, false, false, false, false, false, false, false, false, false, false] HT_ ?_
   refine take_ (i := 1) (N := some 4) (v := ?_) (a' := ?_) #[true, true, false, true, false, false, false, false, false, false, false, false, false, false] rfl rfl (take_ofW HT_.out HW_.out (by kernel_rfl)) (fun _ _ _ h => h) (Or.inl ⟨by rfl, ?_⟩) hHeld ?_ ?_
   rotate_left
   ·rintro w' ⟨s0, s1, s2⟩
    go_simp
    with_reducible rfl
   rotate_left
   ·simp only [Act.put, List.setIfInBounds_toArray, List.set_cons_zero, List.set_cons_succ, i64_w, i32_w]
    rfl
   refine take_ (i := 4) (N := some 7) (v := ?_) (a' := ?_) #[true, true, false, true, true, false, false, false, false, false, false, false, false, false] rfl rfl (take_ofW HT_.out HW_.out (by kernel_rfl)) (fun _ _ _ h => h) (Or.inl ⟨by rfl, ?_⟩) hHeld ?_ ?_
   rotate_left
   ·rintro w' ⟨s0, s1, s2⟩
    go_simp
    with_reducible rfl
   rotate_left
   ·simp only [Act.put, List.setIfInBounds_toArray, List.set_cons_zero, List.set_cons_succ, i64_w, i32_w]
    rfl
   refine one_ (i := 2) (N := some 5) #[true, true, true, true, true, false, false, false, false, false, false, false, false, false] rfl rfl (one_of HT_.out (by kernel_rfl)) (by decide) (fun K hK => ?_)
   refine gs Tryd.func26 #[.string a0_1] ?_
   with_reducible refine (natural_Normalize.calls k a0_1 t377 _ A4.out).mono ?_
   rintro e w8 ⟨rfl, hb⟩
   refine ⟨_, rfl, ?_⟩
   replace BK376 := Aside0.mk (bk0 BK376.out hb)
   replace HB := Aside0.mk (bs HB.out hb)
   (try clear hb)
   refine hK.out _ _ ⟨(blk_cell BK376.out 0).trans rfl, (blk_cell BK376.out 1).trans rfl, (blk_cell BK376.out 2).trans rfl⟩ (fun hHeld => ?_)
   clear hK K
   refine nm ?_
   refine py 5 (some 8) #[true, true, true, true, true, true, false, false, false, false, false, false, false, false] HT_ ?_
   refine py 6 (some 9) #[true, true, true, true, true, true, true, false, false, false, false, false, false, false] HT_ ?_
   refine py 7 (some 10) #[true, true, true, true, true, true, true, true, false, false, false, false, false, false] HT_ ?_
   refine py 10 (some 13) #[true, true, true, true, true, true, true, true, false, false, true, false, false, false] HT_ ?_
   refine take_ (i := 8) (N := some 11) (v := ?_) (a' := ?_) #[true, true, true, true, true, true, true, true, true, false, true, false, false, false] rfl rfl (take_ofW HT_.out HW_.out (by kernel_rfl)) (fun _ _ _ h => h) (Or.inl ⟨by rfl, ?_⟩) hHeld ?_ ?_
   rotate_left
   ·rintro w' ⟨s0, s1, s2⟩
    go_simp
    with_reducible rfl
   rotate_left
   ·simp only [Act.put, List.setIfInBounds_toArray, List.set_cons_zero, List.set_cons_succ, i64_w, i32_w]
    rfl
   refine take_ (i := 11) (N := some 14) (v := ?_) (a' := ?_) #[true, true, true, true, true, true, true, true, true, false, true, true, false, false] rfl rfl (take_ofW HT_.out HW_.out (by kernel_rfl)) (fun _ _ _ h => h) (Or.inl ⟨by rfl, ?_⟩) hHeld ?_ ?_
   rotate_left
   ·rintro w' ⟨s0, s1, s2⟩
    go_simp
    with_reducible rfl
   rotate_left
   ·simp only [Act.put, List.setIfInBounds_toArray, List.set_cons_zero, List.set_cons_succ, i64_w, i32_w]
    rfl
   refine one_ (i := 9) (N := some 12) #[true, true, true, true, true, true, true, true, true, true, true, true, false, false] rfl rfl (one_of HT_.out (by kernel_rfl)) (by decide) (fun K hK => ?_)
   refine gs Tryd.func26 #[.string a0_2] ?_
   with_reducible refine (natural_Normalize.calls k a0_2 t378 _ A6.out).mono ?_
   rintro e w9 ⟨rfl, hb⟩
   refine ⟨_, rfl, ?_⟩
   replace BK376 := Aside0.mk (bk0 BK376.out hb)
   replace HB := Aside0.mk (bs HB.out hb)
   (try clear hb)
   refine hK.out _ _ ⟨(blk_cell BK376.out 0).trans rfl, (blk_cell BK376.out 1).trans rfl, (blk_cell BK376.out 2).trans rfl⟩ (fun hHeld => ?_)
   clear hK K
   refine nm ?_
   refine py 12 (some 15) #[true, true, true, true, true, true, true, true, true, true, true, true, true, false] HT_ ?_
   refine py 13 (some 16) #[true, true, true, true, true, true, true, true, true, true, true, true, true, true] HT_ ?_
   refine done_ (done_of HT_.out (by kernel_rfl)) ?_
   try go_wp2
   go_meet
   case rel => exact ⟨_, ((t378.toList != a0_2.toList)), fs, H', ⟨by first | omega | exact Nat.le_refl _⟩, ⟨bq BK376.out⟩, ⟨bz HB.out⟩⟩
  ·rw [if_neg c5] at H
   have c5b0 := beq_eq_false_iff_ne.mpr c5
   have c5b1 := bne_iff_ne.mpr c5
   (first | rw [c5b0] | (simp only [i64_w, i32_w]; rw [c5b0]) | skip)
   have H' := Aside0.mk H
   clear H
   try go_wp2
   replace BK376 := Aside0.mk (blk_drew BK376.out)
   replace HB := Aside0.mk (below_drew1 HB.out)
   refine start_ (n := 14) (S := fun w' => w'.cell? ⟨gb376, 0, none⟩ = some (.bool a0_0) ∧ w'.cell? ⟨gb376, 1, none⟩ = some (.string a0_1) ∧ w'.cell? ⟨gb376, 2, none⟩ = some (.string a0_2)) (ds := []) #[false, false, false, false, false, false, false, false, false, false, false, false, false, false] (by kernel_rfl) rfl rfl ⟨(blk_cell BK376.out 0).trans rfl, (blk_cell BK376.out 1).trans rfl, (blk_cell BK376.out 2).trans rfl⟩ (fun hHeld => ?_); refine with_tabW rational_Valid.tab1 rational_Valid.bits1 (fun HT_ HW_ => ?_)
   generalize w3.drew = w10 at BK376 HB hHeld ⊢
   refine py 0 (some 3) #[true, false, false, false, false, false, false, false, false, false, false, false, false, false] HT_ ?_
   refine py 3 (some 6) #[true, false, false, true, false, false, false, false, false, false, false, false, false, false] HT_ ?_
   refine take_ (i := 1) (N := some 4) (v := ?_) (a' := ?_) #[true, true, false, true, false, false, false, false, false, false, false, false, false, false] rfl rfl (take_ofW HT_.out HW_.out (by kernel_rfl)) (fun _ _ _ h => h) (Or.inl ⟨by rfl, ?_⟩) hHeld ?_ ?_
   rotate_left
   ·rintro w' ⟨s0, s1, s2⟩
    go_simp
    with_reducible rfl
   rotate_left
   ·simp only [Act.put, List.setIfInBounds_toArray, List.set_cons_zero, List.set_cons_succ, i64_w, i32_w]
    rfl
   refine take_ (i := 4) (N := some 7) (v := ?_) (a' := ?_) #[true, true, false, true, true, false, false, false, false, false, false, false, false, false] rfl rfl (take_ofW HT_.out HW_.out (by kernel_rfl)) (fun _ _ _ h => h) (Or.inl ⟨by rfl, ?_⟩) hHeld ?_ ?_
   rotate_left
   ·rintro w' ⟨s0, s1, s2⟩
    go_simp
    with_reducible rfl
   rotate_left
   ·simp only [Act.put, List.setIfInBounds_toArray, List.set_cons_zero, List.set_cons_succ, i64_w, i32_w]
    rfl
   refine one_ (i := 2) (N := some 5) #[true, true, true, true, true, false, false, false, false, false, false, false, false, false] rfl rfl (one_of HT_.out (by kernel_rfl)) (by decide) (fun K hK => ?_)
   refine gs Tryd.func26 #[.string a0_1] ?_
   with_reducible refine (natural_Normalize.calls k a0_1 t377 _ A4.out).mono ?_
   rintro e w11 ⟨rfl, hb⟩
   refine ⟨_, rfl, ?_⟩
   replace BK376 := Aside0.mk (bk0 BK376.out hb)
   replace HB := Aside0.mk (bs HB.out hb)
   (try clear hb)
   refine hK.out _ _ ⟨(blk_cell BK376.out 0).trans rfl, (blk_cell BK376.out 1).trans rfl, (blk_cell BK376.out 2).trans rfl⟩ (fun hHeld => ?_)
   clear hK K
   refine nm ?_
   refine py 5 (some 8) #[true, true, true, true, true, true, false, false, false, false, false, false, false, false] HT_ ?_
   refine py 6 (some 9) #[true, true, true, true, true, true, true, false, false, false, false, false, false, false] HT_ ?_
   refine pu 7 (some 10) #[true, true, true, true, true, true, true, true, false, false, false, false, false, false] HT_ ?_
   refine pu 8 (some 11) #[true, true, true, true, true, true, true, true, true, false, false, false, false, false] HT_ ?_
   refine pu 9 (some 12) #[true, true, true, true, true, true, true, true, true, true, false, false, false, false] HT_ ?_
   refine pu 10 (some 13) #[true, true, true, true, true, true, true, true, true, true, true, false, false, false] HT_ ?_
   refine pu 11 (some 14) #[true, true, true, true, true, true, true, true, true, true, true, true, false, false] HT_ ?_
   refine pu 12 (some 15) #[true, true, true, true, true, true, true, true, true, true, true, true, true, false] HT_ ?_
   refine py 13 (some 16) #[true, true, true, true, true, true, true, true, true, true, true, true, true, true] HT_ ?_
   refine done_ (done_of HT_.out (by kernel_rfl)) ?_
   try go_wp2
   go_meet
   case rel => exact ⟨_, (true), fs, H', ⟨by first | omega | exact Nat.le_refl _⟩, ⟨bq BK376.out⟩, ⟨bz HB.out⟩⟩
 case rest =>
  clear HC2
  (try clear c5b0); (try clear c5b1)
  obtain ⟨kq, x16_1, rfl, HA, HJ1, BK376, HB⟩ := hcut
  cases kq with
  | zero => exact absurd HA.out (by simp [rational_Valid.j0])
  | succ kj1 =>
   have H := HA.out
   clear HA
   simp only [rational_Valid.j0] at H
   by_cases c12 : x16_1 = true
   ·subst c12
    have H1 : (some false) = some r := by rw [if_pos rfl] at H; exact H
    clear H
    have H := H1
    clear H1
    obtain rfl := Option.some.inj H
    go_wp2
    go_ret
    exact ⟨fe, bz HB.out⟩
   ·replace c12 := Bool.eq_false_iff.mpr c12
    subst c12
    have H1 : (if a0_1.toList = ([] : List UInt8) then (if a0_0 = true then (some false) else (some (a0_2.toList == ([] : List UInt8)))) else (if a0_2.toList = ([] : List UInt8) then (some true) else (if a0_2.toList = ([1] : List UInt8) then (some false) else ((natural_GCD.f kj1 a0_1 a0_2).bind fun t379 => (some (t379.toList == ([1] : List UInt8))))))) = some r := by rw [if_neg (show ¬ (false = true) by decide)] at H; exact H
    clear H
    have H := H1
    clear H1
    by_cases c13 : a0_1.toList = ([] : List UInt8)
    ·rw [if_pos c13] at H
     have c13b0 := beq_iff_eq.mpr c13
     have c13b1 := bne_eq_false_iff_eq.mpr c13
     clear c13
     by_cases c14 : a0_0 = true
     ·subst c14
      have H1 : (some false) = some r := by rw [if_pos rfl] at H; exact H
      clear H
      have H := H1
      clear H1
      obtain rfl := Option.some.inj H
      obtain ⟨hcz15_0, hcz15_1, hcz15_2, hfz15_0, hfz15_1, hfz15_2⟩ := c3 BK376.out
      go_wp2
      go_ret
      exact ⟨fe, bz HB.out⟩
     ·replace c14 := Bool.eq_false_iff.mpr c14
      subst c14
      have H1 : (some (a0_2.toList == ([] : List UInt8))) = some r := by rw [if_neg (show ¬ (false = true) by decide)] at H; exact H
      clear H
      have H := H1
      clear H1
      obtain rfl := Option.some.inj H
      obtain ⟨hcz16_0, hcz16_1, hcz16_2, hfz16_0, hfz16_1, hfz16_2⟩ := c3 BK376.out
      go_wp2
      go_ret
      exact ⟨fe, bz HB.out⟩
    ·rw [if_neg c13] at H
     have c13b0 := beq_eq_false_iff_ne.mpr c13
     have c13b1 := bne_iff_ne.mpr c13
     by_cases c17 : a0_2.toList = ([] : List UInt8)
     ·rw [if_pos c17] at H
      have c17b0 := beq_iff_eq.mpr c17
      have c17b1 := bne_eq_false_iff_eq.mpr c17
      clear c17
      obtain rfl := Option.some.inj H
      obtain ⟨hcz18_0, hcz18_1, hcz18_2, hfz18_0, hfz18_1, hfz18_2⟩ := c3 BK376.out
      go_wp2
      go_ret
      exact ⟨fe, bz HB.out⟩
     ·rw [if_neg c17] at H
      have c17b0 := beq_eq_false_iff_ne.mpr c17
      have c17b1 := bne_iff_ne.mpr c17
      by_cases c19 : a0_2.toList = ([1] : List UInt8)
      ·rw [if_pos c19] at H
       have c19b0 := beq_iff_eq.mpr c19
       have c19b1 := bne_eq_false_iff_eq.mpr c19
       clear c19
       obtain rfl := Option.some.inj H
       obtain ⟨hcz20_0, hcz20_1, hcz20_2, hfz20_0, hfz20_1, hfz20_2⟩ := c3 BK376.out
       go_wp2
       go_ret
       exact ⟨fe, bz HB.out⟩
      ·rw [if_neg c19] at H
       have c19b0 := beq_eq_false_iff_ne.mpr c19
       have c19b1 := bne_iff_ne.mpr c19
       obtain ⟨t379, A21, H⟩ := bs1 H
       obtain rfl := Option.some.inj H
       obtain ⟨hcz22_0, hcz22_1, hcz22_2, hfz22_0, hfz22_1, hfz22_2⟩ := c3 BK376.out
       go_wp2_with (first | (go_at_call 27; (with_reducible refine (natural_GCD.calls kj1 a0_1 a0_2 t379 _ A21.out).mono ?_); rintro e w23 ⟨rfl, hb⟩; replace BK376 := Aside0.mk (bk0 BK376.out hb); replace HB := Aside0.mk (bs HB.out hb); (try clear hb)))
       go_ret
       exact ⟨fe, bz HB.out⟩

/-! ### rational_clean: function 34 -/
def rational_clean.f (k : Nat) (a0_0 : Bool) (a0_1 : ByteArray) (a0_2 : ByteArray) : Option (Bool × ByteArray × ByteArray) := (rational_Valid.f k a0_0 a0_1 a0_2).bind fun t382 => (if t382 = true then (some (a0_0, a0_1, a0_2)) else (some (false, (⟨#[]⟩ : ByteArray), (⟨#[]⟩ : ByteArray))))
theorem rational_clean.mono : ∀ a0 a1 a2 k, LeO (rational_clean.f k a0 a1 a2) (rational_clean.f (k + 1) a0 a1 a2) := by
 intro a0 a1 a2 k
 unfold rational_clean.f
 repeat' with_reducible first | exact rational_Valid.mono _ _ _ _ | exact LeO.refl _ | exact LeO.none _ | refine LeO.ite ?_ ?_ | refine LeO.bind ?_ (fun _ => ?_)
set_option maxHeartbeats 8000000 in
set_option maxRecDepth 100000 in
theorem rational_clean.calls (k : Nat) (a0_0 : Bool) (a0_1 : ByteArray) (a0_2 : ByteArray) (r1 : Bool) (r2 : ByteArray) (r3 : ByteArray) (w : World) (h : rational_clean.f k a0_0 a0_1 a0_2 = some (r1, r2, r3)) :
  Calls Tryd.prog 34 #[.agg #[.bool a0_0, .string a0_1, .string a0_2]] w fun e w' => e = .returned (.agg #[.bool r1, .string r2, .string r3]) ∧ Below w.heap.size w w' := by
 have hu23 := Tryd.underlying23
 have HB := Aside0.mk (Below.refl w.heap.size w)
 have H := h
 clear h
 unfold rational_clean.f at H
 obtain ⟨t382, A2, H⟩ := bs1 H
 by_cases c3 : t382 = true
 ·subst c3
  have H1 : (some (a0_0, a0_1, a0_2)) = some (r1, r2, r3) := by rw [if_pos rfl] at H; exact H
  clear H
  have H := H1
  clear H1
  simp only [Option.some.injEq, Prod.mk.injEq] at H
  obtain ⟨rfl, rfl, rfl⟩ := H
  go_enter Tryd.func34, Tryd.ntmps34
  go_wp2_with (first | ((with_reducible refine gd 1 rfl ?_); refine bx 1 (#[.bool a0_0, .string a0_1, .string a0_2]) 23 ?_; intro gb380 hg w4 hbox hb; have BK380 := Aside0.mk (hbox); have GW380 := sg hg HB.out; have GE380 := sg hg HB.out; replace HB := Aside0.mk (bs HB.out hb); clear hb hbox hg) | ((with_reducible refine gd 2 rfl ?_); refine bx 2 (#[.bool false, .string (⟨#[]⟩ : ByteArray), .string (⟨#[]⟩ : ByteArray)]) 23 ?_; intro gb381 hg w5 hbox hb; have BK381 := Aside0.mk (hbox); have GW381 := sg hg HB.out; have GE381 := sg hg HB.out; replace HB := Aside0.mk (bs HB.out hb); have NB380_381 := nl hg BK380.out; have NB381_380 := nr hg BK380.out; replace BK380 := Aside0.mk (bk0 BK380.out hb); clear hb hbox hg; have hnb6 := NB380_381.out; have hnc6 := NB381_380.out; obtain ⟨hcz7_0, hcz7_1, hcz7_2, hfz7_0, hfz7_1, hfz7_2⟩ := c3 BK380.out) | ((with_reducible refine gc 9 rfl ?_); refine gl (some 4) Tryd.func9 #[.agg #[.bool a0_0, .string a0_1, .string a0_2]] ?_; (with_reducible refine (rational_Valid.calls k a0_0 a0_1 a0_2 true _ A2.out).mono ?_); rintro e w8 ⟨rfl, hb⟩; refine ⟨_, rfl, ?_⟩; replace BK380 := Aside0.mk (bk0 BK380.out hb); replace BK381 := Aside0.mk (bk0 BK381.out hb); replace HB := Aside0.mk (bs HB.out hb); (try clear hb); obtain ⟨hcz9_0, hcz9_1, hcz9_2, hfz9_0, hfz9_1, hfz9_2⟩ := c3 BK380.out; obtain ⟨hcz10_0, hcz10_1, hcz10_2, hfz10_0, hfz10_1, hfz10_2⟩ := c3 BK381.out))
  refine bodyPost_ret (results_cell_row rfl _ _ gb381 23 #[.bool a0_0, .string a0_1, .string a0_2] (0, 0) _ rfl (bq BK381.out) Tryd.underlying23 rfl (by kernel_rfl)) rfl ?_
  exact ⟨fe, bz HB.out⟩
 ·replace c3 := Bool.eq_false_iff.mpr c3
  subst c3
  have H1 : (some (false, (⟨#[]⟩ : ByteArray), (⟨#[]⟩ : ByteArray))) = some (r1, r2, r3) := by rw [if_neg (show ¬ (false = true) by decide)] at H; exact H
  clear H
  have H := H1
  clear H1
  simp only [Option.some.injEq, Prod.mk.injEq] at H
  obtain ⟨rfl, rfl, rfl⟩ := H
  go_enter Tryd.func34, Tryd.ntmps34
  go_wp2_with (first | ((with_reducible refine gd 1 rfl ?_); refine bx 1 (#[.bool a0_0, .string a0_1, .string a0_2]) 23 ?_; intro gb380 hg w11 hbox hb; have BK380 := Aside0.mk (hbox); have GW380 := sg hg HB.out; have GE380 := sg hg HB.out; replace HB := Aside0.mk (bs HB.out hb); clear hb hbox hg) | ((with_reducible refine gd 2 rfl ?_); refine bx 2 (#[.bool false, .string (⟨#[]⟩ : ByteArray), .string (⟨#[]⟩ : ByteArray)]) 23 ?_; intro gb381 hg w12 hbox hb; have BK381 := Aside0.mk (hbox); have GW381 := sg hg HB.out; have GE381 := sg hg HB.out; replace HB := Aside0.mk (bs HB.out hb); have NB380_381 := nl hg BK380.out; have NB381_380 := nr hg BK380.out; replace BK380 := Aside0.mk (bk0 BK380.out hb); clear hb hbox hg; have hnb13 := NB380_381.out; have hnc13 := NB381_380.out; obtain ⟨hcz14_0, hcz14_1, hcz14_2, hfz14_0, hfz14_1, hfz14_2⟩ := c3 BK380.out) | ((with_reducible refine gc 9 rfl ?_); refine gl (some 4) Tryd.func9 #[.agg #[.bool a0_0, .string a0_1, .string a0_2]] ?_; (with_reducible refine (rational_Valid.calls k a0_0 a0_1 a0_2 false _ A2.out).mono ?_); rintro e w15 ⟨rfl, hb⟩; refine ⟨_, rfl, ?_⟩; replace BK380 := Aside0.mk (bk0 BK380.out hb); replace BK381 := Aside0.mk (bk0 BK381.out hb); replace HB := Aside0.mk (bs HB.out hb); (try clear hb); obtain ⟨hcz16_0, hcz16_1, hcz16_2, hfz16_0, hfz16_1, hfz16_2⟩ := c3 BK381.out))
  refine bodyPost_ret (results_cell_row rfl _ _ gb381 23 #[.bool false, .string (⟨#[]⟩ : ByteArray), .string (⟨#[]⟩ : ByteArray)] (0, 0) _ rfl (bq BK381.out) Tryd.underlying23 rfl (by kernel_rfl)) rfl ?_
  exact ⟨fe, bz HB.out⟩

/-! ### slices_Reverse_byte_byte: function 69 -/
def slices_Reverse_byte_byte.l0 : Nat → List Int → Int → Int → Option (List Int)
 | 0, _, _, _ => none
 | k + 1, x0, x2, x3 => if x2 < x3 then (if 0 ≤ x3 then (if x3 < (x0.length : Int) then (if 0 ≤ x2 then (if x2 < (x0.length : Int) then (slices_Reverse_byte_byte.l0 k ((x0.set (x2 : Int).toNat (rd x0 x3)).set (x3 : Int).toNat (rd x0 x2)) (wrap64 (x2 + 1)) (wrap64 (x3 - 1))) else (none)) else (none)) else (none)) else (none)) else (some x0)
def slices_Reverse_byte_byte.f (k : Nat) (l0 : List Int) : Option (List Int) := slices_Reverse_byte_byte.l0 k l0 0 (wrap64 ((l0.length : Int) - 1))
theorem slices_Reverse_byte_byte.mono_l : ∀ k, (∀ y0 y1 y2, LeO (slices_Reverse_byte_byte.l0 k y0 y1 y2) (slices_Reverse_byte_byte.l0 (k + 1) y0 y1 y2))
 | 0 => fun _ _ _ r h => by simp [slices_Reverse_byte_byte.l0] at h
 | k + 1 => by
  have ih0 := slices_Reverse_byte_byte.mono_l k
  ·intro y0 y1 y2
   unfold slices_Reverse_byte_byte.l0
   repeat' with_reducible first | exact ih0 _ _ _ | exact LeO.refl _ | exact LeO.none _ | refine LeO.ite ?_ ?_ | refine LeO.bind ?_ (fun _ => ?_)
theorem slices_Reverse_byte_byte.mono : ∀ a0 k, LeO (slices_Reverse_byte_byte.f k a0) (slices_Reverse_byte_byte.f (k + 1) a0) := by
 intro a0 k
 have ih0 := slices_Reverse_byte_byte.mono_l k
 unfold slices_Reverse_byte_byte.f
 repeat' with_reducible first | exact ih0 _ _ _ | exact LeO.refl _ | exact LeO.none _ | refine LeO.ite ?_ ?_ | refine LeO.bind ?_ (fun _ => ?_)
def slices_Reverse_byte_byte.T3 : Bool × List (List Nat × List Nat) := (true, [([], []), ([], []), ([], []), ([], []), ([], []), ([], []), ([4, 5], [4, 5]), ([6], [6]), ([], []), ([], []), ([8, 9], [8, 9]), ([10], [10]), ([0, 1, 0, 1, 4, 5, 6, 7, 11], [0, 1]), ([12, 7, 0, 1, 4, 5, 6, 7, 11], [7, 12]), ([2, 3, 0, 1, 2, 3, 4, 5, 6, 7, 8, 9, 10, 11, 12, 13], [2, 3]), ([14, 11, 13, 0, 1, 2, 3, 4, 5, 6, 7, 8, 9, 10, 11, 12, 13], [11, 14])])
def slices_Reverse_byte_byte.B3 : List Nat := [0, 0, 0, 0, 0, 0, 48, 112, 0, 0, 768, 1792, 4083, 8179, 16383, 32767]
theorem slices_Reverse_byte_byte.tab3 : rtab .any (opsOf Tryd.f69 3) = slices_Reverse_byte_byte.T3 := by kernel_rfl
theorem slices_Reverse_byte_byte.bits3 : waitsOk slices_Reverse_byte_byte.T3.2 slices_Reverse_byte_byte.B3 = true := by kernel_rfl
set_option maxHeartbeats 8000000 in
set_option maxRecDepth 100000 in
theorem slices_Reverse_byte_byte.calls (k : Nat) (P0_ : Nat → Prop) (u9000_ : Value) (l0 : List Int) (r : List Int) (w0 w : World) (hB : Below w0.heap.size w0 w) (ho0 : Kd.R (Kd.int .u8) 5 w w0.heap.size P0_ u9000_ l0) (h : slices_Reverse_byte_byte.f k l0 = some r) :
  Calls Tryd.prog 69 #[u9000_] w fun e w' => e = .returned (.tuple #[]) ∧ Kd.R (Kd.int .u8) 5 w' w0.heap.size (fun k_ => (P0_ k_ ∨ w.heap.size ≤ k_)) u9000_ r ∧ Below w0.heap.size w0 w' ∧ Kept w w' (fun k_ => P0_ k_) := by
 have HO0 := Aside0.mk (show Kd.R (Kd.int .u8) 5 w w0.heap.size (fun k_ => (P0_ k_ ∨ w.heap.size ≤ k_)) u9000_ l0 from Kd.R_mono ho0 (fun k_ hk => (.inl hk)))
 have HK := Aside0.mk (Kept.refl w (fun k_ => P0_ k_))
 have HW0 := Aside0.mk hB.size
 have HB := Aside0.mk hB
 clear hB
 have H := h
 clear h
 unfold slices_Reverse_byte_byte.f at H
 have H' := Aside0.mk H
 clear H
 obtain ⟨Ao2, co2, eo2⟩ := Kd.R_slice HO0.out
 subst eo2
 go_enter Tryd.func69, Tryd.ntmps69
 go_wp2
 go_loopg [2, 3] k (fun kq v2 v3 w' => ∃ (x0_1 : List Int) (x2_1 : Int) (x3_1 : Int), v2 = .int .i64 x2_1 ∧ v3 = .int .i64 x3_1 ∧ Aside0 (slices_Reverse_byte_byte.l0 kq x0_1 x2_1 x3_1 = some r) ∧ Aside0 (kq ≤ k) ∧ Aside0 (Kd.R (Kd.int .u8) 5 w' w0.heap.size (fun k_ => (P0_ k_ ∨ w.heap.size ≤ k_)) (.slice Ao2 l0.length co2) x0_1) ∧ Aside0 (Kept w w' (fun k_ => P0_ k_)) ∧ Aside0 (Below w0.heap.size w0 w'))
 case atStart => exact ⟨(l0), (0), (wrap64 ((l0.length : Int) - 1)), fs, fs, H', ⟨Nat.le_refl _⟩, ⟨vs HO0.out⟩, ⟨by repeat (first | (with_reducible first | exact HK.out | apply Kept.alloc | apply Kept.drewN | apply Kept.drew) | exact HK.out)⟩, ⟨bz HB.out⟩⟩
 case round =>
  clear H'
  obtain ⟨x0_1, x2_1, x3_1, rfl, rfl, HA, HK1, HO_0, HK, HB⟩ := hrel
  have hl0_1 := (Kd.R_reads' HO_0.out).1
  rw [hl0_1] at HO_0
  (try simp only [hl0_1])
  cases gk with
  | zero => exact absurd HA.out (by simp [slices_Reverse_byte_byte.l0])
  | succ k1 =>
   have H := HA.out
   clear HA
   simp only [slices_Reverse_byte_byte.l0] at H
   by_cases c3 : x2_1 < x3_1
   ·rw [if_pos c3] at H
    have c3b0 : decide (x2_1 < x3_1) = true := decide_eq_true c3
    clear c3
    obtain ⟨c4, H⟩ := iN H
    have c4b0 : decide (0 ≤ x3_1) = true := decide_eq_true c4
    clear c4
    obtain ⟨c5, H⟩ := iN H
    have c5b0 : decide (x3_1 < (x0_1.length : Int)) = true := decide_eq_true c5
    (try (have c5b0_hl0_1 := c5b0; rw [hl0_1] at c5b0_hl0_1))
    clear c5
    obtain ⟨c6, H⟩ := iN H
    have c6b0 : decide (0 ≤ x2_1) = true := decide_eq_true c6
    clear c6
    obtain ⟨c7, H⟩ := iN H
    have c7b0 : decide (x2_1 < (x0_1.length : Int)) = true := decide_eq_true c7
    (try (have c7b0_hl0_1 := c7b0; rw [hl0_1] at c7b0_hl0_1))
    clear c7
    obtain ⟨y385, hy385⟩ : ∃ y_ : List Int, y_ = (x0_1.set (x2_1 : Int).toNat (rd x0_1 x3_1)) := ⟨_, rfl⟩
    (try first | rw [← hy385] at H | (dsimp only at H; rw [← hy385] at H)); (try rw [Option.bind_some] at H)
    have Ny385 := Aside0.mk hy385
    clear hy385
    obtain ⟨y386, hy386⟩ : ∃ y_ : List Int, y_ = (y385.set (x3_1 : Int).toNat (rd x0_1 x2_1)) := ⟨_, rfl⟩
    (try first | rw [← hy386] at H | (dsimp only at H; rw [← hy386] at H)); (try rw [Option.bind_some] at H)
    have Ny386 := Aside0.mk hy386
    clear hy386
    have H' := Aside0.mk H
    clear H
    try go_wp2
    replace HO_0 := Aside0.mk (Kd.R_drew HO_0.out)
    replace HK := Aside0.mk (Kept.drew HK.out)
    replace HB := Aside0.mk (below_drew1 HB.out)
    have p383 : 0 ≤ (x3_1 : Int) := oa
    have q383 : x3_1 < (x0_1.length : Int) := oa
    obtain ⟨ad383, e383, hx383_0⟩ := Kd.at_int (Kd.R_reads' HO_0.out).2.2 x3_1 p383 q383
    cases e383
    replace p383 := eq_true p383
    replace q383 := eq_true q383
    have p384 : 0 ≤ (x2_1 : Int) := oa
    have q384 : x2_1 < (x0_1.length : Int) := oa
    obtain ⟨ad384, e384, hx384_0⟩ := Kd.at_int (Kd.R_reads' HO_0.out).2.2 x2_1 p384 q384
    obtain rfl : ad383 = ad384 := (by injection e384)
    replace p384 := eq_true p384
    replace q384 := eq_true q384
    have p8 : 0 ≤ (x2_1 : Int) := oa
    have q8 : (x2_1 : Int) < ((x0_1.length : Int) : Int) := oa
    obtain ⟨go8, co8, eo8, gb8, gl8, cl8, HG8⟩ := Kd.R_form HO_0.out (by omega)
    (first | cases eo8 | (injection eo8 with ea_ en_ ec_; (first | subst ea_ | (injection ea_ with ea_; subst ea_)); subst ec_; clear en_))
    have GB8 := Aside0.mk gb8
    have GG8 := Aside0.mk HG8
    clear gb8 gl8 HG8
    have HMgo8 := Aside0.mk (show (P0_ go8 ∨ w.heap.size ≤ go8) from (HO_0.out.1 _ rfl))
    (first | simp only [add_plain] at hx383_0 | skip)
    (first | simp only [add_plain] at hx384_0 | skip)
    obtain ⟨hx8_0, hf8_0⟩ := Kd.R_celln 0 HO_0.out (x2_1 : Int) p8 q8
    replace p8 := eq_true p8
    replace q8 := eq_true q8
    have HP11 := Kd.R_putn HO_0.out (x2_1 : Int) (rd x0_1 x3_1)
    rw [← Ny385.out] at HP11
    have HQ11 := Aside0.mk HP11
    clear HP11
    have p9 : 0 ≤ (x3_1 : Int) := oa
    have q9 : (x3_1 : Int) < ((x0_1.length : Int) : Int) := oa
    obtain ⟨hx9_0, hf9_0⟩ := Kd.R_celln 0 HQ11.out (x3_1 : Int) p9 q9
    replace p9 := eq_true p9
    replace q9 := eq_true q9
    have HP12 := Kd.R_putn HQ11.out (x3_1 : Int) (rd x0_1 x2_1)
    rw [← Ny386.out] at HP12
    have HQ12 := Aside0.mk HP12
    clear HP12
    refine start_ (n := 16) (S := fun w' => w'.cell? ⟨go8, (x3_1).toNat, none⟩ = some (.int .u8 (rd x0_1 x3_1)) ∧ w'.cell? ⟨go8, (x2_1).toNat, none⟩ = some (.int .u8 (rd x0_1 x2_1))) (ds := [13, 15]) #[false, false, false, false, false, false, false, false, false, false, false, false, false, false, false, false] (by kernel_rfl) rfl rfl ⟨hx383_0, hx384_0⟩ (fun hHeld => ?_); refine with_tabW slices_Reverse_byte_byte.tab3 slices_Reverse_byte_byte.bits3 (fun HT_ HW_ => ?_)
    generalize wr.drew = w10 at HO_0 HK HB GG8 HQ11 HQ12 hf8_0 hf9_0 hx383_0 hx384_0 hx8_0 hx9_0 hHeld ⊢
    refine py 0 (some 14) #[true, false, false, false, false, false, false, false, false, false, false, false, false, false, false, false] HT_ ?_
    refine py 1 (some 15) #[true, true, false, false, false, false, false, false, false, false, false, false, false, false, false, false] HT_ ?_
    refine py 2 (some 16) #[true, true, true, false, false, false, false, false, false, false, false, false, false, false, false, false] HT_ ?_
    refine py 3 (some 17) #[true, true, true, true, false, false, false, false, false, false, false, false, false, false, false, false] HT_ ?_
    refine py 4 (some 18) #[true, true, true, true, true, false, false, false, false, false, false, false, false, false, false, false] HT_ ?_
    refine py 5 (some 19) #[true, true, true, true, true, true, false, false, false, false, false, false, false, false, false, false] HT_ ?_
    refine py 6 (some 20) #[true, true, true, true, true, true, true, false, false, false, false, false, false, false, false, false] HT_ ?_
    refine py 8 (some 22) #[true, true, true, true, true, true, true, false, true, false, false, false, false, false, false, false] HT_ ?_
    refine py 9 (some 23) #[true, true, true, true, true, true, true, false, true, true, false, false, false, false, false, false] HT_ ?_
    refine py 10 (some 24) #[true, true, true, true, true, true, true, false, true, true, true, false, false, false, false, false] HT_ ?_
    refine take_ (i := 7) (N := some 21) (v := ?_) (a' := ?_) #[true, true, true, true, true, true, true, true, true, true, true, false, false, false, false, false] rfl rfl (take_ofW HT_.out HW_.out (by kernel_rfl)) (fun _ _ _ h => h) (Or.inl ⟨by rfl, ?_⟩) hHeld ?_ ?_
    rotate_left
    ·rintro w' ⟨s0, s1⟩
     go_simp
     with_reducible rfl
    rotate_left
    ·simp only [Act.put, List.setIfInBounds_toArray, List.set_cons_zero, List.set_cons_succ, i64_w, i32_w]
     rfl
    refine take_ (i := 11) (N := some 25) (v := ?_) (a' := ?_) #[true, true, true, true, true, true, true, true, true, true, true, true, false, false, false, false] rfl rfl (take_ofW HT_.out HW_.out (by kernel_rfl)) (fun _ _ _ h => h) (Or.inl ⟨by rfl, ?_⟩) hHeld ?_ ?_
    rotate_left
    ·rintro w' ⟨s0, s1⟩
     go_simp
     with_reducible rfl
    rotate_left
    ·simp only [Act.put, List.setIfInBounds_toArray, List.set_cons_zero, List.set_cons_succ, i64_w, i32_w]
     rfl
    refine py 12 (some 26) #[true, true, true, true, true, true, true, true, true, true, true, true, true, false, false, false] HT_ ?_
    refine last_ (i := 13) (N := none) #[true, true, true, true, true, true, true, true, true, true, true, true, true, true, false, false] rfl rfl (one_of HT_.out (by kernel_rfl)) (by decide) (fun K hK => ?_)
    refine skip_ (w1 := ?_) (by rfl) rfl ?_ ?_
    rotate_left
    ·go_simp
     rfl
    refine hK.out _ _ ?_
    clear hK K
    refine py 14 (some 27) #[true, true, true, true, true, true, true, true, true, true, true, true, true, true, true, false] HT_ ?_
    refine last_ (i := 15) (N := none) #[true, true, true, true, true, true, true, true, true, true, true, true, true, true, true, true] rfl rfl (one_of HT_.out (by kernel_rfl)) (by decide) (fun K hK => ?_)
    refine skip_ (w1 := ?_) (by rfl) rfl ?_ ?_
    rotate_left
    ·go_simp
     rfl
    refine hK.out _ _ ?_
    clear hK K
    refine done_ (done_of HT_.out (by kernel_rfl)) ?_
    try go_wp2
    (try simp only [← hl0_1])
    go_roundg k1
    case measure => have := HK1.out; omega
    case rel => exact ⟨(y386), (wrap64 (x2_1 + 1)), (wrap64 (x3_1 - 1)), fs, fs, H', ⟨by have := HK1.out; omega⟩, ⟨by (try simp only [hl0_1]); (with_reducible repeat (first | apply Kd.R_alloc | apply Kd.R_drewN | apply Kd.R_drew)); exact HQ12.out⟩, ⟨by repeat (first | (with_reducible first | exact HK.out | apply Kept.alloc | apply Kept.drewN | apply Kept.drew | refine Kept.setCell ?_ HMgo8.out _ | refine Kept.setCell ?_ HMgo8.out _) | exact HK.out)⟩, ⟨bz HB.out⟩⟩
   ·rw [if_neg c3] at H
    have c3b0 : decide (x2_1 < x3_1) = false := decide_eq_false c3
    clear c3
    obtain rfl := Option.some.inj H
    go_wp2
    first | go_end0 | ((try simp only [Exit.inBlock, Exit.then]); refine bodyPost_ret (results_none rfl _ _ _) rfl ?_)
    exact ⟨fe, (by first | exact (vs HO_0.out) | (simp only [hl0_1]; exact (vs HO_0.out))), bz HB.out, by repeat (first | (with_reducible first | exact HK.out | apply Kept.alloc | apply Kept.drewN | apply Kept.drew) | exact HK.out)⟩

/-! ### natural_Format: function 50 -/
mutual
def natural_Format.l0 : Nat → List Int → List Int → Option (ByteArray)
 | 0, _, _ => none
 | k + 1, x3, x4 => if (x3.length : Int) > 0 then ((natural_divideSmall.f k x3 1000000000).bind fun bt392 => (natural_Format.l1 k bt392.1 x4 bt392.2 0)) else ((slices_Reverse_byte_byte.f k x4).bind fun t390 => ((strings_TrimLeft.f k (strOfNums t390) (⟨#[48]⟩ : ByteArray)).bind fun t391 => (some t391)))
def natural_Format.l1 : Nat → List Int → List Int → Int → Int → Option (ByteArray)
 | 0, _, _, _, _ => none
 | k + 1, x3, x4, x5, x19 => if x19 < 9 then (if x4.length < 140737488355328 then (natural_Format.l1 k x3 (x4 ++ [(48 + (Int.tmod x5 10)) % 256]) ((Int.tdiv x5 10) % 4294967296) (wrap64 (x19 + 1))) else (none)) else (natural_Format.l0 k x3 x4)
end
def natural_Format.f (k : Nat) (a0 : ByteArray) : Option (ByteArray) := (natural_parse.f k a0).bind fun t387 => (if (t387.length : Int) = 0 then (some (⟨#[48]⟩ : ByteArray)) else (natural_Format.l0 k t387 ([] : List Int)))
theorem natural_Format.mono_l : ∀ k, (∀ y0 y1, LeO (natural_Format.l0 k y0 y1) (natural_Format.l0 (k + 1) y0 y1)) ∧ (∀ y0 y1 y2 y3, LeO (natural_Format.l1 k y0 y1 y2 y3) (natural_Format.l1 (k + 1) y0 y1 y2 y3))
 | 0 => ⟨fun _ _ r h => by simp [natural_Format.l0] at h, fun _ _ _ _ r h => by simp [natural_Format.l1] at h⟩
 | k + 1 => by
  obtain ⟨ih0, ih1⟩ := natural_Format.mono_l k
  refine ⟨?_, ?_⟩
  ·intro y0 y1
   unfold natural_Format.l0
   repeat' with_reducible first | exact ih0 _ _ | exact ih1 _ _ _ _ | exact natural_divideSmall.mono _ _ _ | exact natural_parse.mono _ _ | exact slices_Reverse_byte_byte.mono _ _ | exact strings_TrimLeft.mono _ _ _ | exact LeO.refl _ | exact LeO.none _ | refine LeO.ite ?_ ?_ | refine LeO.bind ?_ (fun _ => ?_)
  ·intro y0 y1 y2 y3
   unfold natural_Format.l1
   repeat' with_reducible first | exact ih0 _ _ | exact ih1 _ _ _ _ | exact natural_divideSmall.mono _ _ _ | exact natural_parse.mono _ _ | exact slices_Reverse_byte_byte.mono _ _ | exact strings_TrimLeft.mono _ _ _ | exact LeO.refl _ | exact LeO.none _ | refine LeO.ite ?_ ?_ | refine LeO.bind ?_ (fun _ => ?_)
theorem natural_Format.mono : ∀ a0 k, LeO (natural_Format.f k a0) (natural_Format.f (k + 1) a0) := by
 intro a0 k
 obtain ⟨ih0, ih1⟩ := natural_Format.mono_l k
 unfold natural_Format.f
 repeat' with_reducible first | exact ih0 _ _ | exact ih1 _ _ _ _ | exact natural_divideSmall.mono _ _ _ | exact natural_parse.mono _ _ | exact slices_Reverse_byte_byte.mono _ _ | exact strings_TrimLeft.mono _ _ _ | exact LeO.refl _ | exact LeO.none _ | refine LeO.ite ?_ ?_ | refine LeO.bind ?_ (fun _ => ?_)
set_option maxHeartbeats 8000000 in
set_option maxRecDepth 100000 in
theorem natural_Format.calls (k : Nat) (a0 : ByteArray) (r : ByteArray) (w : World) (h : natural_Format.f k a0 = some r) :
  Calls Tryd.prog 50 #[.string a0] w fun e w' => e = .returned (.string r) ∧ Below w.heap.size w w' := by
 have HB := Aside0.mk (Below.refl w.heap.size w)
 have H := h
 clear h
 unfold natural_Format.f at H
 obtain ⟨t387, A2, H⟩ := bs1 H
 by_cases c3 : (t387.length : Int) = 0
 ·rw [if_pos c3] at H
  have c3b0 := beq_iff_eq.mpr c3
  have c3b1 := bne_eq_false_iff_eq.mpr c3
  clear c3
  obtain rfl := Option.some.inj H
  go_enter Tryd.func50, Tryd.ntmps50
  go_wp2_with (first | ((with_reducible refine gc 54 rfl ?_); refine gl (some 7) Tryd.func54 #[.string a0] ?_; (with_reducible refine (natural_parse.calls k a0 t387 _ A2.out).mono ?_); rintro e w4 ⟨v388, rfl, ho0, hb⟩; refine ⟨_, rfl, ?_⟩; have HO389 := Aside0.mk (Kd.V_lower (Kd.V_mono (ok' := fun k_ => True) ho0 (fun k_ hk_ => trivial)) (sz HB.out)); replace HB := Aside0.mk (bs HB.out hb); (try clear hb ho0); obtain ⟨Ao5, co5, rfl⟩ := Kd.V_slice HO389.out))
  go_ret
  exact ⟨fe, bz HB.out⟩
 ·rw [if_neg c3] at H
  have c3b0 := beq_eq_false_iff_ne.mpr c3
  have c3b1 := bne_iff_ne.mpr c3
  have c3b2 : ¬ (t387 = []) := fun h_ => c3 (by rw [h_]; rfl)
  have H' := Aside0.mk H
  clear H
  go_enter Tryd.func50, Tryd.ntmps50
  go_wp2_with (first | ((with_reducible refine gc 54 rfl ?_); refine gl (some 7) Tryd.func54 #[.string a0] ?_; (with_reducible refine (natural_parse.calls k a0 t387 _ A2.out).mono ?_); rintro e w6 ⟨v388, rfl, ho0, hb⟩; refine ⟨_, rfl, ?_⟩; have HO389 := Aside0.mk (Kd.V_lower (Kd.V_mono (ok' := fun k_ => True) ho0 (fun k_ hk_ => trivial)) (sz HB.out)); replace HB := Aside0.mk (bs HB.out hb); (try clear hb ho0); obtain ⟨Ao7, co7, rfl⟩ := Kd.V_slice HO389.out))
  go_loopg [3, 4] k (fun kq v3 v4 w' => ∃ (x3_1 : List Int) (x4_1 : List Int), Aside0 (natural_Format.l0 kq x3_1 x4_1 = some r) ∧ Aside0 (kq ≤ k) ∧ Aside0 (Kd.V (Kd.int .u32) 72 w' w.heap.size (fun k_ => some k_ ≠ (v4 : Value).ownBlock) v3 x3_1) ∧ Aside0 (Kd.R (Kd.int .u8) 5 w' w.heap.size (fun _ => True) v4 x4_1) ∧ Aside0 (Below w.heap.size w w'))
  case atStart => exact ⟨(t387), (([] : List Int)), H', ⟨Nat.le_refl _⟩, ⟨vm HO389.out (fun _ hk => (by simp [Value.ownBlock]))⟩, ⟨by first | exact Kd.R_nil _ _ _ _ _ | exact Kd.N_nil _ _ _ _ _ | exact Kd.V_nil _ _ _ _ _ | exact Kd.Q_nil _ _ _ _ _ | exact Kd.S_nil _ _ _ _ _⟩, ⟨bz HB.out⟩⟩
  case round =>
   clear H'
   (try clear c3b0); (try clear c3b1); (try clear c3b2)
   obtain ⟨x3_1, x4_1, HA, HK1, HO_3, HO_4, HB⟩ := hrel
   cases gk with
   | zero => exact absurd HA.out (by simp [natural_Format.l0])
   | succ k1 =>
    have H := HA.out
    clear HA
    simp only [natural_Format.l0] at H
    by_cases c8 : (x3_1.length : Int) > 0
    ·rw [if_pos c8] at H
     have c8b0 : decide (0 < (x3_1.length : Int)) = true := decide_eq_true c8
     have c8b1 : decide (0 < x3_1.length) = true := decide_eq_true (by omega)
     clear c8
     obtain ⟨⟨t392, t395⟩, A9, H⟩ := bs1 H; dsimp only at H
     have H' := Aside0.mk H
     clear H
     obtain ⟨Ao10, co10, rfl⟩ := Kd.V_slice HO_3.out
     go_wp2_with (first | ((with_reducible refine gc 68 rfl ?_); refine gl (some 16) Tryd.func68 #[.slice Ao10 x3_1.length co10, .int .u32 1000000000] ?_; (with_reducible refine (natural_divideSmall.calls k1 _ _ x3_1 1000000000 t392 t395 _ ?side1 ?side2 A9.out).mono ?_); (case side1 => exact vs (Kd.V_reads' HO_3.out).2.2); (case side2 => exact (Kd.V_reads' HO_3.out).2.1); rintro e w11 ⟨v393, rfl, ho0, hb⟩; refine ⟨_, rfl, ?_⟩; replace HO_3 := Aside0.mk (vb HO_3.out hb); have HO394 := Aside0.mk (Kd.V_lower (Kd.V_mono (ok' := fun k_ => some k_ ≠ (u4 : Value).ownBlock) ho0 (fun k_ hk_ => (Kd.fresh' (Kd.R_lt (vs HO_4.out)) k_ hk_))) (sz HB.out)); replace HO_4 := Aside0.mk (rb HO_4.out hb); replace HB := Aside0.mk (bs HB.out hb); (try clear hb ho0)))
     go_loopg [4, 5, 19] k1 (fun kq v4 v5 v19 w' => ∃ (x4_2 : List Int) (x5_2 : Int) (x19_2 : Int), v5 = .int .u32 x5_2 ∧ v19 = .int .i64 x19_2 ∧ Aside0 (natural_Format.l1 kq t392 x4_2 x5_2 x19_2 = some r) ∧ Aside0 (kq ≤ k1) ∧ Aside0 (Kd.V (Kd.int .u32) 72 w' w.heap.size (fun k_ => some k_ ≠ (v4 : Value).ownBlock) v393 t392) ∧ Aside0 (Kd.R (Kd.int .u8) 5 w' w.heap.size (fun _ => True) v4 x4_2) ∧ Aside0 (Below w.heap.size w w'))
     case atStart => exact ⟨(x4_1), (t395), (0), fs, fs, H', ⟨Nat.le_refl _⟩, ⟨vs HO394.out⟩, ⟨vs HO_4.out⟩, ⟨bz HB.out⟩⟩
     case round =>
      clear H'
      (try clear c3b0); (try clear c3b1); (try clear c3b2); (try clear c8b0); (try clear c8b1)
      obtain ⟨x4_2, x5_2, x19_2, rfl, rfl, HA, HK2, HO_3, HO_4, HB⟩ := hrel
      cases gk with
      | zero => exact absurd HA.out (by simp [natural_Format.l1])
      | succ k2 =>
       have H := HA.out
       clear HA
       simp only [natural_Format.l1] at H
       by_cases c12 : x19_2 < 9
       ·rw [if_pos c12] at H
        have c12b0 : decide (x19_2 < 9) = true := decide_eq_true c12
        clear c12
        obtain ⟨c13, H⟩ := iN H
        have LMc13 := Aside0.mk c13
        clear c13
        obtain ⟨y396, hy396⟩ : ∃ y_ : List Int, y_ = (x4_2 ++ [(48 + (Int.tmod x5_2 10)) % 256]) := ⟨_, rfl⟩
        (try first | rw [← hy396] at H | (dsimp only at H; rw [← hy396] at H)); (try rw [Option.bind_some] at H)
        have Ny396 := Aside0.mk hy396
        clear hy396
        have H' := Aside0.mk H
        clear H
        go_wp2_with (first | ((with_reducible refine gate_builtin (b := .append) (xs := #[.tmp 21, .tmp 26]) rfl ?_); at_builtin; refine Kd.R_append (Kd.int .u8) (w0 := w) w.heap.size rfl (.tmp 21) (.tmp 26) 82 5 (.int .u8 0) 1 rfl Tryd.underlying82 info5 rfl (by decide) (by omega) u4 x4_2 ((48 + (Int.tmod x5_2 10)) % 256) [.int .u8 ((48 + (Int.tmod x5_2 10)) % 256)] (fun _ => True) (fun _ => False) rfl rfl ?aP (fun _ hk => hk.elim) ?aF ?aO ?aB ?aS ?aL ?_; (case aP => exact rfl); (case aB => exact (bz HB.out)); (case aF => exact (fun _ _ => trivial)); (case aO => exact (vs HO_4.out)); (case aS => exact (sz HB.out)); (case aL => have := LMc13.out; omega); intro v397 w14 ho hb hg hat; rw [← Ny396.out] at ho; replace HO_3 := Aside0.mk (Kd.V_afterv (ok := (fun _ => True)) (vm HO_3.out (fun _ hk => ⟨trivial, hk⟩)) hg hat); replace HB := Aside0.mk (hb); have HO398 := Aside0.mk (ho); clear HO_4; clear ho hb hg hat))
        go_roundg k2
        case measure => have := HK1.out; have := HK2.out; omega
        case rel => exact ⟨(y396), ((Int.tdiv x5_2 10) % 4294967296), (wrap64 (x19_2 + 1)), fs, fs, H', ⟨by have := HK1.out; have := HK2.out; omega⟩, ⟨vm HO_3.out (fun _ hk => hk.2)⟩, ⟨vs HO398.out⟩, ⟨bz HB.out⟩⟩
       ·rw [if_neg c12] at H
        have c12b0 : decide (x19_2 < 9) = false := decide_eq_false c12
        clear c12
        have H' := Aside0.mk H
        clear H
        go_wp2
        go_roundg k2
        case measure => have := HK1.out; have := HK2.out; omega
        case rel => exact ⟨(t392), (x4_2), H', ⟨by have := HK1.out; have := HK2.out; omega⟩, ⟨vs HO_3.out⟩, ⟨vs HO_4.out⟩, ⟨bz HB.out⟩⟩
    ·rw [if_neg c8] at H
     have c8b0 : decide (0 < (x3_1.length : Int)) = false := decide_eq_false c8
     have c8b1 : decide (0 < x3_1.length) = false := decide_eq_false (by omega)
     clear c8
     obtain ⟨t390, A15, H⟩ := bs1 H
     obtain ⟨t391, A16, H⟩ := bs1 H
     obtain rfl := Option.some.inj H
     obtain ⟨Ao17, co17, rfl⟩ := Kd.V_slice HO_3.out
     obtain ⟨Ao18, co18, eo18⟩ := Kd.R_slice HO_4.out
     subst eo18
     go_wp2_with (first | ((with_reducible refine gc 69 rfl ?_); refine gl (some 32) Tryd.func69 #[.slice Ao18 x4_1.length co18] ?_; (with_reducible refine (slices_Reverse_byte_byte.calls k1 (fun k_ => some k_ = (.slice Ao18 x4_1.length co18 : Value).ownBlock) (.slice Ao18 x4_1.length co18) x4_1 t390 w _ ?side1 ?side2 A15.out).mono ?_); (case side1 => repeat (first | (with_reducible first | exact HB.out | apply below_alloc | apply pw_below_drewN | apply below_drew1) | exact HB.out)); (case side2 => exact Kd.R_tight rfl HO_4.out); rintro e w19 ⟨rfl, hy0, hb, hkp⟩; refine ⟨_, rfl, ?_⟩; replace HO_3 := Aside0.mk (Kd.V_mono (ok' := fun k_ => some k_ ≠ (.slice Ao18 x4_1.length co18 : Value).ownBlock) (Kd.V_keptB (HO_3.out) hkp (fun k_ hk_ hs_ => (hk_) hs_)) (fun k_ hk_ => hk_.1)); replace HO_4 := Aside0.mk (Kd.R_reok rfl hy0 (fun k_ e_ => HO_4.out.1 k_ e_)); replace HB := Aside0.mk (hb); (try clear hb hkp hy0); have hcv20 := own_string (P := Tryd.prog) Tryd.underlying82 Tryd.underlying5 Tryd.underlying9 (Kd.own_of_R HO_4.out)) | ((with_reducible refine gc 53 rfl ?_); refine gl (some 35) Tryd.func53 #[.string (strOfNums t390), .string (⟨#[48]⟩ : ByteArray)] ?_; (with_reducible refine (strings_TrimLeft.calls k1 (strOfNums t390) (⟨#[48]⟩ : ByteArray) t391 _ A16.out).mono ?_); rintro e w21 ⟨rfl, hb⟩; refine ⟨_, rfl, ?_⟩; replace HO_3 := Aside0.mk (vb HO_3.out hb); replace HO_4 := Aside0.mk (rb HO_4.out hb); replace HB := Aside0.mk (bs HB.out hb); (try clear hb)))
     go_ret
     exact ⟨fe, bz HB.out⟩

/-! ### rational_Format: function 23 -/
def rational_Format.f (k : Nat) (a0_0 : Bool) (a0_1 : ByteArray) (a0_2 : ByteArray) : Option (ByteArray) := (rational_clean.f k a0_0 a0_1 a0_2).bind fun bt400 => ((natural_Format.f k bt400.2.1).bind fun t403 => (if bt400.1 = true then (if 1 + t403.size ≤ 9223372036854775807 then (if bt400.2.2.toList = ([] : List UInt8) then (some ((⟨#[45]⟩ : ByteArray) ++ t403)) else ((natural_Format.f k bt400.2.2).bind fun t404 => (if 1 + t404.size ≤ 9223372036854775807 then (if ((⟨#[45]⟩ : ByteArray) ++ t403).size + ((⟨#[47]⟩ : ByteArray) ++ t404).size ≤ 9223372036854775807 then (some (((⟨#[45]⟩ : ByteArray) ++ t403) ++ ((⟨#[47]⟩ : ByteArray) ++ t404))) else (none)) else (none)))) else (none)) else (if bt400.2.2.toList = ([] : List UInt8) then (some t403) else ((natural_Format.f k bt400.2.2).bind fun t405 => (if 1 + t405.size ≤ 9223372036854775807 then (if t403.size + ((⟨#[47]⟩ : ByteArray) ++ t405).size ≤ 9223372036854775807 then (some (t403 ++ ((⟨#[47]⟩ : ByteArray) ++ t405))) else (none)) else (none))))))
theorem rational_Format.mono : ∀ a0 a1 a2 k, LeO (rational_Format.f k a0 a1 a2) (rational_Format.f (k + 1) a0 a1 a2) := by
 intro a0 a1 a2 k
 unfold rational_Format.f
 repeat' with_reducible first | exact natural_Format.mono _ _ | exact rational_clean.mono _ _ _ _ | exact LeO.refl _ | exact LeO.none _ | refine LeO.ite ?_ ?_ | refine LeO.bind ?_ (fun _ => ?_)
set_option maxHeartbeats 8000000 in
set_option maxRecDepth 100000 in
theorem rational_Format.calls (k : Nat) (a0_0 : Bool) (a0_1 : ByteArray) (a0_2 : ByteArray) (r : ByteArray) (w : World) (h : rational_Format.f k a0_0 a0_1 a0_2 = some r) :
  Calls Tryd.prog 23 #[.agg #[.bool a0_0, .string a0_1, .string a0_2]] w fun e w' => e = .returned (.string r) ∧ Below w.heap.size w w' := by
 have hu23 := Tryd.underlying23
 have HB := Aside0.mk (Below.refl w.heap.size w)
 have H := h
 clear h
 unfold rational_Format.f at H
 obtain ⟨⟨t400, t401, t402⟩, A2, H⟩ := bs1 H; dsimp only at H
 obtain ⟨t403, A3, H⟩ := bs1 H
 by_cases c4 : t400 = true
 ·subst c4
  have H1 : (if 1 + t403.size ≤ 9223372036854775807 then (if t402.toList = ([] : List UInt8) then (some ((⟨#[45]⟩ : ByteArray) ++ t403)) else ((natural_Format.f k t402).bind fun t404 => (if 1 + t404.size ≤ 9223372036854775807 then (if ((⟨#[45]⟩ : ByteArray) ++ t403).size + ((⟨#[47]⟩ : ByteArray) ++ t404).size ≤ 9223372036854775807 then (some (((⟨#[45]⟩ : ByteArray) ++ t403) ++ ((⟨#[47]⟩ : ByteArray) ++ t404))) else (none)) else (none)))) else (none)) = some r := by rw [if_pos rfl] at H; exact H
  clear H
  have H := H1
  clear H1
  obtain ⟨c5, H⟩ := iN H
  have c5b0 := eq_true c5
  have c5b1 : decide (1 + t403.size ≤ 9223372036854775807) = true := decide_eq_true c5
  try have c5b2 : (9223372036854775807 < 1 + t403.size) = False := eq_false (Nat.not_lt.2 c5)
  by_cases c6 : t402.toList = ([] : List UInt8)
  ·rw [if_pos c6] at H
   have c6b0 := beq_iff_eq.mpr c6
   have c6b1 := bne_eq_false_iff_eq.mpr c6
   clear c6
   obtain rfl := Option.some.inj H
   go_enter Tryd.func23, Tryd.ntmps23
   go_wp2_with (first | ((with_reducible refine gd 1 rfl ?_); refine bx 1 (#[.bool a0_0, .string a0_1, .string a0_2]) 23 ?_; intro gb399 hg w7 hbox hb; have BK399 := Aside0.mk (hbox); have GW399 := sg hg HB.out; have GE399 := sg hg HB.out; replace HB := Aside0.mk (bs HB.out hb); clear hb hbox hg; obtain ⟨hcz8_0, hcz8_1, hcz8_2, hfz8_0, hfz8_1, hfz8_2⟩ := c3 BK399.out) | ((with_reducible refine gc 34 rfl ?_); refine gl (some 5) Tryd.func34 #[.agg #[.bool a0_0, .string a0_1, .string a0_2]] ?_; (with_reducible refine (rational_clean.calls k a0_0 a0_1 a0_2 true t401 t402 _ A2.out).mono ?_); rintro e w9 ⟨rfl, hb⟩; refine ⟨_, rfl, ?_⟩; replace BK399 := Aside0.mk (bk0 BK399.out hb); replace HB := Aside0.mk (bs HB.out hb); (try clear hb); obtain ⟨hcz10_0, hcz10_1, hcz10_2, hfz10_0, hfz10_1, hfz10_2⟩ := c3 BK399.out) | ((with_reducible refine gc 50 rfl ?_); refine gl (some 8) Tryd.func50 #[.string t401] ?_; (with_reducible refine (natural_Format.calls k t401 t403 _ A3.out).mono ?_); rintro e w11 ⟨rfl, hb⟩; refine ⟨_, rfl, ?_⟩; replace BK399 := Aside0.mk (bk BK399.out hb (.cells #[.bool true, .string t401, .string t402] 23 (0, 0))); replace HB := Aside0.mk (bs HB.out hb); (try clear hb); obtain ⟨hcz12_0, hcz12_1, hcz12_2, hfz12_0, hfz12_1, hfz12_2⟩ := c3 BK399.out))
   go_ret
   exact ⟨fe, bz HB.out⟩
  ·rw [if_neg c6] at H
   have c6b0 := beq_eq_false_iff_ne.mpr c6
   have c6b1 := bne_iff_ne.mpr c6
   obtain ⟨t404, A13, H⟩ := bs1 H
   obtain ⟨c14, H⟩ := iN H
   have c14b0 := eq_true c14
   have c14b1 : decide (1 + t404.size ≤ 9223372036854775807) = true := decide_eq_true c14
   try have c14b2 : (9223372036854775807 < 1 + t404.size) = False := eq_false (Nat.not_lt.2 c14)
   obtain ⟨c15, H⟩ := iN H
   have c15b0 := eq_true c15
   have c15b1 : decide (((⟨#[45]⟩ : ByteArray) ++ t403).size + ((⟨#[47]⟩ : ByteArray) ++ t404).size ≤ 9223372036854775807) = true := decide_eq_true c15
   try have c15b2 : (9223372036854775807 < ((⟨#[45]⟩ : ByteArray) ++ t403).size + ((⟨#[47]⟩ : ByteArray) ++ t404).size) = False := eq_false (Nat.not_lt.2 c15)
   obtain rfl := Option.some.inj H
   go_enter Tryd.func23, Tryd.ntmps23
   go_wp2_with (first | ((with_reducible refine gd 1 rfl ?_); refine bx 1 (#[.bool a0_0, .string a0_1, .string a0_2]) 23 ?_; intro gb399 hg w16 hbox hb; have BK399 := Aside0.mk (hbox); have GW399 := sg hg HB.out; have GE399 := sg hg HB.out; replace HB := Aside0.mk (bs HB.out hb); clear hb hbox hg; obtain ⟨hcz17_0, hcz17_1, hcz17_2, hfz17_0, hfz17_1, hfz17_2⟩ := c3 BK399.out) | ((with_reducible refine gc 34 rfl ?_); refine gl (some 5) Tryd.func34 #[.agg #[.bool a0_0, .string a0_1, .string a0_2]] ?_; (with_reducible refine (rational_clean.calls k a0_0 a0_1 a0_2 true t401 t402 _ A2.out).mono ?_); rintro e w18 ⟨rfl, hb⟩; refine ⟨_, rfl, ?_⟩; replace BK399 := Aside0.mk (bk0 BK399.out hb); replace HB := Aside0.mk (bs HB.out hb); (try clear hb); obtain ⟨hcz19_0, hcz19_1, hcz19_2, hfz19_0, hfz19_1, hfz19_2⟩ := c3 BK399.out) | ((with_reducible refine gc 50 rfl ?_); refine gl (some 8) Tryd.func50 #[.string t401] ?_; (with_reducible refine (natural_Format.calls k t401 t403 _ A3.out).mono ?_); rintro e w20 ⟨rfl, hb⟩; refine ⟨_, rfl, ?_⟩; replace BK399 := Aside0.mk (bk BK399.out hb (.cells #[.bool true, .string t401, .string t402] 23 (0, 0))); replace HB := Aside0.mk (bs HB.out hb); (try clear hb); obtain ⟨hcz21_0, hcz21_1, hcz21_2, hfz21_0, hfz21_1, hfz21_2⟩ := c3 BK399.out) | ((with_reducible refine gc 50 rfl ?_); refine gl (some 19) Tryd.func50 #[.string t402] ?_; (with_reducible refine (natural_Format.calls k t402 t404 _ A13.out).mono ?_); rintro e w22 ⟨rfl, hb⟩; refine ⟨_, rfl, ?_⟩; replace BK399 := Aside0.mk (bk0 BK399.out hb); replace HB := Aside0.mk (bs HB.out hb); (try clear hb)))
   go_ret
   exact ⟨fe, bz HB.out⟩
 ·replace c4 := Bool.eq_false_iff.mpr c4
  subst c4
  have H1 : (if t402.toList = ([] : List UInt8) then (some t403) else ((natural_Format.f k t402).bind fun t405 => (if 1 + t405.size ≤ 9223372036854775807 then (if t403.size + ((⟨#[47]⟩ : ByteArray) ++ t405).size ≤ 9223372036854775807 then (some (t403 ++ ((⟨#[47]⟩ : ByteArray) ++ t405))) else (none)) else (none)))) = some r := by rw [if_neg (show ¬ (false = true) by decide)] at H; exact H
  clear H
  have H := H1
  clear H1
  by_cases c23 : t402.toList = ([] : List UInt8)
  ·rw [if_pos c23] at H
   have c23b0 := beq_iff_eq.mpr c23
   have c23b1 := bne_eq_false_iff_eq.mpr c23
   clear c23
   obtain rfl := Option.some.inj H
   go_enter Tryd.func23, Tryd.ntmps23
   go_wp2_with (first | ((with_reducible refine gd 1 rfl ?_); refine bx 1 (#[.bool a0_0, .string a0_1, .string a0_2]) 23 ?_; intro gb399 hg w24 hbox hb; have BK399 := Aside0.mk (hbox); have GW399 := sg hg HB.out; have GE399 := sg hg HB.out; replace HB := Aside0.mk (bs HB.out hb); clear hb hbox hg; obtain ⟨hcz25_0, hcz25_1, hcz25_2, hfz25_0, hfz25_1, hfz25_2⟩ := c3 BK399.out) | ((with_reducible refine gc 34 rfl ?_); refine gl (some 5) Tryd.func34 #[.agg #[.bool a0_0, .string a0_1, .string a0_2]] ?_; (with_reducible refine (rational_clean.calls k a0_0 a0_1 a0_2 false t401 t402 _ A2.out).mono ?_); rintro e w26 ⟨rfl, hb⟩; refine ⟨_, rfl, ?_⟩; replace BK399 := Aside0.mk (bk0 BK399.out hb); replace HB := Aside0.mk (bs HB.out hb); (try clear hb); obtain ⟨hcz27_0, hcz27_1, hcz27_2, hfz27_0, hfz27_1, hfz27_2⟩ := c3 BK399.out) | ((with_reducible refine gc 50 rfl ?_); refine gl (some 8) Tryd.func50 #[.string t401] ?_; (with_reducible refine (natural_Format.calls k t401 t403 _ A3.out).mono ?_); rintro e w28 ⟨rfl, hb⟩; refine ⟨_, rfl, ?_⟩; replace BK399 := Aside0.mk (bk BK399.out hb (.cells #[.bool false, .string t401, .string t402] 23 (0, 0))); replace HB := Aside0.mk (bs HB.out hb); (try clear hb); obtain ⟨hcz29_0, hcz29_1, hcz29_2, hfz29_0, hfz29_1, hfz29_2⟩ := c3 BK399.out))
   go_ret
   exact ⟨fe, bz HB.out⟩
  ·rw [if_neg c23] at H
   have c23b0 := beq_eq_false_iff_ne.mpr c23
   have c23b1 := bne_iff_ne.mpr c23
   obtain ⟨t405, A30, H⟩ := bs1 H
   obtain ⟨c31, H⟩ := iN H
   have c31b0 := eq_true c31
   have c31b1 : decide (1 + t405.size ≤ 9223372036854775807) = true := decide_eq_true c31
   try have c31b2 : (9223372036854775807 < 1 + t405.size) = False := eq_false (Nat.not_lt.2 c31)
   obtain ⟨c32, H⟩ := iN H
   have c32b0 := eq_true c32
   have c32b1 : decide (t403.size + ((⟨#[47]⟩ : ByteArray) ++ t405).size ≤ 9223372036854775807) = true := decide_eq_true c32
   try have c32b2 : (9223372036854775807 < t403.size + ((⟨#[47]⟩ : ByteArray) ++ t405).size) = False := eq_false (Nat.not_lt.2 c32)
   obtain rfl := Option.some.inj H
   go_enter Tryd.func23, Tryd.ntmps23
   go_wp2_with (first | ((with_reducible refine gd 1 rfl ?_); refine bx 1 (#[.bool a0_0, .string a0_1, .string a0_2]) 23 ?_; intro gb399 hg w33 hbox hb; have BK399 := Aside0.mk (hbox); have GW399 := sg hg HB.out; have GE399 := sg hg HB.out; replace HB := Aside0.mk (bs HB.out hb); clear hb hbox hg; obtain ⟨hcz34_0, hcz34_1, hcz34_2, hfz34_0, hfz34_1, hfz34_2⟩ := c3 BK399.out) | ((with_reducible refine gc 34 rfl ?_); refine gl (some 5) Tryd.func34 #[.agg #[.bool a0_0, .string a0_1, .string a0_2]] ?_; (with_reducible refine (rational_clean.calls k a0_0 a0_1 a0_2 false t401 t402 _ A2.out).mono ?_); rintro e w35 ⟨rfl, hb⟩; refine ⟨_, rfl, ?_⟩; replace BK399 := Aside0.mk (bk0 BK399.out hb); replace HB := Aside0.mk (bs HB.out hb); (try clear hb); obtain ⟨hcz36_0, hcz36_1, hcz36_2, hfz36_0, hfz36_1, hfz36_2⟩ := c3 BK399.out) | ((with_reducible refine gc 50 rfl ?_); refine gl (some 8) Tryd.func50 #[.string t401] ?_; (with_reducible refine (natural_Format.calls k t401 t403 _ A3.out).mono ?_); rintro e w37 ⟨rfl, hb⟩; refine ⟨_, rfl, ?_⟩; replace BK399 := Aside0.mk (bk BK399.out hb (.cells #[.bool false, .string t401, .string t402] 23 (0, 0))); replace HB := Aside0.mk (bs HB.out hb); (try clear hb); obtain ⟨hcz38_0, hcz38_1, hcz38_2, hfz38_0, hfz38_1, hfz38_2⟩ := c3 BK399.out) | ((with_reducible refine gc 50 rfl ?_); refine gl (some 19) Tryd.func50 #[.string t402] ?_; (with_reducible refine (natural_Format.calls k t402 t405 _ A30.out).mono ?_); rintro e w39 ⟨rfl, hb⟩; refine ⟨_, rfl, ?_⟩; replace BK399 := Aside0.mk (bk0 BK399.out hb); replace HB := Aside0.mk (bs HB.out hb); (try clear hb)))
   go_ret
   exact ⟨fe, bz HB.out⟩

/-! ### rational_den: function 41 -/
def rational_den.f (a0_0 : Bool) (a0_1 : ByteArray) (a0_2 : ByteArray) : Option (ByteArray) := if a0_2.toList = ([] : List UInt8) then (some (⟨#[1]⟩ : ByteArray)) else (some a0_2)
set_option maxHeartbeats 8000000 in
set_option maxRecDepth 100000 in
theorem rational_den.calls (a0_0 : Bool) (a0_1 : ByteArray) (a0_2 : ByteArray) (r : ByteArray) (w : World) (h : rational_den.f a0_0 a0_1 a0_2 = some r) :
  Calls Tryd.prog 41 #[.agg #[.bool a0_0, .string a0_1, .string a0_2]] w fun e w' => e = .returned (.string r) ∧ Below w.heap.size w w' := by
 have hu23 := Tryd.underlying23
 have HB := Aside0.mk (Below.refl w.heap.size w)
 have H := h
 clear h
 unfold rational_den.f at H
 by_cases c2 : a0_2.toList = ([] : List UInt8)
 ·rw [if_pos c2] at H
  have c2b0 := beq_iff_eq.mpr c2
  have c2b1 := bne_eq_false_iff_eq.mpr c2
  clear c2
  obtain rfl := Option.some.inj H
  go_enter Tryd.func41, Tryd.ntmps41
  go_wp2_with (first | ((with_reducible refine gd 1 rfl ?_); refine bx 1 (#[.bool a0_0, .string a0_1, .string a0_2]) 23 ?_; intro gb406 hg w3 hbox hb; have BK406 := Aside0.mk (hbox); have GW406 := sg hg HB.out; have GE406 := sg hg HB.out; replace HB := Aside0.mk (bs HB.out hb); clear hb hbox hg; obtain ⟨hcz4_0, hcz4_1, hcz4_2, hfz4_0, hfz4_1, hfz4_2⟩ := c3 BK406.out))
  go_ret
  exact ⟨fe, bz HB.out⟩
 ·rw [if_neg c2] at H
  have c2b0 := beq_eq_false_iff_ne.mpr c2
  have c2b1 := bne_iff_ne.mpr c2
  obtain rfl := Option.some.inj H
  go_enter Tryd.func41, Tryd.ntmps41
  go_wp2_with (first | ((with_reducible refine gd 1 rfl ?_); refine bx 1 (#[.bool a0_0, .string a0_1, .string a0_2]) 23 ?_; intro gb406 hg w5 hbox hb; have BK406 := Aside0.mk (hbox); have GW406 := sg hg HB.out; have GE406 := sg hg HB.out; replace HB := Aside0.mk (bs HB.out hb); clear hb hbox hg; obtain ⟨hcz6_0, hcz6_1, hcz6_2, hfz6_0, hfz6_1, hfz6_2⟩ := c3 BK406.out))
  go_ret
  exact ⟨fe, bz HB.out⟩
end Go.Proofs.YtgepdnoaemeofaaDoor.M
