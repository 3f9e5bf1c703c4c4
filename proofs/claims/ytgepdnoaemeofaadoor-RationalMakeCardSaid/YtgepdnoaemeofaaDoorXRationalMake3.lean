/- Printed by a program of this session (wip/tools) out of the translation: plain functions and the proofs that the code comes to their answers. -/
import Derived.Test.YtgepdnoaemeofaaDoorXRationalMake2
namespace Go.Proofs.YtgepdnoaemeofaaDoor.M
open Go.RowKit Go.Proofs.YtgepdnoaemeofaaDoorW.PrintWords Go.Proofs.YtgepdnoaemeofaaDoorW.PrintLast Go.Proofs.YtgepdnoaemeofaaDoorW.PrintMore Go.Proofs.YtgepdnoaemeofaaDoorW.PK
attribute [local go_sem] max2_int min2_int max_two min_two max_three min_three max_four min_four   -- for this text's walks alone
set_option linter.unusedVariables false
set_option linter.unusedSimpArgs false

/-! ### rational_isDigits: function 46 -/
def rational_isDigits.l0 : Nat → ByteArray → Int → Int → Option (Bool)
 | 0, _, _, _ => none
 | k + 1, x0, x5, x6 => if x6 < x5 then (if 0 ≤ x6 then (if x6 < (x0.size : Int) then (if (bt x0 x6) < 48 then (some false) else (if (bt x0 x6) > 57 then (some false) else (rational_isDigits.l0 k x0 x5 (wrap64 (x6 + 1))))) else (none)) else (none)) else (some (x0.toList != ([] : List UInt8)))
def rational_isDigits.f (k : Nat) (a0 : ByteArray) : Option (Bool) := rational_isDigits.l0 k a0 (a0.size : Int) 0
theorem rational_isDigits.mono_l : ∀ k, (∀ y0 y1 y2, LeO (rational_isDigits.l0 k y0 y1 y2) (rational_isDigits.l0 (k + 1) y0 y1 y2))
 | 0 => fun _ _ _ r h => by simp [rational_isDigits.l0] at h
 | k + 1 => by
  have ih0 := rational_isDigits.mono_l k
  ·intro y0 y1 y2
   unfold rational_isDigits.l0
   repeat' with_reducible first | exact ih0 _ _ _ | exact LeO.refl _ | exact LeO.none _ | refine LeO.ite ?_ ?_ | refine LeO.bind ?_ (fun _ => ?_)
theorem rational_isDigits.mono : ∀ a0 k, LeO (rational_isDigits.f k a0) (rational_isDigits.f (k + 1) a0) := by
 intro a0 k
 have ih0 := rational_isDigits.mono_l k
 unfold rational_isDigits.f
 repeat' with_reducible first | exact ih0 _ _ _ | exact LeO.refl _ | exact LeO.none _ | refine LeO.ite ?_ ?_ | refine LeO.bind ?_ (fun _ => ?_)
set_option maxHeartbeats 8000000 in
set_option maxRecDepth 100000 in
theorem rational_isDigits.calls (k : Nat) (a0 : ByteArray) (r : Bool) (w : World) (h : rational_isDigits.f k a0 = some r) :
  Calls Tryd.prog 46 #[.string a0] w fun e w' => e = .returned (.bool r) ∧ Drawn0 w w' := by
 have H := h
 clear h
 unfold rational_isDigits.f at H
 have H' := Aside0.mk H
 clear H
 go_enter Tryd.func46, Tryd.ntmps46
 go_wp2
 go_loopg [6] k (fun kq v6 w' => ∃ (x6_1 : Int), v6 = .int .i64 x6_1 ∧ Aside0 (rational_isDigits.l0 kq a0 (a0.size : Int) x6_1 = some r) ∧ Aside0 (kq ≤ k) ∧ Drawn0 w w')
 case atStart => exact ⟨(0), fs, H', ⟨Nat.le_refl _⟩, dz⟩
 case round =>
  clear H'
  obtain ⟨x6_1, rfl, HA, HK1, ⟨m1, rfl⟩⟩ := hrel
  cases gk with
  | zero => exact absurd HA.out (by simp [rational_isDigits.l0])
  | succ k1 =>
   have H := HA.out
   clear HA
   simp only [rational_isDigits.l0] at H
   by_cases c2 : x6_1 < (a0.size : Int)
   ·rw [if_pos c2] at H
    have c2b0 : decide (x6_1 < (a0.size : Int)) = true := decide_eq_true c2
    clear c2
    obtain ⟨c3, H⟩ := iN H
    have c3b0 : decide (0 ≤ x6_1) = true := decide_eq_true c3
    clear c3
    obtain ⟨c4, H⟩ := iN H
    have c4b0 : decide (x6_1 < (a0.size : Int)) = true := decide_eq_true c4
    clear c4
    by_cases c6 : (bt a0 x6_1) < 48
    ·rw [if_pos c6] at H
     have c6b0 : decide ((bt a0 x6_1) < 48) = true := decide_eq_true c6
     clear c6
     obtain rfl := Option.some.inj H
     have p5 : 0 ≤ (x6_1 : Int) := oa
     have q5 : x6_1 < (a0.size : Int) := oa
     have hx5 := bt_at a0 x6_1
     replace p5 := eq_true p5
     replace q5 := eq_true q5
     go_wp2
     go_ret
     exact ⟨fs, dz⟩
    ·rw [if_neg c6] at H
     have c6b0 : decide ((bt a0 x6_1) < 48) = false := decide_eq_false c6
     clear c6
     by_cases c8 : (bt a0 x6_1) > 57
     ·rw [if_pos c8] at H
      have c8b0 : decide (57 < (bt a0 x6_1)) = true := decide_eq_true c8
      clear c8
      obtain rfl := Option.some.inj H
      have p5 : 0 ≤ (x6_1 : Int) := oa
      have q5 : x6_1 < (a0.size : Int) := oa
      have hx5 := bt_at a0 x6_1
      replace p5 := eq_true p5
      replace q5 := eq_true q5
      have p7 : 0 ≤ (x6_1 : Int) := oa
      have q7 : x6_1 < (a0.size : Int) := oa
      have hx7 := bt_at a0 x6_1
      replace p7 := eq_true p7
      replace q7 := eq_true q7
      go_wp2
      go_ret
      exact ⟨fs, dz⟩
     ·rw [if_neg c8] at H
      have c8b0 : decide (57 < (bt a0 x6_1)) = false := decide_eq_false c8
      clear c8
      have H' := Aside0.mk H
      clear H
      have p5 : 0 ≤ (x6_1 : Int) := oa
      have q5 : x6_1 < (a0.size : Int) := oa
      have hx5 := bt_at a0 x6_1
      replace p5 := eq_true p5
      replace q5 := eq_true q5
      have p7 : 0 ≤ (x6_1 : Int) := oa
      have q7 : x6_1 < (a0.size : Int) := oa
      have hx7 := bt_at a0 x6_1
      replace p7 := eq_true p7
      replace q7 := eq_true q7
      go_wp2
      go_roundg k1
      case measure => have := HK1.out; omega
      case rel => exact ⟨(wrap64 (x6_1 + 1)), fs, H', ⟨by have := HK1.out; omega⟩, dz⟩
   ·rw [if_neg c2] at H
    have c2b0 : decide (x6_1 < (a0.size : Int)) = false := decide_eq_false c2
    clear c2
    obtain rfl := Option.some.inj H
    go_wp2
    go_ret
    exact ⟨fs, dz⟩

/-! ### rational_isInteger: function 45 -/
def rational_isInteger.f (k : Nat) (a0 : ByteArray) : Option (Bool) := (rational_isDigits.f k a0).bind fun t301 => (if t301 = true then (if a0.toList = ([48] : List UInt8) then (some true) else (if 0 < (a0.size : Int) then (some ((bt a0 0) != 48)) else (none))) else (some false))
theorem rational_isInteger.mono : ∀ a0 k, LeO (rational_isInteger.f k a0) (rational_isInteger.f (k + 1) a0) := by
 intro a0 k
 unfold rational_isInteger.f
 repeat' with_reducible first | exact rational_isDigits.mono _ _ | exact LeO.refl _ | exact LeO.none _ | refine LeO.ite ?_ ?_ | refine LeO.bind ?_ (fun _ => ?_)
set_option maxHeartbeats 8000000 in
set_option maxRecDepth 100000 in
theorem rational_isInteger.calls (k : Nat) (a0 : ByteArray) (r : Bool) (w : World) (h : rational_isInteger.f k a0 = some r) :
  Calls Tryd.prog 45 #[.string a0] w fun e w' => e = .returned (.bool r) ∧ Drawn0 w w' := by
 have H := h
 clear h
 unfold rational_isInteger.f at H
 obtain ⟨t301, A2, H⟩ := bs1 H
 by_cases c3 : t301 = true
 ·subst c3
  have H1 : (if a0.toList = ([48] : List UInt8) then (some true) else (if 0 < (a0.size : Int) then (some ((bt a0 0) != 48)) else (none))) = some r := by rw [if_pos rfl] at H; exact H
  clear H
  have H := H1
  clear H1
  by_cases c4 : a0.toList = ([48] : List UInt8)
  ·rw [if_pos c4] at H
   have c4b0 := beq_iff_eq.mpr c4
   have c4b1 := bne_eq_false_iff_eq.mpr c4
   clear c4
   obtain rfl := Option.some.inj H
   go_enter Tryd.func45, Tryd.ntmps45
   go_wp2_with (first | ((with_reducible refine gc 46 rfl ?_); refine gl (some 4) Tryd.func46 #[.string a0] ?_; (with_reducible refine (rational_isDigits.calls k a0 true _ A2.out).mono ?_); rintro e w' ⟨rfl, ⟨nd, rfl⟩⟩; refine ⟨_, rfl, ?_⟩))
   go_ret
   exact ⟨fs, dz⟩
  ·rw [if_neg c4] at H
   have c4b0 := beq_eq_false_iff_ne.mpr c4
   have c4b1 := bne_iff_ne.mpr c4
   obtain ⟨c5, H⟩ := iN H
   have c5b0 : decide (0 < (a0.size : Int)) = true := decide_eq_true c5
   have c5b1 : decide (0 < a0.size) = true := decide_eq_true (by omega)
   clear c5
   obtain rfl := Option.some.inj H
   go_enter Tryd.func45, Tryd.ntmps45
   go_wp2_with (first | ((with_reducible refine gc 46 rfl ?_); refine gl (some 4) Tryd.func46 #[.string a0] ?_; (with_reducible refine (rational_isDigits.calls k a0 true _ A2.out).mono ?_); rintro e w' ⟨rfl, ⟨nd, rfl⟩⟩; refine ⟨_, rfl, ?_⟩; have p6 : 0 ≤ (0 : Int) := (by omega); have q6 : 0 < a0.size := (by have : (0 : Int) < (a0.size : Int) := oa; omega); have hx6 : ∀ h : 0 < a0.size, ((a0[0]'h).toNat : Int) = bt a0 0 := bt_at a0 0; clear p6; have qi6 : (0 < (a0.size : Int)) = True := eq_true oa; replace q6 := eq_true q6))
   go_ret
   exact ⟨fs, dz⟩
 ·replace c3 := Bool.eq_false_iff.mpr c3
  subst c3
  have H1 : (some false) = some r := by rw [if_neg (show ¬ (false = true) by decide)] at H; exact H
  clear H
  have H := H1
  clear H1
  obtain rfl := Option.some.inj H
  go_enter Tryd.func45, Tryd.ntmps45
  go_wp2_with (first | ((with_reducible refine gc 46 rfl ?_); refine gl (some 4) Tryd.func46 #[.string a0] ?_; (with_reducible refine (rational_isDigits.calls k a0 false _ A2.out).mono ?_); rintro e w' ⟨rfl, ⟨nd, rfl⟩⟩; refine ⟨_, rfl, ?_⟩))
  go_ret
  exact ⟨fs, dz⟩

/-! ### rational_tenTo: function 47 -/
def rational_tenTo.l0 : Nat → ByteArray → ByteArray → Int → Int → Option (ByteArray)
 | 0, _, _, _, _ => none
 | k + 1, x3, x4, x7, x8 => if x8 < x7 then ((natural_Multiply.f k x3 x4).bind fun t304 => (rational_tenTo.l0 k t304 x4 x7 (wrap64 (x8 + 1)))) else (some x3)
def rational_tenTo.f (k : Nat) (a0 : Int) : Option (ByteArray) := (natural_FromUint.f k 1).bind fun t302 => ((natural_FromUint.f k 10).bind fun t303 => (rational_tenTo.l0 k t302 t303 a0 0))
theorem rational_tenTo.mono_l : ∀ k, (∀ y0 y1 y2 y3, LeO (rational_tenTo.l0 k y0 y1 y2 y3) (rational_tenTo.l0 (k + 1) y0 y1 y2 y3))
 | 0 => fun _ _ _ _ r h => by simp [rational_tenTo.l0] at h
 | k + 1 => by
  have ih0 := rational_tenTo.mono_l k
  ·intro y0 y1 y2 y3
   unfold rational_tenTo.l0
   repeat' with_reducible first | exact ih0 _ _ _ _ | exact natural_FromUint.mono _ _ | exact natural_Multiply.mono _ _ _ | exact LeO.refl _ | exact LeO.none _ | refine LeO.ite ?_ ?_ | refine LeO.bind ?_ (fun _ => ?_)
theorem rational_tenTo.mono : ∀ a0 k, LeO (rational_tenTo.f k a0) (rational_tenTo.f (k + 1) a0) := by
 intro a0 k
 have ih0 := rational_tenTo.mono_l k
 unfold rational_tenTo.f
 repeat' with_reducible first | exact ih0 _ _ _ _ | exact natural_FromUint.mono _ _ | exact natural_Multiply.mono _ _ _ | exact LeO.refl _ | exact LeO.none _ | refine LeO.ite ?_ ?_ | refine LeO.bind ?_ (fun _ => ?_)
set_option maxHeartbeats 8000000 in
set_option maxRecDepth 100000 in
theorem rational_tenTo.calls (k : Nat) (a0 : Int) (r : ByteArray) (w : World) (h : rational_tenTo.f k a0 = some r) :
  Calls Tryd.prog 47 #[.int .i64 a0] w fun e w' => e = .returned (.string r) ∧ Below w.heap.size w w' := by
 have HB := Aside0.mk (Below.refl w.heap.size w)
 have H := h
 clear h
 unfold rational_tenTo.f at H
 obtain ⟨t302, A2, H⟩ := bs1 H
 obtain ⟨t303, A3, H⟩ := bs1 H
 have H' := Aside0.mk H
 clear H
 go_enter Tryd.func47, Tryd.ntmps47
 go_wp2_with (first | ((with_reducible refine gc 60 rfl ?_); refine gl (some 5) Tryd.func60 #[.int .u64 1] ?_; (with_reducible refine (natural_FromUint.calls k 1 t302 _ A2.out).mono ?_); rintro e w4 ⟨rfl, hb⟩; refine ⟨_, rfl, ?_⟩; replace HB := Aside0.mk (bs HB.out hb); (try clear hb)) | ((with_reducible refine gc 60 rfl ?_); refine gl (some 6) Tryd.func60 #[.int .u64 10] ?_; (with_reducible refine (natural_FromUint.calls k 10 t303 _ A3.out).mono ?_); rintro e w5 ⟨rfl, hb⟩; refine ⟨_, rfl, ?_⟩; replace HB := Aside0.mk (bs HB.out hb); (try clear hb)))
 go_loopg [3, 8] k (fun kq v3 v8 w' => ∃ (x3_1 : ByteArray) (x8_1 : Int), v3 = .string x3_1 ∧ v8 = .int .i64 x8_1 ∧ Aside0 (rational_tenTo.l0 kq x3_1 t303 a0 x8_1 = some r) ∧ Aside0 (kq ≤ k) ∧ Aside0 (Below w.heap.size w w'))
 case atStart => exact ⟨(t302), (0), fs, fs, H', ⟨Nat.le_refl _⟩, ⟨bz HB.out⟩⟩
 case round =>
  clear H'
  obtain ⟨x3_1, x8_1, rfl, rfl, HA, HK1, HB⟩ := hrel
  cases gk with
  | zero => exact absurd HA.out (by simp [rational_tenTo.l0])
  | succ k1 =>
   have H := HA.out
   clear HA
   simp only [rational_tenTo.l0] at H
   by_cases c6 : x8_1 < a0
   ·rw [if_pos c6] at H
    have c6b0 : decide (x8_1 < a0) = true := decide_eq_true c6
    clear c6
    obtain ⟨t304, A7, H⟩ := bs1 H
    have H' := Aside0.mk H
    clear H
    go_wp2_with (first | ((with_reducible refine gc 40 rfl ?_); refine gl (some 12) Tryd.func40 #[.string x3_1, .string t303] ?_; (with_reducible refine (natural_Multiply.calls k1 x3_1 t303 t304 _ A7.out).mono ?_); rintro e w8 ⟨rfl, hb⟩; refine ⟨_, rfl, ?_⟩; replace HB := Aside0.mk (bs HB.out hb); (try clear hb)))
    go_roundg k1
    case measure => have := HK1.out; omega
    case rel => exact ⟨(t304), (wrap64 (x8_1 + 1)), fs, fs, H', ⟨by have := HK1.out; omega⟩, ⟨bz HB.out⟩⟩
   ·rw [if_neg c6] at H
    have c6b0 : decide (x8_1 < a0) = false := decide_eq_false c6
    clear c6
    obtain rfl := Option.some.inj H
    go_wp2
    go_ret
    exact ⟨fe, bz HB.out⟩

/-! ### natural_Add: function 48 -/
def natural_Add.l0 : Nat → List Int → List Int → List Int → Int → Int → Int → Option (ByteArray)
 | 0, _, _, _, _, _, _ => none
 | k + 1, x5, x6, x7, x8, x27, x28 => if x28 < x27 then (if x28 < (x6.length : Int) then (if 0 ≤ x28 then (if x28 < (x5.length : Int) then ((bits_Add32.f (rd x5 x28) (rd x6 x28) x8).bind fun bt316 => (if x28 < (x7.length : Int) then (natural_Add.l0 k x5 x6 (x7.set (x28 : Int).toNat bt316.1) bt316.2 x27 (wrap64 (x28 + 1))) else (none))) else (none)) else (none)) else (if 0 ≤ x28 then (if x28 < (x5.length : Int) then ((bits_Add32.f (rd x5 x28) 0 x8).bind fun bt320 => (if x28 < (x7.length : Int) then (natural_Add.l0 k x5 x6 (x7.set (x28 : Int).toNat bt320.1) bt320.2 x27 (wrap64 (x28 + 1))) else (none))) else (none)) else (none))) else (if 0 ≤ (x5.length : Int) then (if (x5.length : Int) < (x7.length : Int) then ((natural_limbs_text.f k (x7.set ((x5.length : Int) : Int).toNat x8)).bind fun t324 => (some t324)) else (none)) else (none))
def natural_Add.f (k : Nat) (a0 : ByteArray) (a1 : ByteArray) : Option (ByteArray) := (natural_parse.f k a0).bind fun t305 => ((natural_parse.f k a1).bind fun t308 => (if (t305.length : Int) < (t308.length : Int) then (if 0 ≤ (wrap64 ((t308.length : Int) + 1)) then (if (wrap64 ((t308.length : Int) + 1) : Int).toNat ≤ 70368744177664 then (natural_Add.l0 k t308 t305 (List.replicate (wrap64 ((t308.length : Int) + 1) : Int).toNat 0) 0 (t308.length : Int) 0) else (none)) else (none)) else (if 0 ≤ (wrap64 ((t305.length : Int) + 1)) then (if (wrap64 ((t305.length : Int) + 1) : Int).toNat ≤ 70368744177664 then (natural_Add.l0 k t305 t308 (List.replicate (wrap64 ((t305.length : Int) + 1) : Int).toNat 0) 0 (t305.length : Int) 0) else (none)) else (none))))
theorem natural_Add.mono_l : ∀ k, (∀ y0 y1 y2 y3 y4 y5, LeO (natural_Add.l0 k y0 y1 y2 y3 y4 y5) (natural_Add.l0 (k + 1) y0 y1 y2 y3 y4 y5))
 | 0 => fun _ _ _ _ _ _ r h => by simp [natural_Add.l0] at h
 | k + 1 => by
  have ih0 := natural_Add.mono_l k
  ·intro y0 y1 y2 y3 y4 y5
   unfold natural_Add.l0
   repeat' with_reducible first | exact ih0 _ _ _ _ _ _ | exact natural_limbs_text.mono _ _ | exact natural_parse.mono _ _ | exact LeO.refl _ | exact LeO.none _ | refine LeO.ite ?_ ?_ | refine LeO.bind ?_ (fun _ => ?_)
theorem natural_Add.mono : ∀ a0 a1 k, LeO (natural_Add.f k a0 a1) (natural_Add.f (k + 1) a0 a1) := by
 intro a0 a1 k
 have ih0 := natural_Add.mono_l k
 unfold natural_Add.f
 repeat' with_reducible first | exact ih0 _ _ _ _ _ _ | exact natural_limbs_text.mono _ _ | exact natural_parse.mono _ _ | exact LeO.refl _ | exact LeO.none _ | refine LeO.ite ?_ ?_ | refine LeO.bind ?_ (fun _ => ?_)
set_option maxHeartbeats 8000000 in
set_option maxRecDepth 100000 in
theorem natural_Add.calls (k : Nat) (a0 : ByteArray) (a1 : ByteArray) (r : ByteArray) (w : World) (h : natural_Add.f k a0 a1 = some r) :
  Calls Tryd.prog 48 #[.string a0, .string a1] w fun e w' => e = .returned (.string r) ∧ Below w.heap.size w w' := by
 have HB := Aside0.mk (Below.refl w.heap.size w)
 have H := h
 clear h
 unfold natural_Add.f at H
 obtain ⟨t305, A3, H⟩ := bs1 H
 obtain ⟨t308, A4, H⟩ := bs1 H
 by_cases c5 : (t305.length : Int) < (t308.length : Int)
 ·rw [if_pos c5] at H
  have c5b0 : decide ((t305.length : Int) < (t308.length : Int)) = true := decide_eq_true c5
  have c5b1 : decide (t305.length < t308.length) = true := decide_eq_true (Int.ofNat_lt.mp c5)
  clear c5
  obtain ⟨ji6, hji6⟩ : ∃ j_ : Int, (wrap64 ((t308.length : Int) + 1)) = j_ := ⟨_, rfl⟩
  first | rw [hji6] at H | simp only [hji6] at H
  (try rw [hji6] at A3)
  (try rw [hji6] at A4)
  have hji6w : (IntKind.i64.wrap ((t308.length : Int) + 1)) = ji6 := (i64_w _).trans hji6
  obtain ⟨c7, H⟩ := iN H
  have c7b0 := eq_true c7
  have c7b1 : decide (0 ≤ (ji6)) = true := decide_eq_true c7
  clear c7
  obtain ⟨c8, H⟩ := iN H
  have c8b0 := eq_true c8
  have c8b1 : decide ((ji6 : Int).toNat ≤ 70368744177664) = true := decide_eq_true c8
  clear c8
  obtain ⟨y311, hy311⟩ : ∃ y_ : List Int, y_ = (List.replicate (ji6 : Int).toNat 0) := ⟨_, rfl⟩
  (try first | rw [← hy311] at H | (dsimp only at H; rw [← hy311] at H)); (try rw [Option.bind_some] at H)
  have Ny311 := Aside0.mk hy311
  clear hy311
  have H' := Aside0.mk H
  clear H
  go_enter Tryd.func48, Tryd.ntmps48
  go_wp2_with (first | ((with_reducible refine gc 54 rfl ?_); refine gl (some 12) Tryd.func54 #[.string a0] ?_; (with_reducible refine (natural_parse.calls k a0 t305 _ A3.out).mono ?_); rintro e w9 ⟨v306, rfl, ho0, hb⟩; refine ⟨_, rfl, ?_⟩; have HO307 := Aside0.mk (Kd.V_lower (Kd.V_mono (ok' := fun k_ => True) ho0 (fun k_ hk_ => trivial)) (sz HB.out)); replace HB := Aside0.mk (bs HB.out hb); (try clear hb ho0)) | ((with_reducible refine gc 54 rfl ?_); refine gl (some 14) Tryd.func54 #[.string a1] ?_; (with_reducible refine (natural_parse.calls k a1 t308 _ A4.out).mono ?_); rintro e w10 ⟨v309, rfl, ho0, hb⟩; refine ⟨_, rfl, ?_⟩; replace HO307 := Aside0.mk (vb HO307.out hb); have HO310 := Aside0.mk (Kd.V_lower (Kd.V_mono (ok' := fun k_ => True) ho0 (fun k_ hk_ => trivial)) (sz HB.out)); replace HB := Aside0.mk (bs HB.out hb); (try clear hb ho0); obtain ⟨Ao11, co11, rfl⟩ := Kd.V_slice HO307.out; obtain ⟨Ao12, co12, rfl⟩ := Kd.V_slice HO310.out) | ((with_reducible refine gd 25 rfl ?_); refine Kd.R_make (Kd.int .u32) _ 72 rfl (N := 25) rfl 65 _ _ rfl ji6 rfl rfl Tryd.underlying65 (.int .u32 0) 4 info72 rfl (by decide) (by omega) 0 (ok := fun _ => True) (okp := fun _ => True) rfl (fun _ hk => hk) trivial oa (Nat.le_trans (Nat.mul_le_mul_right _ (oa : ji6.toNat ≤ 70368744177664)) (by omega)) (Below.refl _ _) (Nat.le_refl _) ?_; intro v312 w13 ho14 hb hg_ hnew_; clear hg_ hnew_; (first | rw [← Ny311.out] at ho14 | (simp only [Int.reduceToNat] at ho14; rw [← Ny311.out] at ho14)); replace HO307 := Aside0.mk (Kd.V_elder' (vs HO307.out) (Kd.R_base ho14) hb); replace HO310 := Aside0.mk (Kd.V_elder' (vs HO310.out) (Kd.R_base ho14) hb); have HO313 := Aside0.mk (Kd.R_lower ho14 (sz HB.out)); replace HB := Aside0.mk (bs HB.out hb); clear hb ho14))
  go_loopg [8, 28] k (fun kq v8 v28 w' => ∃ (x7_1 : List Int) (x8_1 : Int) (x28_1 : Int), v8 = .int .u32 x8_1 ∧ v28 = .int .i64 x28_1 ∧ Aside0 (natural_Add.l0 kq t308 t305 x7_1 x8_1 (t308.length : Int) x28_1 = some r) ∧ Aside0 (kq ≤ k) ∧ Aside0 (Kd.V (Kd.int .u32) 72 w' w.heap.size (fun k_ => some k_ ≠ (v312 : Value).ownBlock) (.slice Ao12 t308.length co12) t308) ∧ Aside0 (Kd.V (Kd.int .u32) 72 w' w.heap.size (fun k_ => some k_ ≠ (v312 : Value).ownBlock) (.slice Ao11 t305.length co11) t305) ∧ Aside0 (Kd.R (Kd.int .u32) 72 w' w.heap.size (fun _ => True) v312 x7_1) ∧ Aside0 (Below w.heap.size w w'))
  case atStart => exact ⟨(y311), (0), (0), fs, fs, H', ⟨Nat.le_refl _⟩, ⟨vm HO310.out (fun _ hk => hk.2)⟩, ⟨vm HO307.out (fun _ hk => hk.2)⟩, ⟨vs HO313.out⟩, ⟨bz HB.out⟩⟩
  case round =>
   clear H'
   (try clear c5b0); (try clear c5b1); (try clear c7b0); (try clear c7b1); (try clear c8b0); (try clear c8b1)
   obtain ⟨x7_1, x8_1, x28_1, rfl, rfl, HA, HK1, HO_5, HO_6, HO_7, HB⟩ := hrel
   cases gk with
   | zero => exact absurd HA.out (by simp [natural_Add.l0])
   | succ k1 =>
    have H := HA.out
    clear HA
    simp only [natural_Add.l0] at H
    by_cases c15 : x28_1 < (t308.length : Int)
    ·rw [if_pos c15] at H
     have c15b0 : decide (x28_1 < (t308.length : Int)) = true := decide_eq_true c15
     clear c15
     by_cases c16 : x28_1 < (t305.length : Int)
     ·rw [if_pos c16] at H
      have c16b0 : decide (x28_1 < (t305.length : Int)) = true := decide_eq_true c16
      clear c16
      obtain ⟨c17, H⟩ := iN H
      have c17b0 : decide (0 ≤ x28_1) = true := decide_eq_true c17
      clear c17
      obtain ⟨c18, H⟩ := iN H
      have c18b0 : decide (x28_1 < (t308.length : Int)) = true := decide_eq_true c18
      clear c18
      obtain ⟨⟨t316, t317⟩, A19, H⟩ := bs1 H; dsimp only at H
      obtain ⟨c20, H⟩ := iN H
      have c20b0 : decide (x28_1 < (x7_1.length : Int)) = true := decide_eq_true c20
      clear c20
      obtain ⟨y318, hy318⟩ : ∃ y_ : List Int, y_ = (x7_1.set (x28_1 : Int).toNat t316) := ⟨_, rfl⟩
      (try first | rw [← hy318] at H | (dsimp only at H; rw [← hy318] at H)); (try rw [Option.bind_some] at H)
      have Ny318 := Aside0.mk hy318
      clear hy318
      have H' := Aside0.mk H
      clear H
      have p314 : 0 ≤ (x28_1 : Int) := oa
      have q314 : x28_1 < (t305.length : Int) := oa
      obtain ⟨ad314, e314, hx314_0⟩ := Kd.at_int (Kd.V_reads' HO_6.out).2.2 x28_1 p314 q314
      cases e314
      replace p314 := eq_true p314
      replace q314 := eq_true q314
      have p315 : 0 ≤ (x28_1 : Int) := oa
      have q315 : x28_1 < (t308.length : Int) := oa
      obtain ⟨ad315, e315, hx315_0⟩ := Kd.at_int (Kd.V_reads' HO_5.out).2.2 x28_1 p315 q315
      cases e315
      replace p315 := eq_true p315
      replace q315 := eq_true q315
      go_wp2_with (first | ((with_reducible refine gc 66 rfl ?_); refine gl (some 48) Tryd.func66 #[.int .u32 (rd t308 x28_1), .int .u32 (rd t305 x28_1), .int .u32 x8_1] ?_; (with_reducible refine (bits_Add32.calls (rd t308 x28_1) (rd t305 x28_1) x8_1 t316 t317 _ A19.out).mono ?_); rintro e w' ⟨rfl, ⟨nd, rfl⟩⟩; refine ⟨_, rfl, ?_⟩; (try (rw [drewN_self wr]; generalize hq_ : World.drewN wr _ = wr; have n0_ : Aside0 (Kd.V (Kd.int .u32) 72 wr w.heap.size (fun k_ => some k_ ≠ (v312 : Value).ownBlock) (.slice (some ad315) t308.length co12) t308) := ⟨by rw [← hq_]; exact (vs HO_5.out)⟩; have n1_ : Aside0 (Kd.V (Kd.int .u32) 72 wr w.heap.size (fun k_ => some k_ ≠ (v312 : Value).ownBlock) (.slice (some ad314) t305.length co11) t305) := ⟨by rw [← hq_]; exact (vs HO_6.out)⟩; have n2_ : Aside0 (Kd.R (Kd.int .u32) 72 wr w.heap.size (fun _ => True) v312 x7_1) := ⟨by rw [← hq_]; exact (vs HO_7.out)⟩; have n3_ : Aside0 (Below w.heap.size w wr) := ⟨by rw [← hq_]; exact (bz HB.out)⟩; clear HO_5 HO_6 HO_7 HB hq_; have HO_5 := n0_; have HO_6 := n1_; have HO_7 := n2_; have HB := n3_; clear n0_ n1_ n2_ n3_)); have p21 : 0 ≤ (x28_1 : Int) := oa; have q21 : (x28_1 : Int) < ((x7_1.length : Int) : Int) := oa; obtain ⟨go21, co21, eo21, gb21, gl21, cl21, HG21⟩ := Kd.R_form HO_7.out (by omega); (first | cases eo21 | (injection eo21 with ea_ en_ ec_; (first | subst ea_ | (injection ea_ with ea_; subst ea_)); subst ec_; clear en_)); have GB21 := Aside0.mk gb21; have GG21 := Aside0.mk HG21; clear gb21 gl21 HG21; obtain ⟨hx21_0, hf21_0⟩ := Kd.R_celln 0 HO_7.out (x28_1 : Int) p21 q21; replace p21 := eq_true p21; replace q21 := eq_true q21; obtain ⟨hy22_, hz22_⟩ := Kd.R_celln 0 HO_7.out (x28_1 : Int) oa oa; have HP22 := Kd.R_putg HO_7.out (x28_1 : Int) t316) | ((with_reducible refine gate_store (t := 72) (p := 51) rfl ?_); refine se 72 51 (w1 := (wr.setCell ⟨go21, (x28_1 : Int).toNat, none⟩ (.int .u32 t316))) ?_; intro w23 hw; have hg : wr.grownBy w23 (some go21) := (by rw [hw]; exact HP22.2); have hp_ : Kd.R (Kd.int .u32) 72 w23 w.heap.size (fun _ => True) (.slice (some ⟨go21, 0, none⟩) x7_1.length co21) y318 := (by rw [hw, Ny318.out]; exact HP22.1); clear HP22; replace HO_5 := Aside0.mk (Kd.V_afterv (v := (.slice (some ⟨go21, 0, none⟩) x7_1.length co21)) (v1 := (.slice (some ⟨go21, 0, none⟩) x7_1.length co21)) (ok := (fun _ => True)) (vm HO_5.out (fun _ hk => ⟨trivial, hk⟩)) hg (.inl rfl)); replace HO_6 := Aside0.mk (Kd.V_afterv (v := (.slice (some ⟨go21, 0, none⟩) x7_1.length co21)) (v1 := (.slice (some ⟨go21, 0, none⟩) x7_1.length co21)) (ok := (fun _ => True)) (vm HO_6.out (fun _ hk => ⟨trivial, hk⟩)) hg (.inl rfl)); replace HO_7 := Aside0.mk (hp_); replace HB := Aside0.mk ((by rw [hw]; exact below_set (HB.out) GB21.out : Below w.heap.size w w23)); clear hg hw hp_))
      go_roundg k1
      case measure => have := HK1.out; omega
      case rel => exact ⟨(y318), (t317), (wrap64 (x28_1 + 1)), fs, fs, H', ⟨by have := HK1.out; omega⟩, ⟨vm HO_5.out (fun _ hk => hk.2)⟩, ⟨vm HO_6.out (fun _ hk => hk.2)⟩, ⟨vs HO_7.out⟩, ⟨bz HB.out⟩⟩
     ·rw [if_neg c16] at H
      have c16b0 : decide (x28_1 < (t305.length : Int)) = false := decide_eq_false c16
      clear c16
      obtain ⟨c24, H⟩ := iN H
      have c24b0 : decide (0 ≤ x28_1) = true := decide_eq_true c24
      clear c24
      obtain ⟨c25, H⟩ := iN H
      have c25b0 : decide (x28_1 < (t308.length : Int)) = true := decide_eq_true c25
      clear c25
      obtain ⟨⟨t320, t321⟩, A26, H⟩ := bs1 H; dsimp only at H
      obtain ⟨c27, H⟩ := iN H
      have c27b0 : decide (x28_1 < (x7_1.length : Int)) = true := decide_eq_true c27
      clear c27
      obtain ⟨y322, hy322⟩ : ∃ y_ : List Int, y_ = (x7_1.set (x28_1 : Int).toNat t320) := ⟨_, rfl⟩
      (try first | rw [← hy322] at H | (dsimp only at H; rw [← hy322] at H)); (try rw [Option.bind_some] at H)
      have Ny322 := Aside0.mk hy322
      clear hy322
      have H' := Aside0.mk H
      clear H
      have p319 : 0 ≤ (x28_1 : Int) := oa
      have q319 : x28_1 < (t308.length : Int) := oa
      obtain ⟨ad319, e319, hx319_0⟩ := Kd.at_int (Kd.V_reads' HO_5.out).2.2 x28_1 p319 q319
      cases e319
      replace p319 := eq_true p319
      replace q319 := eq_true q319
      go_wp2_with (first | ((with_reducible refine gc 66 rfl ?_); refine gl (some 48) Tryd.func66 #[.int .u32 (rd t308 x28_1), .int .u32 0, .int .u32 x8_1] ?_; (with_reducible refine (bits_Add32.calls (rd t308 x28_1) 0 x8_1 t320 t321 _ A26.out).mono ?_); rintro e w' ⟨rfl, ⟨nd, rfl⟩⟩; refine ⟨_, rfl, ?_⟩; (try (rw [drewN_self wr]; generalize hq_ : World.drewN wr _ = wr; have n0_ : Aside0 (Kd.V (Kd.int .u32) 72 wr w.heap.size (fun k_ => some k_ ≠ (v312 : Value).ownBlock) (.slice (some ad319) t308.length co12) t308) := ⟨by rw [← hq_]; exact (vs HO_5.out)⟩; have n1_ : Aside0 (Kd.V (Kd.int .u32) 72 wr w.heap.size (fun k_ => some k_ ≠ (v312 : Value).ownBlock) (.slice Ao11 t305.length co11) t305) := ⟨by rw [← hq_]; exact (vs HO_6.out)⟩; have n2_ : Aside0 (Kd.R (Kd.int .u32) 72 wr w.heap.size (fun _ => True) v312 x7_1) := ⟨by rw [← hq_]; exact (vs HO_7.out)⟩; have n3_ : Aside0 (Below w.heap.size w wr) := ⟨by rw [← hq_]; exact (bz HB.out)⟩; clear HO_5 HO_6 HO_7 HB hq_; have HO_5 := n0_; have HO_6 := n1_; have HO_7 := n2_; have HB := n3_; clear n0_ n1_ n2_ n3_)); have p28 : 0 ≤ (x28_1 : Int) := oa; have q28 : (x28_1 : Int) < ((x7_1.length : Int) : Int) := oa; obtain ⟨go28, co28, eo28, gb28, gl28, cl28, HG28⟩ := Kd.R_form HO_7.out (by omega); (first | cases eo28 | (injection eo28 with ea_ en_ ec_; (first | subst ea_ | (injection ea_ with ea_; subst ea_)); subst ec_; clear en_)); have GB28 := Aside0.mk gb28; have GG28 := Aside0.mk HG28; clear gb28 gl28 HG28; obtain ⟨hx28_0, hf28_0⟩ := Kd.R_celln 0 HO_7.out (x28_1 : Int) p28 q28; replace p28 := eq_true p28; replace q28 := eq_true q28; obtain ⟨hy29_, hz29_⟩ := Kd.R_celln 0 HO_7.out (x28_1 : Int) oa oa; have HP29 := Kd.R_putg HO_7.out (x28_1 : Int) t320) | ((with_reducible refine gate_store (t := 72) (p := 51) rfl ?_); refine se 72 51 (w1 := (wr.setCell ⟨go28, (x28_1 : Int).toNat, none⟩ (.int .u32 t320))) ?_; intro w30 hw; have hg : wr.grownBy w30 (some go28) := (by rw [hw]; exact HP29.2); have hp_ : Kd.R (Kd.int .u32) 72 w30 w.heap.size (fun _ => True) (.slice (some ⟨go28, 0, none⟩) x7_1.length co28) y322 := (by rw [hw, Ny322.out]; exact HP29.1); clear HP29; replace HO_5 := Aside0.mk (Kd.V_afterv (v := (.slice (some ⟨go28, 0, none⟩) x7_1.length co28)) (v1 := (.slice (some ⟨go28, 0, none⟩) x7_1.length co28)) (ok := (fun _ => True)) (vm HO_5.out (fun _ hk => ⟨trivial, hk⟩)) hg (.inl rfl)); replace HO_6 := Aside0.mk (Kd.V_afterv (v := (.slice (some ⟨go28, 0, none⟩) x7_1.length co28)) (v1 := (.slice (some ⟨go28, 0, none⟩) x7_1.length co28)) (ok := (fun _ => True)) (vm HO_6.out (fun _ hk => ⟨trivial, hk⟩)) hg (.inl rfl)); replace HO_7 := Aside0.mk (hp_); replace HB := Aside0.mk ((by rw [hw]; exact below_set (HB.out) GB28.out : Below w.heap.size w w30)); clear hg hw hp_))
      go_roundg k1
      case measure => have := HK1.out; omega
      case rel => exact ⟨(y322), (t321), (wrap64 (x28_1 + 1)), fs, fs, H', ⟨by have := HK1.out; omega⟩, ⟨vm HO_5.out (fun _ hk => hk.2)⟩, ⟨vm HO_6.out (fun _ hk => hk.2)⟩, ⟨vs HO_7.out⟩, ⟨bz HB.out⟩⟩
    ·rw [if_neg c15] at H
     have c15b0 : decide (x28_1 < (t308.length : Int)) = false := decide_eq_false c15
     clear c15
     obtain ⟨c31, H⟩ := iN H
     have c31b0 : decide (0 ≤ (t308.length : Int)) = true := decide_eq_true c31
     have c31b1 : decide (0 ≤ t308.length) = true := decide_eq_true (by omega)
     clear c31
     obtain ⟨c32, H⟩ := iN H
     have c32b0 : decide ((t308.length : Int) < (x7_1.length : Int)) = true := decide_eq_true c32
     have c32b1 : decide (t308.length < x7_1.length) = true := decide_eq_true (Int.ofNat_lt.mp c32)
     clear c32
     obtain ⟨y323, hy323⟩ : ∃ y_ : List Int, y_ = (x7_1.set ((t308.length : Int) : Int).toNat x8_1) := ⟨_, rfl⟩
     (try first | rw [← hy323] at H | (dsimp only at H; rw [← hy323] at H)); (try rw [Option.bind_some] at H)
     have Ny323 := Aside0.mk hy323
     clear hy323
     obtain ⟨t324, A34, H⟩ := bs1 H
     obtain rfl := Option.some.inj H
     have p33 : 0 ≤ ((t308.length : Int) : Int) := oa
     have q33 : ((t308.length : Int) : Int) < ((x7_1.length : Int) : Int) := oa
     obtain ⟨go33, co33, eo33, gb33, gl33, cl33, HG33⟩ := Kd.R_form HO_7.out (by omega)
     (first | cases eo33 | (injection eo33 with ea_ en_ ec_; (first | subst ea_ | (injection ea_ with ea_; subst ea_)); subst ec_; clear en_))
     have GB33 := Aside0.mk gb33
     have GG33 := Aside0.mk HG33
     clear gb33 gl33 HG33
     obtain ⟨hx33_0, hf33_0⟩ := Kd.R_celln 0 HO_7.out ((t308.length : Int) : Int) p33 q33
     (try simp only [Int.toNat_natCast] at hx33_0); (try simp only [Int.toNat_natCast] at hf33_0)
     replace p33 := eq_true p33
     replace q33 := eq_true q33
     have HP35 := Kd.R_putg HO_7.out ((t308.length : Int) : Int) x8_1
     go_wp2_with (first | ((with_reducible refine gate_store (t := 72) (p := 57) rfl ?_); refine se 72 57 (w1 := (wr.setCell ⟨go33, ((t308.length : Int) : Int).toNat, none⟩ (.int .u32 x8_1))) ?_; intro w36 hw; have hg : wr.grownBy w36 (some go33) := (by rw [hw]; exact HP35.2); have hp_ : Kd.R (Kd.int .u32) 72 w36 w.heap.size (fun _ => True) (.slice (some ⟨go33, 0, none⟩) x7_1.length co33) y323 := (by rw [hw, Ny323.out]; exact HP35.1); clear HP35; replace HO_5 := Aside0.mk (Kd.V_afterv (v := (.slice (some ⟨go33, 0, none⟩) x7_1.length co33)) (v1 := (.slice (some ⟨go33, 0, none⟩) x7_1.length co33)) (ok := (fun _ => True)) (vm HO_5.out (fun _ hk => ⟨trivial, hk⟩)) hg (.inl rfl)); replace HO_6 := Aside0.mk (Kd.V_afterv (v := (.slice (some ⟨go33, 0, none⟩) x7_1.length co33)) (v1 := (.slice (some ⟨go33, 0, none⟩) x7_1.length co33)) (ok := (fun _ => True)) (vm HO_6.out (fun _ hk => ⟨trivial, hk⟩)) hg (.inl rfl)); replace HO_7 := Aside0.mk (hp_); replace HB := Aside0.mk ((by rw [hw]; exact below_set (HB.out) GB33.out : Below w.heap.size w w36)); clear hg hw hp_) | ((with_reducible refine gc 56 rfl ?_); refine goesL_ (some 59) rfl rfl Tryd.func56 (by kernel_rfl) rfl #[.slice (some ⟨go33, 0, none⟩) y323.length co33] rfl (by (try simp only [List.map_toArray, List.map_cons, List.map_nil]); first | done | (rw [show y323.length = x7_1.length from (Kd.R_reads' HO_7.out).1.symm] <;> rfl) | rfl | (simp only [List.length_drop, List.length_take]; rfl)) ?_; (with_reducible refine (natural_limbs_text.calls k1 _ _ y323 t324 _ ?side1 ?side2 A34.out).mono ?_); (case side1 => exact vs (Kd.R_reads' HO_7.out).2.2); (case side2 => rw [show y323.length = x7_1.length from (Kd.R_reads' HO_7.out).1.symm]; exact (Kd.R_reads' HO_7.out).2.1); rintro e w37 ⟨rfl, hb⟩; refine ⟨_, rfl, ?_⟩; replace HO_5 := Aside0.mk (vb HO_5.out hb); replace HO_6 := Aside0.mk (vb HO_6.out hb); replace HO_7 := Aside0.mk (rb HO_7.out hb); replace HB := Aside0.mk (bs HB.out hb); (try clear hb)))
     go_ret
     exact ⟨by first | rfl | (simp [errW_none, errW_some] <;> rfl) | (simp only [← hji6]; first | rfl | (simp [errW_none, errW_some] <;> rfl)) | (simp [*, errW_none, errW_some] <;> rfl), bz HB.out⟩
 ·rw [if_neg c5] at H
  have c5b0 : decide ((t305.length : Int) < (t308.length : Int)) = false := decide_eq_false c5
  have c5b1 : decide (t305.length < t308.length) = false := decide_eq_false (fun h => c5 (Int.ofNat_lt.mpr h))
  clear c5
  obtain ⟨ji38, hji38⟩ : ∃ j_ : Int, (wrap64 ((t305.length : Int) + 1)) = j_ := ⟨_, rfl⟩
  first | rw [hji38] at H | simp only [hji38] at H
  (try rw [hji38] at A3)
  (try rw [hji38] at A4)
  have hji38w : (IntKind.i64.wrap ((t305.length : Int) + 1)) = ji38 := (i64_w _).trans hji38
  obtain ⟨c39, H⟩ := iN H
  have c39b0 := eq_true c39
  have c39b1 : decide (0 ≤ (ji38)) = true := decide_eq_true c39
  clear c39
  obtain ⟨c40, H⟩ := iN H
  have c40b0 := eq_true c40
  have c40b1 : decide ((ji38 : Int).toNat ≤ 70368744177664) = true := decide_eq_true c40
  clear c40
  obtain ⟨y325, hy325⟩ : ∃ y_ : List Int, y_ = (List.replicate (ji38 : Int).toNat 0) := ⟨_, rfl⟩
  (try first | rw [← hy325] at H | (dsimp only at H; rw [← hy325] at H)); (try rw [Option.bind_some] at H)
  have Ny325 := Aside0.mk hy325
  clear hy325
  have H' := Aside0.mk H
  clear H
  go_enter Tryd.func48, Tryd.ntmps48
  go_wp2_with (first | ((with_reducible refine gc 54 rfl ?_); refine gl (some 12) Tryd.func54 #[.string a0] ?_; (with_reducible refine (natural_parse.calls k a0 t305 _ A3.out).mono ?_); rintro e w41 ⟨v306, rfl, ho0, hb⟩; refine ⟨_, rfl, ?_⟩; have HO307 := Aside0.mk (Kd.V_lower (Kd.V_mono (ok' := fun k_ => True) ho0 (fun k_ hk_ => trivial)) (sz HB.out)); replace HB := Aside0.mk (bs HB.out hb); (try clear hb ho0)) | ((with_reducible refine gc 54 rfl ?_); refine gl (some 14) Tryd.func54 #[.string a1] ?_; (with_reducible refine (natural_parse.calls k a1 t308 _ A4.out).mono ?_); rintro e w42 ⟨v309, rfl, ho0, hb⟩; refine ⟨_, rfl, ?_⟩; replace HO307 := Aside0.mk (vb HO307.out hb); have HO310 := Aside0.mk (Kd.V_lower (Kd.V_mono (ok' := fun k_ => True) ho0 (fun k_ hk_ => trivial)) (sz HB.out)); replace HB := Aside0.mk (bs HB.out hb); (try clear hb ho0); obtain ⟨Ao43, co43, rfl⟩ := Kd.V_slice HO307.out; obtain ⟨Ao44, co44, rfl⟩ := Kd.V_slice HO310.out) | ((with_reducible refine gd 25 rfl ?_); refine Kd.R_make (Kd.int .u32) _ 72 rfl (N := 25) rfl 65 _ _ rfl ji38 rfl rfl Tryd.underlying65 (.int .u32 0) 4 info72 rfl (by decide) (by omega) 0 (ok := fun _ => True) (okp := fun _ => True) rfl (fun _ hk => hk) trivial oa (Nat.le_trans (Nat.mul_le_mul_right _ (oa : ji38.toNat ≤ 70368744177664)) (by omega)) (Below.refl _ _) (Nat.le_refl _) ?_; intro v326 w45 ho46 hb hg_ hnew_; clear hg_ hnew_; (first | rw [← Ny325.out] at ho46 | (simp only [Int.reduceToNat] at ho46; rw [← Ny325.out] at ho46)); replace HO307 := Aside0.mk (Kd.V_elder' (vs HO307.out) (Kd.R_base ho46) hb); replace HO310 := Aside0.mk (Kd.V_elder' (vs HO310.out) (Kd.R_base ho46) hb); have HO327 := Aside0.mk (Kd.R_lower ho46 (sz HB.out)); replace HB := Aside0.mk (bs HB.out hb); clear hb ho46))
  go_loopg [8, 28] k (fun kq v8 v28 w' => ∃ (x7_1 : List Int) (x8_1 : Int) (x28_1 : Int), v8 = .int .u32 x8_1 ∧ v28 = .int .i64 x28_1 ∧ Aside0 (natural_Add.l0 kq t305 t308 x7_1 x8_1 (t305.length : Int) x28_1 = some r) ∧ Aside0 (kq ≤ k) ∧ Aside0 (Kd.V (Kd.int .u32) 72 w' w.heap.size (fun k_ => some k_ ≠ (v326 : Value).ownBlock) (.slice Ao43 t305.length co43) t305) ∧ Aside0 (Kd.V (Kd.int .u32) 72 w' w.heap.size (fun k_ => some k_ ≠ (v326 : Value).ownBlock) (.slice Ao44 t308.length co44) t308) ∧ Aside0 (Kd.R (Kd.int .u32) 72 w' w.heap.size (fun _ => True) v326 x7_1) ∧ Aside0 (Below w.heap.size w w'))
  case atStart => exact ⟨(y325), (0), (0), fs, fs, H', ⟨Nat.le_refl _⟩, ⟨vm HO307.out (fun _ hk => hk.2)⟩, ⟨vm HO310.out (fun _ hk => hk.2)⟩, ⟨vs HO327.out⟩, ⟨bz HB.out⟩⟩
  case round =>
   clear H'
   (try clear c5b0); (try clear c5b1); (try clear c7b0); (try clear c7b1); (try clear c8b0); (try clear c8b1); (try clear c15b0); (try clear c16b0); (try clear c17b0); (try clear c18b0); (try clear c20b0); (try clear p21); (try clear q21); (try clear c24b0); (try clear c25b0); (try clear c27b0); (try clear p28); (try clear q28); (try clear c31b0); (try clear c31b1); (try clear c32b0); (try clear c32b1); (try clear p33); (try clear q33); (try clear c39b0); (try clear c39b1); (try clear c40b0); (try clear c40b1); (try clear hx21_0); (try clear hx28_0); (try clear hx314_0); (try clear hx315_0); (try clear hx319_0); (try clear hx33_0); (try clear p21); (try clear p28); (try clear p314); (try clear p315); (try clear p319); (try clear p33); (try clear q21); (try clear q28); (try clear q314); (try clear q315); (try clear q319); (try clear q33)
   obtain ⟨x7_1, x8_1, x28_1, rfl, rfl, HA, HK1, HO_5, HO_6, HO_7, HB⟩ := hrel
   cases gk with
   | zero => exact absurd HA.out (by simp [natural_Add.l0])
   | succ k1 =>
    have H := HA.out
    clear HA
    simp only [natural_Add.l0] at H
    by_cases c47 : x28_1 < (t305.length : Int)
    ·rw [if_pos c47] at H
     have c47b0 : decide (x28_1 < (t305.length : Int)) = true := decide_eq_true c47
     clear c47
     by_cases c48 : x28_1 < (t308.length : Int)
     ·rw [if_pos c48] at H
      have c48b0 : decide (x28_1 < (t308.length : Int)) = true := decide_eq_true c48
      clear c48
      obtain ⟨c49, H⟩ := iN H
      have c49b0 : decide (0 ≤ x28_1) = true := decide_eq_true c49
      clear c49
      obtain ⟨c50, H⟩ := iN H
      have c50b0 : decide (x28_1 < (t305.length : Int)) = true := decide_eq_true c50
      clear c50
      obtain ⟨⟨t316, t317⟩, A51, H⟩ := bs1 H; dsimp only at H
      obtain ⟨c52, H⟩ := iN H
      have c52b0 : decide (x28_1 < (x7_1.length : Int)) = true := decide_eq_true c52
      clear c52
      obtain ⟨y318, hy318⟩ : ∃ y_ : List Int, y_ = (x7_1.set (x28_1 : Int).toNat t316) := ⟨_, rfl⟩
      (try first | rw [← hy318] at H | (dsimp only at H; rw [← hy318] at H)); (try rw [Option.bind_some] at H)
      have Ny318 := Aside0.mk hy318
      clear hy318
      have H' := Aside0.mk H
      clear H
      have p314 : 0 ≤ (x28_1 : Int) := oa
      have q314 : x28_1 < (t308.length : Int) := oa
      obtain ⟨ad314, e314, hx314_0⟩ := Kd.at_int (Kd.V_reads' HO_6.out).2.2 x28_1 p314 q314
      cases e314
      replace p314 := eq_true p314
      replace q314 := eq_true q314
      have p315 : 0 ≤ (x28_1 : Int) := oa
      have q315 : x28_1 < (t305.length : Int) := oa
      obtain ⟨ad315, e315, hx315_0⟩ := Kd.at_int (Kd.V_reads' HO_5.out).2.2 x28_1 p315 q315
      cases e315
      replace p315 := eq_true p315
      replace q315 := eq_true q315
      go_wp2_with (first | ((with_reducible refine gc 66 rfl ?_); refine gl (some 48) Tryd.func66 #[.int .u32 (rd t305 x28_1), .int .u32 (rd t308 x28_1), .int .u32 x8_1] ?_; (with_reducible refine (bits_Add32.calls (rd t305 x28_1) (rd t308 x28_1) x8_1 t316 t317 _ A51.out).mono ?_); rintro e w' ⟨rfl, ⟨nd, rfl⟩⟩; refine ⟨_, rfl, ?_⟩; (try (rw [drewN_self wr]; generalize hq_ : World.drewN wr _ = wr; have n0_ : Aside0 (Kd.V (Kd.int .u32) 72 wr w.heap.size (fun k_ => some k_ ≠ (v326 : Value).ownBlock) (.slice (some ad315) t305.length co43) t305) := ⟨by rw [← hq_]; exact (vs HO_5.out)⟩; have n1_ : Aside0 (Kd.V (Kd.int .u32) 72 wr w.heap.size (fun k_ => some k_ ≠ (v326 : Value).ownBlock) (.slice (some ad314) t308.length co44) t308) := ⟨by rw [← hq_]; exact (vs HO_6.out)⟩; have n2_ : Aside0 (Kd.R (Kd.int .u32) 72 wr w.heap.size (fun _ => True) v326 x7_1) := ⟨by rw [← hq_]; exact (vs HO_7.out)⟩; have n3_ : Aside0 (Below w.heap.size w wr) := ⟨by rw [← hq_]; exact (bz HB.out)⟩; clear HO_5 HO_6 HO_7 HB hq_; have HO_5 := n0_; have HO_6 := n1_; have HO_7 := n2_; have HB := n3_; clear n0_ n1_ n2_ n3_)); have p53 : 0 ≤ (x28_1 : Int) := oa; have q53 : (x28_1 : Int) < ((x7_1.length : Int) : Int) := oa; obtain ⟨go53, co53, eo53, gb53, gl53, cl53, HG53⟩ := Kd.R_form HO_7.out (by omega); (first | cases eo53 | (injection eo53 with ea_ en_ ec_; (first | subst ea_ | (injection ea_ with ea_; subst ea_)); subst ec_; clear en_)); have GB53 := Aside0.mk gb53; have GG53 := Aside0.mk HG53; clear gb53 gl53 HG53; obtain ⟨hx53_0, hf53_0⟩ := Kd.R_celln 0 HO_7.out (x28_1 : Int) p53 q53; replace p53 := eq_true p53; replace q53 := eq_true q53; obtain ⟨hy54_, hz54_⟩ := Kd.R_celln 0 HO_7.out (x28_1 : Int) oa oa; have HP54 := Kd.R_putg HO_7.out (x28_1 : Int) t316) | ((with_reducible refine gate_store (t := 72) (p := 51) rfl ?_); refine se 72 51 (w1 := (wr.setCell ⟨go53, (x28_1 : Int).toNat, none⟩ (.int .u32 t316))) ?_; intro w55 hw; have hg : wr.grownBy w55 (some go53) := (by rw [hw]; exact HP54.2); have hp_ : Kd.R (Kd.int .u32) 72 w55 w.heap.size (fun _ => True) (.slice (some ⟨go53, 0, none⟩) x7_1.length co53) y318 := (by rw [hw, Ny318.out]; exact HP54.1); clear HP54; replace HO_5 := Aside0.mk (Kd.V_afterv (v := (.slice (some ⟨go53, 0, none⟩) x7_1.length co53)) (v1 := (.slice (some ⟨go53, 0, none⟩) x7_1.length co53)) (ok := (fun _ => True)) (vm HO_5.out (fun _ hk => ⟨trivial, hk⟩)) hg (.inl rfl)); replace HO_6 := Aside0.mk (Kd.V_afterv (v := (.slice (some ⟨go53, 0, none⟩) x7_1.length co53)) (v1 := (.slice (some ⟨go53, 0, none⟩) x7_1.length co53)) (ok := (fun _ => True)) (vm HO_6.out (fun _ hk => ⟨trivial, hk⟩)) hg (.inl rfl)); replace HO_7 := Aside0.mk (hp_); replace HB := Aside0.mk ((by rw [hw]; exact below_set (HB.out) GB53.out : Below w.heap.size w w55)); clear hg hw hp_))
      go_roundg k1
      case measure => have := HK1.out; omega
      case rel => exact ⟨(y318), (t317), (wrap64 (x28_1 + 1)), fs, fs, H', ⟨by have := HK1.out; omega⟩, ⟨vm HO_5.out (fun _ hk => hk.2)⟩, ⟨vm HO_6.out (fun _ hk => hk.2)⟩, ⟨vs HO_7.out⟩, ⟨bz HB.out⟩⟩
     ·rw [if_neg c48] at H
      have c48b0 : decide (x28_1 < (t308.length : Int)) = false := decide_eq_false c48
      clear c48
      obtain ⟨c56, H⟩ := iN H
      have c56b0 : decide (0 ≤ x28_1) = true := decide_eq_true c56
      clear c56
      obtain ⟨c57, H⟩ := iN H
      have c57b0 : decide (x28_1 < (t305.length : Int)) = true := decide_eq_true c57
      clear c57
      obtain ⟨⟨t320, t321⟩, A58, H⟩ := bs1 H; dsimp only at H
      obtain ⟨c59, H⟩ := iN H
      have c59b0 : decide (x28_1 < (x7_1.length : Int)) = true := decide_eq_true c59
      clear c59
      obtain ⟨y322, hy322⟩ : ∃ y_ : List Int, y_ = (x7_1.set (x28_1 : Int).toNat t320) := ⟨_, rfl⟩
      (try first | rw [← hy322] at H | (dsimp only at H; rw [← hy322] at H)); (try rw [Option.bind_some] at H)
      have Ny322 := Aside0.mk hy322
      clear hy322
      have H' := Aside0.mk H
      clear H
      have p319 : 0 ≤ (x28_1 : Int) := oa
      have q319 : x28_1 < (t305.length : Int) := oa
      obtain ⟨ad319, e319, hx319_0⟩ := Kd.at_int (Kd.V_reads' HO_5.out).2.2 x28_1 p319 q319
      cases e319
      replace p319 := eq_true p319
      replace q319 := eq_true q319
      go_wp2_with (first | ((with_reducible refine gc 66 rfl ?_); refine gl (some 48) Tryd.func66 #[.int .u32 (rd t305 x28_1), .int .u32 0, .int .u32 x8_1] ?_; (with_reducible refine (bits_Add32.calls (rd t305 x28_1) 0 x8_1 t320 t321 _ A58.out).mono ?_); rintro e w' ⟨rfl, ⟨nd, rfl⟩⟩; refine ⟨_, rfl, ?_⟩; (try (rw [drewN_self wr]; generalize hq_ : World.drewN wr _ = wr; have n0_ : Aside0 (Kd.V (Kd.int .u32) 72 wr w.heap.size (fun k_ => some k_ ≠ (v326 : Value).ownBlock) (.slice (some ad319) t305.length co43) t305) := ⟨by rw [← hq_]; exact (vs HO_5.out)⟩; have n1_ : Aside0 (Kd.V (Kd.int .u32) 72 wr w.heap.size (fun k_ => some k_ ≠ (v326 : Value).ownBlock) (.slice Ao44 t308.length co44) t308) := ⟨by rw [← hq_]; exact (vs HO_6.out)⟩; have n2_ : Aside0 (Kd.R (Kd.int .u32) 72 wr w.heap.size (fun _ => True) v326 x7_1) := ⟨by rw [← hq_]; exact (vs HO_7.out)⟩; have n3_ : Aside0 (Below w.heap.size w wr) := ⟨by rw [← hq_]; exact (bz HB.out)⟩; clear HO_5 HO_6 HO_7 HB hq_; have HO_5 := n0_; have HO_6 := n1_; have HO_7 := n2_; have HB := n3_; clear n0_ n1_ n2_ n3_)); have p60 : 0 ≤ (x28_1 : Int) := oa; have q60 : (x28_1 : Int) < ((x7_1.length : Int) : Int) := oa; obtain ⟨go60, co60, eo60, gb60, gl60, cl60, HG60⟩ := Kd.R_form HO_7.out (by omega); (first | cases eo60 | (injection eo60 with ea_ en_ ec_; (first | subst ea_ | (injection ea_ with ea_; subst ea_)); subst ec_; clear en_)); have GB60 := Aside0.mk gb60; have GG60 := Aside0.mk HG60; clear gb60 gl60 HG60; obtain ⟨hx60_0, hf60_0⟩ := Kd.R_celln 0 HO_7.out (x28_1 : Int) p60 q60; replace p60 := eq_true p60; replace q60 := eq_true q60; obtain ⟨hy61_, hz61_⟩ := Kd.R_celln 0 HO_7.out (x28_1 : Int) oa oa; have HP61 := Kd.R_putg HO_7.out (x28_1 : Int) t320) | ((with_reducible refine gate_store (t := 72) (p := 51) rfl ?_); refine se 72 51 (w1 := (wr.setCell ⟨go60, (x28_1 : Int).toNat, none⟩ (.int .u32 t320))) ?_; intro w62 hw; have hg : wr.grownBy w62 (some go60) := (by rw [hw]; exact HP61.2); have hp_ : Kd.R (Kd.int .u32) 72 w62 w.heap.size (fun _ => True) (.slice (some ⟨go60, 0, none⟩) x7_1.length co60) y322 := (by rw [hw, Ny322.out]; exact HP61.1); clear HP61; replace HO_5 := Aside0.mk (Kd.V_afterv (v := (.slice (some ⟨go60, 0, none⟩) x7_1.length co60)) (v1 := (.slice (some ⟨go60, 0, none⟩) x7_1.length co60)) (ok := (fun _ => True)) (vm HO_5.out (fun _ hk => ⟨trivial, hk⟩)) hg (.inl rfl)); replace HO_6 := Aside0.mk (Kd.V_afterv (v := (.slice (some ⟨go60, 0, none⟩) x7_1.length co60)) (v1 := (.slice (some ⟨go60, 0, none⟩) x7_1.length co60)) (ok := (fun _ => True)) (vm HO_6.out (fun _ hk => ⟨trivial, hk⟩)) hg (.inl rfl)); replace HO_7 := Aside0.mk (hp_); replace HB := Aside0.mk ((by rw [hw]; exact below_set (HB.out) GB60.out : Below w.heap.size w w62)); clear hg hw hp_))
      go_roundg k1
      case measure => have := HK1.out; omega
      case rel => exact ⟨(y322), (t321), (wrap64 (x28_1 + 1)), fs, fs, H', ⟨by have := HK1.out; omega⟩, ⟨vm HO_5.out (fun _ hk => hk.2)⟩, ⟨vm HO_6.out (fun _ hk => hk.2)⟩, ⟨vs HO_7.out⟩, ⟨bz HB.out⟩⟩
    ·rw [if_neg c47] at H
     have c47b0 : decide (x28_1 < (t305.length : Int)) = false := decide_eq_false c47
     clear c47
     obtain ⟨c63, H⟩ := iN H
     have c63b0 : decide (0 ≤ (t305.length : Int)) = true := decide_eq_true c63
     have c63b1 : decide (0 ≤ t305.length) = true := decide_eq_true (by omega)
     clear c63
     obtain ⟨c64, H⟩ := iN H
     have c64b0 : decide ((t305.length : Int) < (x7_1.length : Int)) = true := decide_eq_true c64
     have c64b1 : decide (t305.length < x7_1.length) = true := decide_eq_true (Int.ofNat_lt.mp c64)
     clear c64
     obtain ⟨y323, hy323⟩ : ∃ y_ : List Int, y_ = (x7_1.set ((t305.length : Int) : Int).toNat x8_1) := ⟨_, rfl⟩
     (try first | rw [← hy323] at H | (dsimp only at H; rw [← hy323] at H)); (try rw [Option.bind_some] at H)
     have Ny323 := Aside0.mk hy323
     clear hy323
     obtain ⟨t324, A66, H⟩ := bs1 H
     obtain rfl := Option.some.inj H
     have p65 : 0 ≤ ((t305.length : Int) : Int) := oa
     have q65 : ((t305.length : Int) : Int) < ((x7_1.length : Int) : Int) := oa
     obtain ⟨go65, co65, eo65, gb65, gl65, cl65, HG65⟩ := Kd.R_form HO_7.out (by omega)
     (first | cases eo65 | (injection eo65 with ea_ en_ ec_; (first | subst ea_ | (injection ea_ with ea_; subst ea_)); subst ec_; clear en_))
     have GB65 := Aside0.mk gb65
     have GG65 := Aside0.mk HG65
     clear gb65 gl65 HG65
     obtain ⟨hx65_0, hf65_0⟩ := Kd.R_celln 0 HO_7.out ((t305.length : Int) : Int) p65 q65
     (try simp only [Int.toNat_natCast] at hx65_0); (try simp only [Int.toNat_natCast] at hf65_0)
     replace p65 := eq_true p65
     replace q65 := eq_true q65
     have HP67 := Kd.R_putg HO_7.out ((t305.length : Int) : Int) x8_1
     go_wp2_with (first | ((with_reducible refine gate_store (t := 72) (p := 57) rfl ?_); refine se 72 57 (w1 := (wr.setCell ⟨go65, ((t305.length : Int) : Int).toNat, none⟩ (.int .u32 x8_1))) ?_; intro w68 hw; have hg : wr.grownBy w68 (some go65) := (by rw [hw]; exact HP67.2); have hp_ : Kd.R (Kd.int .u32) 72 w68 w.heap.size (fun _ => True) (.slice (some ⟨go65, 0, none⟩) x7_1.length co65) y323 := (by rw [hw, Ny323.out]; exact HP67.1); clear HP67; replace HO_5 := Aside0.mk (Kd.V_afterv (v := (.slice (some ⟨go65, 0, none⟩) x7_1.length co65)) (v1 := (.slice (some ⟨go65, 0, none⟩) x7_1.length co65)) (ok := (fun _ => True)) (vm HO_5.out (fun _ hk => ⟨trivial, hk⟩)) hg (.inl rfl)); replace HO_6 := Aside0.mk (Kd.V_afterv (v := (.slice (some ⟨go65, 0, none⟩) x7_1.length co65)) (v1 := (.slice (some ⟨go65, 0, none⟩) x7_1.length co65)) (ok := (fun _ => True)) (vm HO_6.out (fun _ hk => ⟨trivial, hk⟩)) hg (.inl rfl)); replace HO_7 := Aside0.mk (hp_); replace HB := Aside0.mk ((by rw [hw]; exact below_set (HB.out) GB65.out : Below w.heap.size w w68)); clear hg hw hp_) | ((with_reducible refine gc 56 rfl ?_); refine goesL_ (some 59) rfl rfl Tryd.func56 (by kernel_rfl) rfl #[.slice (some ⟨go65, 0, none⟩) y323.length co65] rfl (by (try simp only [List.map_toArray, List.map_cons, List.map_nil]); first | done | (rw [show y323.length = x7_1.length from (Kd.R_reads' HO_7.out).1.symm] <;> rfl) | rfl | (simp only [List.length_drop, List.length_take]; rfl)) ?_; (with_reducible refine (natural_limbs_text.calls k1 _ _ y323 t324 _ ?side1 ?side2 A66.out).mono ?_); (case side1 => exact vs (Kd.R_reads' HO_7.out).2.2); (case side2 => rw [show y323.length = x7_1.length from (Kd.R_reads' HO_7.out).1.symm]; exact (Kd.R_reads' HO_7.out).2.1); rintro e w69 ⟨rfl, hb⟩; refine ⟨_, rfl, ?_⟩; replace HO_5 := Aside0.mk (vb HO_5.out hb); replace HO_6 := Aside0.mk (vb HO_6.out hb); replace HO_7 := Aside0.mk (rb HO_7.out hb); replace HB := Aside0.mk (bs HB.out hb); (try clear hb)))
     go_ret
     exact ⟨by first | rfl | (simp [errW_none, errW_some] <;> rfl) | (simp only [← hji38]; first | rfl | (simp [errW_none, errW_some] <;> rfl)) | (simp [*, errW_none, errW_some] <;> rfl), bz HB.out⟩

-- NOT PRINTED: function 111 (strings_trimRightByte)

-- NOT PRINTED: function 112 (strings_trimRightASCII)

-- NOT PRINTED: function 123 (utf8_RuneStart)

-- NOT PRINTED: function 120 (utf8_DecodeLastRuneInString)

-- NOT PRINTED: function 113 (strings_trimRightUnicode)

/-! ### strings_Trim: function 94 (by hand) -/
def strings_Trim.f (a0 : ByteArray) (a1 : ByteArray) : Option (ByteArray) := if a0.size ≤ 9223372036854775807 ∧ a1.size < 4294967281 ∧ (a1.data.toList.all fun b => decide (b.toNat < 128)) = true then some ⟨(Lib.trimS a0.data.toList a1.data.toList).toArray⟩ else none
theorem strings_Trim.calls (a0 : ByteArray) (a1 : ByteArray) (r : ByteArray) (w : World) (h : strings_Trim.f a0 a1 = some r) :
  Calls Tryd.prog 94 #[.string a0, .string a1] w fun e w' => e = .returned (.string r) ∧ Below w.heap.size w w' := by
 unfold strings_Trim.f at h
 split at h
 ·rename_i hc
  obtain rfl := Option.some.inj h
  exact Tryd.strings_Trim_laid a0 a1 w hc.1 hc.2.1 (fun _ b hb => of_decide_eq_true (List.all_eq_true.1 hc.2.2 b (List.mem_of_getElem? hb)))
 ·cases h

/-! ### natural_multiplyAdd: function 95 -/
def natural_multiplyAdd.l0 : Nat → List Int → Int → Int → Int → Int → Option (List Int)
 | 0, _, _, _, _, _ => none
 | k + 1, x0, x1, x7, x13, x14 => if x14 < x13 then (if 0 ≤ x14 then (if x14 < (x0.length : Int) then (natural_multiplyAdd.l0 k (x0.set (x14 : Int).toNat ((IntKind.u64.wrap ((IntKind.u64.wrap ((IntKind.u64.wrap (rd x0 x14)) * (IntKind.u64.wrap (x1)))) + x7)) % 4294967296)) x1 ((IntKind.u64.wrap ((IntKind.u64.wrap ((IntKind.u64.wrap (rd x0 x14)) * (IntKind.u64.wrap (x1)))) + x7)) / 4294967296) x13 (wrap64 (x14 + 1))) else (none)) else (none)) else (if x7 > 0 then (if x0.length < 35184372088832 then (some (x0 ++ [(x7) % 4294967296])) else (none)) else (some x0))
def natural_multiplyAdd.f (k : Nat) (l0 : List Int) (a1 : Int) (a2 : Int) : Option (List Int) := natural_multiplyAdd.l0 k l0 a1 (IntKind.u64.wrap (a2)) (l0.length : Int) 0
theorem natural_multiplyAdd.mono_l : ∀ k, (∀ y0 y1 y2 y3 y4, LeO (natural_multiplyAdd.l0 k y0 y1 y2 y3 y4) (natural_multiplyAdd.l0 (k + 1) y0 y1 y2 y3 y4))
 | 0 => fun _ _ _ _ _ r h => by simp [natural_multiplyAdd.l0] at h
 | k + 1 => by
  have ih0 := natural_multiplyAdd.mono_l k
  ·intro y0 y1 y2 y3 y4
   unfold natural_multiplyAdd.l0
   repeat' with_reducible first | exact ih0 _ _ _ _ _ | exact LeO.refl _ | exact LeO.none _ | refine LeO.ite ?_ ?_ | refine LeO.bind ?_ (fun _ => ?_)
theorem natural_multiplyAdd.mono : ∀ a0 a1 a2 k, LeO (natural_multiplyAdd.f k a0 a1 a2) (natural_multiplyAdd.f (k + 1) a0 a1 a2) := by
 intro a0 a1 a2 k
 have ih0 := natural_multiplyAdd.mono_l k
 unfold natural_multiplyAdd.f
 repeat' with_reducible first | exact ih0 _ _ _ _ _ | exact LeO.refl _ | exact LeO.none _ | refine LeO.ite ?_ ?_ | refine LeO.bind ?_ (fun _ => ?_)
set_option maxHeartbeats 8000000 in
set_option maxRecDepth 100000 in
theorem natural_multiplyAdd.calls (k : Nat) (P0_ : Nat → Prop) (u9000_ : Value) (l0 : List Int) (a1 : Int) (a2 : Int) (r : List Int) (w0 w : World) (hB : Below w0.heap.size w0 w) (ho0 : Kd.R (Kd.int .u32) 72 w w0.heap.size P0_ u9000_ l0) (h : natural_multiplyAdd.f k l0 a1 a2 = some r) :
  Calls Tryd.prog 95 #[u9000_, .int .u32 a1, .int .u32 a2] w fun e w' => ∃ v0_ : Value, e = .returned (v0_) ∧ Kd.R (Kd.int .u32) 72 w' w0.heap.size (fun k_ => (P0_ k_ ∨ w.heap.size ≤ k_)) v0_ r ∧ Below w0.heap.size w0 w' ∧ Kept w w' (fun k_ => P0_ k_) := by
 have HO0 := Aside0.mk (show Kd.R (Kd.int .u32) 72 w w0.heap.size (fun k_ => (P0_ k_ ∨ w.heap.size ≤ k_)) u9000_ l0 from Kd.R_mono ho0 (fun k_ hk => (.inl hk)))
 have HK := Aside0.mk (Kept.refl w (fun k_ => P0_ k_))
 have HW0 := Aside0.mk hB.size
 have HB := Aside0.mk hB
 clear hB
 have H := h
 clear h
 unfold natural_multiplyAdd.f at H
 have H' := Aside0.mk H
 clear H
 obtain ⟨Ao4, co4, eo4⟩ := Kd.R_slice HO0.out
 subst eo4
 go_enter Tryd.func95, Tryd.ntmps95
 go_wp2
 go_loopg [7, 14] k (fun kq v7 v14 w' => ∃ (x0_1 : List Int) (x7_1 : Int) (x14_1 : Int), v7 = .int .u64 x7_1 ∧ v14 = .int .i64 x14_1 ∧ Aside0 (natural_multiplyAdd.l0 kq x0_1 a1 x7_1 (l0.length : Int) x14_1 = some r) ∧ Aside0 (kq ≤ k) ∧ Aside0 (Kd.R (Kd.int .u32) 72 w' w0.heap.size (fun k_ => (P0_ k_ ∨ w.heap.size ≤ k_)) (.slice Ao4 l0.length co4) x0_1) ∧ Aside0 (Kept w w' (fun k_ => P0_ k_)) ∧ Aside0 (Below w0.heap.size w0 w'))
 case atStart => exact ⟨(l0), (IntKind.u64.wrap (a2)), (0), fs, fs, H', ⟨Nat.le_refl _⟩, ⟨vs HO0.out⟩, ⟨by repeat (first | (with_reducible first | exact HK.out | apply Kept.alloc | apply Kept.drewN | apply Kept.drew) | exact HK.out)⟩, ⟨bz HB.out⟩⟩
 case round =>
  clear H'
  obtain ⟨x0_1, x7_1, x14_1, rfl, rfl, HA, HK1, HO_0, HK, HB⟩ := hrel
  have hl0_1 := (Kd.R_reads' HO_0.out).1
  rw [hl0_1] at HO_0
  (try simp only [hl0_1])
  cases gk with
  | zero => exact absurd HA.out (by simp [natural_multiplyAdd.l0])
  | succ k1 =>
   have H := HA.out
   clear HA
   simp only [natural_multiplyAdd.l0] at H
   by_cases c5 : x14_1 < (l0.length : Int)
   ·rw [if_pos c5] at H
    have c5b0 : decide (x14_1 < (l0.length : Int)) = true := decide_eq_true c5
    (try (have c5b0_hl0_1 := c5b0; rw [hl0_1] at c5b0_hl0_1))
    clear c5
    obtain ⟨c6, H⟩ := iN H
    have c6b0 : decide (0 ≤ x14_1) = true := decide_eq_true c6
    clear c6
    obtain ⟨c7, H⟩ := iN H
    have c7b0 : decide (x14_1 < (x0_1.length : Int)) = true := decide_eq_true c7
    (try (have c7b0_hl0_1 := c7b0; rw [hl0_1] at c7b0_hl0_1))
    clear c7
    obtain ⟨y329, hy329⟩ : ∃ y_ : List Int, y_ = (x0_1.set (x14_1 : Int).toNat ((IntKind.u64.wrap ((IntKind.u64.wrap ((IntKind.u64.wrap (rd x0_1 x14_1)) * (IntKind.u64.wrap (a1)))) + x7_1)) % 4294967296)) := ⟨_, rfl⟩
    (try first | rw [← hy329] at H | (dsimp only at H; rw [← hy329] at H)); (try rw [Option.bind_some] at H)
    have Ny329 := Aside0.mk hy329
    clear hy329
    have H' := Aside0.mk H
    clear H
    have p328 : 0 ≤ (x14_1 : Int) := oa
    have q328 : x14_1 < (x0_1.length : Int) := oa
    obtain ⟨ad328, e328, hx328_0⟩ := Kd.at_int (Kd.R_reads' HO_0.out).2.2 x14_1 p328 q328
    cases e328
    replace p328 := eq_true p328
    replace q328 := eq_true q328
    have p8 : 0 ≤ (x14_1 : Int) := oa
    have q8 : (x14_1 : Int) < ((x0_1.length : Int) : Int) := oa
    obtain ⟨go8, co8, eo8, gb8, gl8, cl8, HG8⟩ := Kd.R_form HO_0.out (by omega)
    (first | cases eo8 | (injection eo8 with ea_ en_ ec_; (first | subst ea_ | (injection ea_ with ea_; subst ea_)); subst ec_; clear en_))
    have GB8 := Aside0.mk gb8
    have GG8 := Aside0.mk HG8
    clear gb8 gl8 HG8
    have HMgo8 := Aside0.mk (show (P0_ go8 ∨ w.heap.size ≤ go8) from (HO_0.out.1 _ rfl))
    (first | simp only [add_plain] at hx328_0 | skip)
    obtain ⟨hx8_0, hf8_0⟩ := Kd.R_celln 0 HO_0.out (x14_1 : Int) p8 q8
    replace p8 := eq_true p8
    replace q8 := eq_true q8
    have HP9 := Kd.R_putg HO_0.out (x14_1 : Int) ((IntKind.u64.wrap ((IntKind.u64.wrap ((IntKind.u64.wrap (rd x0_1 x14_1)) * (IntKind.u64.wrap (a1)))) + x7_1)) % 4294967296)
    go_wp2_with (first | ((with_reducible refine gate_store (t := 72) (p := 31) rfl ?_); refine se 72 31 (w1 := (wr.setCell ⟨go8, (x14_1 : Int).toNat, none⟩ (.int .u32 ((IntKind.u64.wrap ((IntKind.u64.wrap ((IntKind.u64.wrap (rd x0_1 x14_1)) * (IntKind.u64.wrap (a1)))) + x7_1)) % 4294967296)))) ?_; intro w10 hw; have hg : wr.grownBy w10 (some go8) := (by rw [hw]; exact HP9.2); have hp_ : Kd.R (Kd.int .u32) 72 w10 w0.heap.size (fun k_ => (P0_ k_ ∨ w.heap.size ≤ k_)) (.slice (some ⟨go8, 0, none⟩) x0_1.length co4) y329 := (by rw [hw, Ny329.out]; exact HP9.1); clear HP9; replace HB := Aside0.mk ((by rw [hw]; exact below_set (HB.out) GB8.out : Below w0.heap.size w0 w10)); replace HK := Aside0.mk (Kept.of_grown (S := (fun k_ => P0_ k_)) hg (by repeat (first | (with_reducible first | exact HK.out | apply Kept.alloc | apply Kept.drewN | apply Kept.drew) | exact HK.out)) (fun k_ e_ => (HO_0.out.1 k_ e_))); replace HO_0 := Aside0.mk (hp_); clear hg hw hp_))
    (try simp only [← hl0_1])
    go_roundg k1
    case measure => have := HK1.out; omega
    case rel => exact ⟨(y329), ((IntKind.u64.wrap ((IntKind.u64.wrap ((IntKind.u64.wrap (rd x0_1 x14_1)) * (IntKind.u64.wrap (a1)))) + x7_1)) / 4294967296), (wrap64 (x14_1 + 1)), fs, fs, H', ⟨by have := HK1.out; omega⟩, ⟨by (try simp only [hl0_1]); (with_reducible repeat (first | apply Kd.R_alloc | apply Kd.R_drewN | apply Kd.R_drew)); exact HO_0.out⟩, ⟨by repeat (first | (with_reducible first | exact HK.out | apply Kept.alloc | apply Kept.drewN | apply Kept.drew) | exact HK.out)⟩, ⟨bz HB.out⟩⟩
   ·rw [if_neg c5] at H
    have c5b0 : decide (x14_1 < (l0.length : Int)) = false := decide_eq_false c5
    (try (have c5b0_hl0_1 := c5b0; rw [hl0_1] at c5b0_hl0_1))
    clear c5
    by_cases c11 : x7_1 > 0
    ·rw [if_pos c11] at H
     have c11b0 : decide (0 < x7_1) = true := decide_eq_true c11
     clear c11
     obtain ⟨c12, H⟩ := iN H
     have LMc12 := Aside0.mk c12
     clear c12
     obtain ⟨y330, hy330⟩ : ∃ y_ : List Int, y_ = (x0_1 ++ [(x7_1) % 4294967296]) := ⟨_, rfl⟩
     (try first | rw [← hy330] at H | (dsimp only at H; rw [← hy330] at H)); (try rw [Option.bind_some] at H)
     have Ny330 := Aside0.mk hy330
     clear hy330
     obtain rfl := Option.some.inj H
     go_wp2_with (first | ((with_reducible refine gate_builtin (b := .append) (xs := #[.tmp 37, .tmp 40]) rfl ?_); at_builtin; refine Kd.R_append (Kd.int .u32) (w0 := w0) w0.heap.size rfl (.tmp 37) (.tmp 40) 65 72 (.int .u32 0) 4 rfl Tryd.underlying65 info72 rfl (by decide) (by omega) (.slice Ao4 x0_1.length co4) x0_1 ((x7_1) % 4294967296) [.int .u32 ((x7_1) % 4294967296)] (fun k_ => (P0_ k_ ∨ w.heap.size ≤ k_)) (fun _ => False) rfl rfl ?aP (fun _ hk => hk.elim) ?aF ?aO ?aB ?aS ?aL ?_; (case aP => exact rfl); (case aB => exact (bz HB.out)); (case aF => exact (fun k_ hk => (.inr (Nat.le_trans (by first | exact HK.out.1 | exact (show Kept w _ (fun k_ => P0_ k_) from by repeat (first | (with_reducible first | exact HK.out | apply Kept.alloc | apply Kept.drewN | apply Kept.drew) | exact HK.out)).1) hk)))); (case aO => exact (vs HO_0.out)); (case aS => exact (sz HB.out)); (case aL => have := LMc12.out; omega); intro v331 w13 ho hb hg hat; rw [← Ny330.out] at ho; replace HB := Aside0.mk (hb); replace HK := Aside0.mk (Kept.of_grown (S := (fun k_ => P0_ k_)) hg (by repeat (first | (with_reducible first | exact HK.out | apply Kept.alloc | apply Kept.drewN | apply Kept.drew) | exact HK.out)) (fun k_ e_ => (HO_0.out.1 k_ e_))); have HO332 := Aside0.mk (ho); clear HO_0; clear ho hb hg hat))
     go_ret
     exact ⟨_, fe, vs HO332.out, bz HB.out, by repeat (first | (with_reducible first | exact HK.out | apply Kept.alloc | apply Kept.drewN | apply Kept.drew) | exact HK.out)⟩
    ·rw [if_neg c11] at H
     have c11b0 : decide (0 < x7_1) = false := decide_eq_false c11
     clear c11
     obtain rfl := Option.some.inj H
     go_wp2
     go_ret
     exact ⟨_, fe, vs HO_0.out, bz HB.out, by repeat (first | (with_reducible first | exact HK.out | apply Kept.alloc | apply Kept.drewN | apply Kept.drew) | exact HK.out)⟩

/-! ### natural_Parse: function 67 -/
mutual
def natural_Parse.j0 : Nat → ByteArray → Bool → Option (ByteArray × Int)
 | 0, _, _ => none
 | k + 1, x0, x22 => if x22 = true then (some ((⟨#[]⟩ : ByteArray), 3)) else (if (x0.size : Int) > 2000 then (some ((⟨#[]⟩ : ByteArray), 2)) else (natural_Parse.l0 k x0 ([] : List Int) (x0.size : Int) 0))
def natural_Parse.l0 : Nat → ByteArray → List Int → Int → Int → Option (ByteArray × Int)
 | 0, _, _, _, _ => none
 | k + 1, x0, x4, x27, x28 => if x28 < x27 then (if 0 ≤ x28 then (if x28 < (x0.size : Int) then ((natural_multiplyAdd.f k x4 10 (((bt x0 x28) - 48) % 256)).bind fun t335 => (natural_Parse.l0 k x0 t335 x27 (wrap64 (x28 + 1)))) else (none)) else (none)) else ((natural_limbs_trim.f k x4).bind fun t338 => ((natural_limbs_text.f k t338).bind fun t341 => (some (t341, 0))))
end
def natural_Parse.f (k : Nat) (a0 : ByteArray) : Option (ByteArray × Int) := if a0.toList = ([] : List UInt8) then (natural_Parse.j0 k a0 true) else (if (a0.size : Int) > 1 then (if 0 < (a0.size : Int) then (if (bt a0 0) = 48 then (natural_Parse.j0 k a0 true) else ((strings_Trim.f a0 (⟨#[48, 49, 50, 51, 52, 53, 54, 55, 56, 57]⟩ : ByteArray)).bind fun t333 => (natural_Parse.j0 k a0 (t333.toList != ([] : List UInt8))))) else (none)) else ((strings_Trim.f a0 (⟨#[48, 49, 50, 51, 52, 53, 54, 55, 56, 57]⟩ : ByteArray)).bind fun t334 => (natural_Parse.j0 k a0 (t334.toList != ([] : List UInt8)))))
theorem natural_Parse.mono_l : ∀ k, (∀ y0 y1, LeO (natural_Parse.j0 k y0 y1) (natural_Parse.j0 (k + 1) y0 y1)) ∧ (∀ y0 y1 y2 y3, LeO (natural_Parse.l0 k y0 y1 y2 y3) (natural_Parse.l0 (k + 1) y0 y1 y2 y3))
 | 0 => ⟨fun _ _ r h => by simp [natural_Parse.j0] at h, fun _ _ _ _ r h => by simp [natural_Parse.l0] at h⟩
 | k + 1 => by
  obtain ⟨ih0, ih1⟩ := natural_Parse.mono_l k
  refine ⟨?_, ?_⟩
  ·intro y0 y1
   unfold natural_Parse.j0
   repeat' with_reducible first | exact ih0 _ _ | exact ih1 _ _ _ _ | exact natural_limbs_text.mono _ _ | exact natural_limbs_trim.mono _ _ | exact natural_multiplyAdd.mono _ _ _ _ | exact LeO.refl _ | exact LeO.none _ | refine LeO.ite ?_ ?_ | refine LeO.bind ?_ (fun _ => ?_)
  ·intro y0 y1 y2 y3
   unfold natural_Parse.l0
   repeat' with_reducible first | exact ih0 _ _ | exact ih1 _ _ _ _ | exact natural_limbs_text.mono _ _ | exact natural_limbs_trim.mono _ _ | exact natural_multiplyAdd.mono _ _ _ _ | exact LeO.refl _ | exact LeO.none _ | refine LeO.ite ?_ ?_ | refine LeO.bind ?_ (fun _ => ?_)
theorem natural_Parse.mono : ∀ a0 k, LeO (natural_Parse.f k a0) (natural_Parse.f (k + 1) a0) := by
 intro a0 k
 obtain ⟨ih0, ih1⟩ := natural_Parse.mono_l k
 unfold natural_Parse.f
 repeat' with_reducible first | exact ih0 _ _ | exact ih1 _ _ _ _ | exact natural_limbs_text.mono _ _ | exact natural_limbs_trim.mono _ _ | exact natural_multiplyAdd.mono _ _ _ _ | exact LeO.refl _ | exact LeO.none _ | refine LeO.ite ?_ ?_ | refine LeO.bind ?_ (fun _ => ?_)
set_option maxHeartbeats 8000000 in
set_option maxRecDepth 100000 in
theorem natural_Parse.calls (k : Nat) (a0 : ByteArray) (r1 : ByteArray) (r2 : Int) (w : World) (h : natural_Parse.f k a0 = some (r1, r2)) :
  Calls Tryd.prog 67 #[.string a0] w fun e w' => e = .returned (.tuple #[.string r1, .int .i64 r2]) ∧ Below w.heap.size w w' := by
 have HB := Aside0.mk (Below.refl w.heap.size w)
 have H := h
 clear h
 unfold natural_Parse.f at H
 have HC2 := Aside0.mk H
 clear H
 go_enter Tryd.func67, Tryd.ntmps67
 (try (simp only [Exit.then]; refine (by assumption : ∀ (a : Act) (w : World), Code.wp _ _ _ a w → _) _ _ ?_))
 go_upto_region 1 with (fail)
 go_cut [22] (fun v22 wc => ∃ (kq : Nat) (x22_1 : Bool), v22 = .bool x22_1 ∧ Aside0 (natural_Parse.j0 kq a0 x22_1 = some (r1, r2)) ∧ Aside0 (kq ≤ k) ∧ Aside0 (Below w.heap.size w wc))
 case first =>
  have H := HC2.out
  clear HC2
  by_cases c3 : a0.toList = ([] : List UInt8)
  ·rw [if_pos c3] at H
   have c3b0 := beq_iff_eq.mpr c3
   have c3b1 := bne_eq_false_iff_eq.mpr c3
   clear c3
   (first | rw [c3b0] | (simp only [i64_w, i32_w]; rw [c3b0]) | skip)
   have H' := Aside0.mk H
   clear H
   go_wp2
   go_meet
   case rel => exact ⟨_, (true), fs, H', ⟨by first | omega | exact Nat.le_refl _⟩, ⟨bz HB.out⟩⟩
  ·rw [if_neg c3] at H
   have c3b0 := beq_eq_false_iff_ne.mpr c3
   have c3b1 := bne_iff_ne.mpr c3
   (first | rw [c3b0] | (simp only [i64_w, i32_w]; rw [c3b0]) | skip)
   by_cases c4 : (a0.size : Int) > 1
   ·rw [if_pos c4] at H
    have c4b0 : decide (1 < (a0.size : Int)) = true := decide_eq_true c4
    have c4b1 : decide (1 < a0.size) = true := decide_eq_true (by omega)
    clear c4
    obtain ⟨c5, H⟩ := iN H
    have c5b0 : decide (0 < (a0.size : Int)) = true := decide_eq_true c5
    have c5b1 : decide (0 < a0.size) = true := decide_eq_true (by omega)
    clear c5
    by_cases c7 : (bt a0 0) = 48
    ·rw [if_pos c7] at H
     have c7b0 := beq_iff_eq.mpr c7
     have c7b1 := bne_eq_false_iff_eq.mpr c7
     clear c7
     have H' := Aside0.mk H
     clear H
     have p6 : 0 ≤ (0 : Int) := (by omega)
     have q6 : 0 < a0.size := (by have : (0 : Int) < (a0.size : Int) := oa; omega)
     have hx6 : ∀ h : 0 < a0.size, ((a0[0]'h).toNat : Int) = bt a0 0 := bt_at a0 0
     clear p6
     have qi6 : (0 < (a0.size : Int)) = True := eq_true oa
     replace q6 := eq_true q6
     go_wp2
     go_meet
     case rel => exact ⟨_, (true), fs, H', ⟨by first | omega | exact Nat.le_refl _⟩, ⟨bz HB.out⟩⟩
    ·rw [if_neg c7] at H
     have c7b0 := beq_eq_false_iff_ne.mpr c7
     have c7b1 := bne_iff_ne.mpr c7
     obtain ⟨t333, A8, H⟩ := bs1 H
     have H' := Aside0.mk H
     clear H
     have p6 : 0 ≤ (0 : Int) := (by omega)
     have q6 : 0 < a0.size := (by have : (0 : Int) < (a0.size : Int) := oa; omega)
     have hx6 : ∀ h : 0 < a0.size, ((a0[0]'h).toNat : Int) = bt a0 0 := bt_at a0 0
     clear p6
     have qi6 : (0 < (a0.size : Int)) = True := eq_true oa
     replace q6 := eq_true q6
     go_wp2_with (first | (go_at_call 94; (with_reducible refine (strings_Trim.calls a0 (⟨#[48, 49, 50, 51, 52, 53, 54, 55, 56, 57]⟩ : ByteArray) t333 _ A8.out).mono ?_); rintro e w9 ⟨rfl, hb⟩; replace HB := Aside0.mk (bs HB.out hb); (try clear hb)))
     go_meet
     case rel => exact ⟨_, ((t333.toList != ([] : List UInt8))), fs, H', ⟨by first | omega | exact Nat.le_refl _⟩, ⟨bz HB.out⟩⟩
   ·rw [if_neg c4] at H
    have c4b0 : decide (1 < (a0.size : Int)) = false := decide_eq_false c4
    have c4b1 : decide (1 < a0.size) = false := decide_eq_false (by omega)
    clear c4
    obtain ⟨t334, A10, H⟩ := bs1 H
    have H' := Aside0.mk H
    clear H
    go_wp2_with (first | (go_at_call 94; (with_reducible refine (strings_Trim.calls a0 (⟨#[48, 49, 50, 51, 52, 53, 54, 55, 56, 57]⟩ : ByteArray) t334 _ A10.out).mono ?_); rintro e w11 ⟨rfl, hb⟩; replace HB := Aside0.mk (bs HB.out hb); (try clear hb)))
    go_meet
    case rel => exact ⟨_, ((t334.toList != ([] : List UInt8))), fs, H', ⟨by first | omega | exact Nat.le_refl _⟩, ⟨bz HB.out⟩⟩
 case rest =>
  clear HC2
  (try clear c3b0); (try clear c3b1); (try clear c4b0); (try clear c4b1); (try clear c5b0); (try clear c5b1); (try clear q6); (try clear hx6); (try clear qi6); (try clear c7b0); (try clear c7b1); (try clear q6)
  obtain ⟨kq, x22_1, rfl, HA, HJ1, HB⟩ := hcut
  cases kq with
  | zero => exact absurd HA.out (by simp [natural_Parse.j0])
  | succ kj1 =>
   have H := HA.out
   clear HA
   simp only [natural_Parse.j0] at H
   by_cases c12 : x22_1 = true
   ·subst c12
    have H1 : (some ((⟨#[]⟩ : ByteArray), 3)) = some (r1, r2) := by rw [if_pos rfl] at H; exact H
    clear H
    have H := H1
    clear H1
    simp only [Option.some.injEq, Prod.mk.injEq] at H
    obtain ⟨rfl, rfl⟩ := H
    go_wp2
    go_ret2
    exact ⟨fe, bz HB.out⟩
   ·replace c12 := Bool.eq_false_iff.mpr c12
    subst c12
    have H1 : (if (a0.size : Int) > 2000 then (some ((⟨#[]⟩ : ByteArray), 2)) else (natural_Parse.l0 kj1 a0 ([] : List Int) (a0.size : Int) 0)) = some (r1, r2) := by rw [if_neg (show ¬ (false = true) by decide)] at H; exact H
    clear H
    have H := H1
    clear H1
    by_cases c13 : (a0.size : Int) > 2000
    ·rw [if_pos c13] at H
     have c13b0 : decide (2000 < (a0.size : Int)) = true := decide_eq_true c13
     have c13b1 : decide (2000 < a0.size) = true := decide_eq_true (by omega)
     clear c13
     simp only [Option.some.injEq, Prod.mk.injEq] at H
     obtain ⟨rfl, rfl⟩ := H
     go_wp2
     go_ret2
     exact ⟨fe, bz HB.out⟩
    ·rw [if_neg c13] at H
     have c13b0 : decide (2000 < (a0.size : Int)) = false := decide_eq_false c13
     have c13b1 : decide (2000 < a0.size) = false := decide_eq_false (by omega)
     clear c13
     have H' := Aside0.mk H
     clear H
     go_wp2
     go_loopg [4, 28] kj1 (fun kq v4 v28 w' => ∃ (x4_2 : List Int) (x28_2 : Int), v28 = .int .i64 x28_2 ∧ Aside0 (natural_Parse.l0 kq a0 x4_2 (a0.size : Int) x28_2 = some (r1, r2)) ∧ Aside0 (kq ≤ kj1) ∧ Aside0 (Kd.R (Kd.int .u32) 72 w' w.heap.size (fun _ => True) v4 x4_2) ∧ Aside0 (Below w.heap.size w w'))
     case atStart => exact ⟨(([] : List Int)), (0), fs, H', ⟨Nat.le_refl _⟩, ⟨by first | exact Kd.R_nil _ _ _ _ _ | exact Kd.N_nil _ _ _ _ _ | exact Kd.V_nil _ _ _ _ _ | exact Kd.Q_nil _ _ _ _ _ | exact Kd.S_nil _ _ _ _ _⟩, ⟨bz HB.out⟩⟩
     case round =>
      clear H'
      (try clear c3b0); (try clear c3b1); (try clear c4b0); (try clear c4b1); (try clear c5b0); (try clear c5b1); (try clear q6); (try clear hx6); (try clear qi6); (try clear c7b0); (try clear c7b1); (try clear c12); (try clear c13b0); (try clear c13b1); (try clear q6)
      obtain ⟨x4_2, x28_2, rfl, HA, HK2, HO_4, HB⟩ := hrel
      cases gk with
      | zero => exact absurd HA.out (by simp [natural_Parse.l0])
      | succ k2 =>
       have H := HA.out
       clear HA
       simp only [natural_Parse.l0] at H
       by_cases c14 : x28_2 < (a0.size : Int)
       ·rw [if_pos c14] at H
        have c14b0 : decide (x28_2 < (a0.size : Int)) = true := decide_eq_true c14
        clear c14
        obtain ⟨c15, H⟩ := iN H
        have c15b0 : decide (0 ≤ x28_2) = true := decide_eq_true c15
        clear c15
        obtain ⟨c16, H⟩ := iN H
        have c16b0 : decide (x28_2 < (a0.size : Int)) = true := decide_eq_true c16
        clear c16
        obtain ⟨t335, A18, H⟩ := bs1 H
        have H' := Aside0.mk H
        clear H
        have p17 : 0 ≤ (x28_2 : Int) := oa
        have q17 : x28_2 < (a0.size : Int) := oa
        have hx17 := bt_at a0 x28_2
        replace p17 := eq_true p17
        replace q17 := eq_true q17
        obtain ⟨Ao19, co19, eo19⟩ := Kd.R_slice HO_4.out
        subst eo19
        go_wp2_with (first | ((with_reducible refine gc 95 rfl ?_); refine gl (some 37) Tryd.func95 #[.slice Ao19 x4_2.length co19, .int .u32 10, .int .u32 (((bt a0 x28_2) - 48) % 256)] ?_; (with_reducible refine (natural_multiplyAdd.calls k2 (fun k_ => some k_ = (.slice Ao19 x4_2.length co19 : Value).ownBlock) (.slice Ao19 x4_2.length co19) x4_2 10 (((bt a0 x28_2) - 48) % 256) t335 w _ ?side1 ?side2 A18.out).mono ?_); (case side1 => repeat (first | (with_reducible first | exact HB.out | apply below_alloc | apply pw_below_drewN | apply below_drew1) | exact HB.out)); (case side2 => exact Kd.R_tight rfl HO_4.out); rintro e w20 ⟨v336, rfl, ho0, hb, hkp⟩; refine ⟨_, rfl, ?_⟩; have HO337 := Aside0.mk (Kd.R_mono (ok' := fun k_ => True) ho0 (fun k_ hk_ => trivial)); replace HB := Aside0.mk (hb); clear HO_4; (try clear hb hkp ho0)))
        go_roundg k2
        case measure => have := HJ1.out; have := HK2.out; omega
        case rel => exact ⟨(t335), (wrap64 (x28_2 + 1)), fs, H', ⟨by have := HJ1.out; have := HK2.out; omega⟩, ⟨vs HO337.out⟩, ⟨bz HB.out⟩⟩
       ·rw [if_neg c14] at H
        have c14b0 : decide (x28_2 < (a0.size : Int)) = false := decide_eq_false c14
        clear c14
        obtain ⟨t338, A21, H⟩ := bs1 H
        obtain ⟨t341, A22, H⟩ := bs1 H
        simp only [Option.some.injEq, Prod.mk.injEq] at H
        obtain ⟨rfl, rfl⟩ := H
        obtain ⟨Ao23, co23, eo23⟩ := Kd.R_slice HO_4.out
        subst eo23
        go_wp2_with (first | ((with_reducible refine gc 80 rfl ?_); refine gl (some 40) Tryd.func80 #[.slice Ao23 x4_2.length co23] ?_; (with_reducible refine (natural_limbs_trim.calls k2 (fun k_ => some k_ = (.slice Ao23 x4_2.length co23 : Value).ownBlock) _ _ x4_2 t338 _ ?side1 A21.out).mono ?_); (case side1 => exact Kd.R_V (Kd.R_tight rfl (HO_4.out))); rintro e w24 ⟨v339, rfl, ho0, hb⟩; refine ⟨_, rfl, ?_⟩; replace HO_4 := Aside0.mk (rb HO_4.out hb); have HO340 := Aside0.mk (Kd.V_lower (Kd.V_mono (ok' := fun k_ => True) ho0 (fun k_ hk_ => trivial)) (sz HB.out)); replace HB := Aside0.mk (bs HB.out hb); (try clear hb ho0); obtain ⟨Ao25, co25, rfl⟩ := Kd.V_slice HO340.out) | ((with_reducible refine gc 56 rfl ?_); refine gl (some 41) Tryd.func56 #[.slice Ao25 t338.length co25] ?_; (with_reducible refine (natural_limbs_text.calls k2 _ _ t338 t341 _ ?side1 ?side2 A22.out).mono ?_); (case side1 => exact vs (Kd.V_reads' HO340.out).2.2); (case side2 => exact (Kd.V_reads' HO340.out).2.1); rintro e w26 ⟨rfl, hb⟩; refine ⟨_, rfl, ?_⟩; replace HO_4 := Aside0.mk (rb HO_4.out hb); replace HO340 := Aside0.mk (vb HO340.out hb); replace HB := Aside0.mk (bs HB.out hb); (try clear hb)))
        go_ret2
        exact ⟨fe, bz HB.out⟩

/-! ### rational_digits: function 49 -/
def rational_digits.f (k : Nat) (a0 : ByteArray) : Option (ByteArray) := (strings_TrimLeft.f k a0 (⟨#[48]⟩ : ByteArray)).bind fun t342 => (if t342.toList = ([] : List UInt8) then (some (⟨#[]⟩ : ByteArray)) else ((natural_Parse.f k t342).bind fun bt343 => (some bt343.1)))
theorem rational_digits.mono : ∀ a0 k, LeO (rational_digits.f k a0) (rational_digits.f (k + 1) a0) := by
 intro a0 k
 unfold rational_digits.f
 repeat' with_reducible first | exact natural_Parse.mono _ _ | exact strings_TrimLeft.mono _ _ _ | exact LeO.refl _ | exact LeO.none _ | refine LeO.ite ?_ ?_ | refine LeO.bind ?_ (fun _ => ?_)
set_option maxHeartbeats 8000000 in
set_option maxRecDepth 100000 in
theorem rational_digits.calls (k : Nat) (a0 : ByteArray) (r : ByteArray) (w : World) (h : rational_digits.f k a0 = some r) :
  Calls Tryd.prog 49 #[.string a0] w fun e w' => e = .returned (.string r) ∧ Below w.heap.size w w' := by
 have HB := Aside0.mk (Below.refl w.heap.size w)
 have H := h
 clear h
 unfold rational_digits.f at H
 obtain ⟨t342, A2, H⟩ := bs1 H
 by_cases c3 : t342.toList = ([] : List UInt8)
 ·rw [if_pos c3] at H
  have c3b0 := beq_iff_eq.mpr c3
  have c3b1 := bne_eq_false_iff_eq.mpr c3
  clear c3
  obtain rfl := Option.some.inj H
  go_enter Tryd.func49, Tryd.ntmps49
  go_wp2_with (first | ((with_reducible refine gc 53 rfl ?_); refine gl (some 6) Tryd.func53 #[.string a0, .string (⟨#[48]⟩ : ByteArray)] ?_; (with_reducible refine (strings_TrimLeft.calls k a0 (⟨#[48]⟩ : ByteArray) t342 _ A2.out).mono ?_); rintro e w4 ⟨rfl, hb⟩; refine ⟨_, rfl, ?_⟩; replace HB := Aside0.mk (bs HB.out hb); (try clear hb)))
  go_ret
  exact ⟨fe, bz HB.out⟩
 ·rw [if_neg c3] at H
  have c3b0 := beq_eq_false_iff_ne.mpr c3
  have c3b1 := bne_iff_ne.mpr c3
  obtain ⟨⟨t343, t344⟩, A5, H⟩ := bs1 H; dsimp only at H
  obtain rfl := Option.some.inj H
  go_enter Tryd.func49, Tryd.ntmps49
  go_wp2_with (first | ((with_reducible refine gc 53 rfl ?_); refine gl (some 6) Tryd.func53 #[.string a0, .string (⟨#[48]⟩ : ByteArray)] ?_; (with_reducible refine (strings_TrimLeft.calls k a0 (⟨#[48]⟩ : ByteArray) t342 _ A2.out).mono ?_); rintro e w6 ⟨rfl, hb⟩; refine ⟨_, rfl, ?_⟩; replace HB := Aside0.mk (bs HB.out hb); (try clear hb)) | ((with_reducible refine gc 67 rfl ?_); refine gl (some 11) Tryd.func67 #[.string t342] ?_; (with_reducible refine (natural_Parse.calls k t342 t343 t344 _ A5.out).mono ?_); rintro e w7 ⟨rfl, hb⟩; refine ⟨_, rfl, ?_⟩; replace HB := Aside0.mk (bs HB.out hb); (try clear hb)))
  go_ret
  exact ⟨fe, bz HB.out⟩
end Go.Proofs.YtgepdnoaemeofaaDoor.M
