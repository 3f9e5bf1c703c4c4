/- Printed by a program of this session (wip/tools) out of the translation: plain functions and the proofs that the code comes to their answers. -/
import Derived.Test.YtgepdnoaemeofaaGreatDoorXRationalDecimal3
namespace Go.Proofs.YtgepdnoaemeofaaGreatDoor.A
open Go.RowKit Go.Proofs.YtgepdnoaemeofaaGreatDoorW.PrintWords Go.Proofs.YtgepdnoaemeofaaGreatDoorW.PrintLast Go.Proofs.YtgepdnoaemeofaaGreatDoorW.PrintMore Go.Proofs.YtgepdnoaemeofaaGreatDoorW.PK
attribute [local go_sem] max2_int min2_int max_two min_two max_three min_three max_four min_four   -- for this text's walks alone
set_option linter.unusedVariables false
set_option linter.unusedSimpArgs false

/-! ### insolvencyref1_order: function 127 -/
def insolvencyref1_order.l0 : Nat → List Int → List Int → Int → Option (Int)
 | 0, _, _, _ => none
 | k + 1, x0, x1, x5 => if x5 ≥ 0 then (if 0 ≤ x5 then (if x5 < (x0.length : Int) then (if x5 < (x1.length : Int) then (if (rd x0 x5) = (rd x1 x5) then (insolvencyref1_order.l0 k x0 x1 (wrap64 (x5 - 1))) else (if (rd x0 x5) < (rd x1 x5) then (some (-1)) else (some 1))) else (none)) else (none)) else (none)) else (some 0)
def insolvencyref1_order.f (k : Nat) (l0 : List Int) (l1 : List Int) : Option (Int) := if (l0.length : Int) = (l1.length : Int) then (insolvencyref1_order.l0 k l0 l1 (wrap64 ((l0.length : Int) - 1))) else (if (l0.length : Int) < (l1.length : Int) then (some (-1)) else (some 1))
set_option maxHeartbeats 8000000 in
set_option maxRecDepth 100000 in
theorem insolvencyref1_order.calls (k : Nat) (A0 : Option Addr) (c0 : Nat) (l0 : List Int) (A1 : Option Addr) (c1 : Nat) (l1 : List Int) (r : Int) (w : World) (hr0 : Kd.C (Kd.int .u32) w A0 l0.length l0) (hc0 : l0.length ≤ c0) (hr1 : Kd.C (Kd.int .u32) w A1 l1.length l1) (hc1 : l1.length ≤ c1) (h : insolvencyref1_order.f k l0 l1 = some r) :
  Calls Tryz.prog 127 #[.slice A0 l0.length c0, .slice A1 l1.length c1] w fun e w' => e = .returned (.int .i64 r) ∧ Drawn0 w w' := by
 have HR0 := Aside0.mk hr0
 have HC0 := Aside0.mk hc0
 clear hr0 hc0
 have HR1 := Aside0.mk hr1
 have HC1 := Aside0.mk hc1
 clear hr1 hc1
 have H := h
 clear h
 unfold insolvencyref1_order.f at H
 by_cases c3 : (l0.length : Int) = (l1.length : Int)
 ·rw [if_pos c3] at H
  have c3b0 := beq_iff_eq.mpr c3
  have c3b1 := bne_eq_false_iff_eq.mpr c3
  have c3b2 : (l0.length == l1.length) = true := by first | simpa using c3 | (simp at c3 ⊢; omega)
  clear c3
  have H' := Aside0.mk H
  clear H
  go_enter Tryz.func127, Tryz.ntmps127
  go_wp2
  repeat (go_quiet (fail); try go_wp2)
  go_loopg [5] k (fun kq v5 w' => ∃ (x5_1 : Int), v5 = .int .i64 x5_1 ∧ Aside0 (insolvencyref1_order.l0 kq l0 l1 x5_1 = some r) ∧ Aside0 (kq ≤ k) ∧ Drawn0 w w')
  case atStart => exact ⟨(wrap64 ((l0.length : Int) - 1)), fs, H', ⟨Nat.le_refl _⟩, dz⟩
  case round =>
   clear H'
   (try clear c1); (try clear c3b0); (try clear c3b1); (try clear c3b2)
   obtain ⟨x5_1, rfl, HA, HK1, ⟨m1, rfl⟩⟩ := hrel
   cases gk with
   | zero => exact absurd HA.out (by simp [insolvencyref1_order.l0])
   | succ k1 =>
    have H := HA.out
    clear HA
    simp only [insolvencyref1_order.l0] at H
    by_cases c4 : x5_1 ≥ 0
    ·rw [if_pos c4] at H
     have c4b0 : decide (0 ≤ x5_1) = true := decide_eq_true c4
     clear c4
     obtain ⟨c5, H⟩ := iN H
     have c5b0 : decide (0 ≤ x5_1) = true := decide_eq_true c5
     clear c5
     obtain ⟨c6, H⟩ := iN H
     have c6b0 : decide (x5_1 < (l0.length : Int)) = true := decide_eq_true c6
     clear c6
     obtain ⟨c7, H⟩ := iN H
     have c7b0 : decide (x5_1 < (l1.length : Int)) = true := decide_eq_true c7
     clear c7
     by_cases c8 : (rd l0 x5_1) = (rd l1 x5_1)
     ·rw [if_pos c8] at H
      have c8b0 := beq_iff_eq.mpr c8
      have c8b1 := bne_eq_false_iff_eq.mpr c8
      clear c8
      have H' := Aside0.mk H
      clear H
      have p480 : 0 ≤ (x5_1 : Int) := oa
      have q480 : x5_1 < (l0.length : Int) := oa
      obtain ⟨ad480, e480, hx480_0⟩ := Kd.at_int HR0.out x5_1 p480 q480
      cases e480
      replace p480 := eq_true p480
      replace q480 := eq_true q480
      have p481 : 0 ≤ (x5_1 : Int) := oa
      have q481 : x5_1 < (l1.length : Int) := oa
      obtain ⟨ad481, e481, hx481_0⟩ := Kd.at_int HR1.out x5_1 p481 q481
      cases e481
      replace p481 := eq_true p481
      replace q481 := eq_true q481
      go_wp2
      repeat (go_quiet (fail); try go_wp2)
      go_roundg k1
      case measure => have := HK1.out; omega
      case rel => exact ⟨(wrap64 (x5_1 - 1)), fs, H', ⟨by have := HK1.out; omega⟩, dz⟩
     ·rw [if_neg c8] at H
      have c8b0 := beq_eq_false_iff_ne.mpr c8
      have c8b1 := bne_iff_ne.mpr c8
      by_cases c9 : (rd l0 x5_1) < (rd l1 x5_1)
      ·rw [if_pos c9] at H
       have c9b0 : decide ((rd l0 x5_1) < (rd l1 x5_1)) = true := decide_eq_true c9
       clear c9
       obtain rfl := Option.some.inj H
       have p480 : 0 ≤ (x5_1 : Int) := oa
       have q480 : x5_1 < (l0.length : Int) := oa
       obtain ⟨ad480, e480, hx480_0⟩ := Kd.at_int HR0.out x5_1 p480 q480
       cases e480
       replace p480 := eq_true p480
       replace q480 := eq_true q480
       have p481 : 0 ≤ (x5_1 : Int) := oa
       have q481 : x5_1 < (l1.length : Int) := oa
       obtain ⟨ad481, e481, hx481_0⟩ := Kd.at_int HR1.out x5_1 p481 q481
       cases e481
       replace p481 := eq_true p481
       replace q481 := eq_true q481
       have p482 : 0 ≤ (x5_1 : Int) := oa
       have q482 : x5_1 < (l0.length : Int) := oa
       obtain ⟨ad482, e482, hx482_0⟩ := Kd.at_int HR0.out x5_1 p482 q482
       obtain rfl : ad480 = ad482 := (by injection e482)
       replace p482 := eq_true p482
       replace q482 := eq_true q482
       have p483 : 0 ≤ (x5_1 : Int) := oa
       have q483 : x5_1 < (l1.length : Int) := oa
       obtain ⟨ad483, e483, hx483_0⟩ := Kd.at_int HR1.out x5_1 p483 q483
       obtain rfl : ad481 = ad483 := (by injection e483)
       replace p483 := eq_true p483
       replace q483 := eq_true q483
       go_wp2
       repeat (go_quiet (fail); try go_wp2)
       go_ret
       exact ⟨fs, dz⟩
      ·rw [if_neg c9] at H
       have c9b0 : decide ((rd l0 x5_1) < (rd l1 x5_1)) = false := decide_eq_false c9
       clear c9
       obtain rfl := Option.some.inj H
       have p480 : 0 ≤ (x5_1 : Int) := oa
       have q480 : x5_1 < (l0.length : Int) := oa
       obtain ⟨ad480, e480, hx480_0⟩ := Kd.at_int HR0.out x5_1 p480 q480
       cases e480
       replace p480 := eq_true p480
       replace q480 := eq_true q480
       have p481 : 0 ≤ (x5_1 : Int) := oa
       have q481 : x5_1 < (l1.length : Int) := oa
       obtain ⟨ad481, e481, hx481_0⟩ := Kd.at_int HR1.out x5_1 p481 q481
       cases e481
       replace p481 := eq_true p481
       replace q481 := eq_true q481
       have p482 : 0 ≤ (x5_1 : Int) := oa
       have q482 : x5_1 < (l0.length : Int) := oa
       obtain ⟨ad482, e482, hx482_0⟩ := Kd.at_int HR0.out x5_1 p482 q482
       obtain rfl : ad480 = ad482 := (by injection e482)
       replace p482 := eq_true p482
       replace q482 := eq_true q482
       have p483 : 0 ≤ (x5_1 : Int) := oa
       have q483 : x5_1 < (l1.length : Int) := oa
       obtain ⟨ad483, e483, hx483_0⟩ := Kd.at_int HR1.out x5_1 p483 q483
       obtain rfl : ad481 = ad483 := (by injection e483)
       replace p483 := eq_true p483
       replace q483 := eq_true q483
       go_wp2
       repeat (go_quiet (fail); try go_wp2)
       go_ret
       exact ⟨fs, dz⟩
    ·rw [if_neg c4] at H
     have c4b0 : decide (0 ≤ x5_1) = false := decide_eq_false c4
     clear c4
     obtain rfl := Option.some.inj H
     go_wp2
     repeat (go_quiet (fail); try go_wp2)
     go_ret
     exact ⟨fs, dz⟩
 ·rw [if_neg c3] at H
  have c3b0 := beq_eq_false_iff_ne.mpr c3
  have c3b1 := bne_iff_ne.mpr c3
  have c3b2 : (l0.length == l1.length) = false := by first | simpa using c3 | (simp at c3 ⊢; omega)
  by_cases c10 : (l0.length : Int) < (l1.length : Int)
  ·rw [if_pos c10] at H
   have c10b0 : decide ((l0.length : Int) < (l1.length : Int)) = true := decide_eq_true c10
   have c10b1 : decide (l0.length < l1.length) = true := decide_eq_true (Int.ofNat_lt.mp c10)
   clear c10
   obtain rfl := Option.some.inj H
   go_enter Tryz.func127, Tryz.ntmps127
   go_wp2
   repeat (go_quiet (fail); try go_wp2)
   go_ret
   exact ⟨fs, dz⟩
  ·rw [if_neg c10] at H
   have c10b0 : decide ((l0.length : Int) < (l1.length : Int)) = false := decide_eq_false c10
   have c10b1 : decide (l0.length < l1.length) = false := decide_eq_false (fun h => c10 (Int.ofNat_lt.mpr h))
   clear c10
   obtain rfl := Option.some.inj H
   go_enter Tryz.func127, Tryz.ntmps127
   go_wp2
   repeat (go_quiet (fail); try go_wp2)
   go_ret
   exact ⟨fs, dz⟩

/-! ### insolvencyref1_short: function 128 -/
def insolvencyref1_short.l0 : Nat → List Int → Int → List Int → Int → Int → Option (List Int × Int)
 | 0, _, _, _, _, _ => none
 | k + 1, x0, x1, x6, x7, x8 => if x8 ≥ 0 then (if 0 ≤ x8 then (if x8 < (x0.length : Int) then (if (IntKind.u64.wrap (x1)) = 0 then (none) else (if x8 < (x6.length : Int) then (insolvencyref1_short.l0 k x0 x1 (x6.set (x8 : Int).toNat ((IntKind.u64.wrap (Int.tdiv (Go.bits .or .u64 (IntKind.u64.wrap (x7 * 4294967296)) (IntKind.u64.wrap (rd x0 x8))) (IntKind.u64.wrap (x1)))) % 4294967296)) (Int.tmod (Go.bits .or .u64 (IntKind.u64.wrap (x7 * 4294967296)) (IntKind.u64.wrap (rd x0 x8))) (IntKind.u64.wrap (x1))) (wrap64 (x8 - 1))) else (none))) else (none)) else (none)) else ((insolvencyref1_strip.f k x6).bind fun t489 => (some (t489, (x7) % 4294967296)))
def insolvencyref1_short.f (k : Nat) (l0 : List Int) (a1 : Int) : Option (List Int × Int) := if 0 ≤ (l0.length : Int) then (if ((l0.length : Int) : Int).toNat ≤ 70368744177664 then (insolvencyref1_short.l0 k l0 a1 (List.replicate ((l0.length : Int) : Int).toNat 0) 0 (wrap64 ((l0.length : Int) - 1))) else (none)) else (none)
set_option maxHeartbeats 8000000 in
set_option maxRecDepth 100000 in
theorem insolvencyref1_short.calls (k : Nat) (A0 : Option Addr) (c0 : Nat) (l0 : List Int) (a1 : Int) (r1 : List Int) (r2 : Int) (w : World) (hr0 : Kd.C (Kd.int .u32) w A0 l0.length l0) (hc0 : l0.length ≤ c0) (h : insolvencyref1_short.f k l0 a1 = some (r1, r2)) :
  Calls Tryz.prog 128 #[.slice A0 l0.length c0, .int .u32 a1] w fun e w' => ∃ v0_ : Value, e = .returned (.tuple #[v0_, .int .u32 r2]) ∧ Kd.V (Kd.int .u32) 52 w' w.heap.size (fun k_ => (w.heap.size ≤ k_)) v0_ r1 ∧ Below w.heap.size w w' := by
 have HR0 := Aside0.mk hr0
 have HC0 := Aside0.mk hc0
 clear hr0 hc0
 have HB := Aside0.mk (Below.refl w.heap.size w)
 have H := h
 clear h
 unfold insolvencyref1_short.f at H
 obtain ⟨c3, H⟩ := iN H
 have c3b0 := eq_true c3
 have c3b1 : decide (0 ≤ (l0.length : Int)) = true := decide_eq_true c3
 clear c3
 obtain ⟨c4, H⟩ := iN H
 have c4b0 := eq_true c4
 have c4b1 : decide (((l0.length : Int) : Int).toNat ≤ 70368744177664) = true := decide_eq_true c4
 clear c4
 obtain ⟨y484, hy484⟩ : ∃ y_ : List Int, y_ = (List.replicate ((l0.length : Int) : Int).toNat 0) := ⟨_, rfl⟩
 (try first | rw [← hy484] at H | (dsimp only at H; rw [← hy484] at H)); (try rw [Option.bind_some] at H)
 have Ny484 := Aside0.mk hy484
 clear hy484
 have H' := Aside0.mk H
 clear H
 go_enter Tryz.func128, Tryz.ntmps128
 go_wp2_with (first | ((with_reducible refine gd 11 rfl ?_); refine Kd.R_make (Kd.int .u32) _ 52 rfl (N := 11) rfl 71 _ _ rfl (l0.length : Int) rfl rfl Tryz.underlying71 (.int .u32 0) 4 info52 rfl (by decide) (by omega) 0 (ok := fun _ => True) (okp := fun _ => True) rfl (fun _ hk => hk) trivial oa (Nat.le_trans (Nat.mul_le_mul_right _ (oa : (l0.length : Int).toNat ≤ 70368744177664)) (by omega)) (Below.refl _ _) (Nat.le_refl _) ?_; intro v485 w5 ho6 hb hg_ hnew_; clear hg_ hnew_; (first | rw [← Ny484.out] at ho6 | (simp only [Int.reduceToNat] at ho6; rw [← Ny484.out] at ho6)); have HO486 := Aside0.mk (Kd.R_lower (Kd.R_newM (M := fun k_ => (w.heap.size ≤ k_)) ho6 (sz HB.out) (fun k_ h_ => h_)) (sz HB.out)); replace HB := Aside0.mk (bs HB.out hb); clear hb ho6))
 go_loopg [7, 8] k (fun kq v7 v8 w' => ∃ (x6_1 : List Int) (x7_1 : Int) (x8_1 : Int), v7 = .int .u64 x7_1 ∧ v8 = .int .i64 x8_1 ∧ Aside0 (insolvencyref1_short.l0 kq l0 a1 x6_1 x7_1 x8_1 = some (r1, r2)) ∧ Aside0 (kq ≤ k) ∧ Aside0 (Kd.R (Kd.int .u32) 52 w' w.heap.size (fun k_ => (w.heap.size ≤ k_)) v485 x6_1) ∧ Aside0 (Below w.heap.size w w'))
 case atStart => exact ⟨(y484), (0), (wrap64 ((l0.length : Int) - 1)), fs, fs, H', ⟨Nat.le_refl _⟩, ⟨rm HO486.out (fun _ hk => hk.1)⟩, ⟨bz HB.out⟩⟩
 case round =>
  clear H'
  (try clear c3b0); (try clear c3b1); (try clear c4b0); (try clear c4b1)
  obtain ⟨x6_1, x7_1, x8_1, rfl, rfl, HA, HK1, HO_6, HB⟩ := hrel
  cases gk with
  | zero => exact absurd HA.out (by simp [insolvencyref1_short.l0])
  | succ k1 =>
   have H := HA.out
   clear HA
   simp only [insolvencyref1_short.l0] at H
   by_cases c7 : x8_1 ≥ 0
   ·rw [if_pos c7] at H
    have c7b0 : decide (0 ≤ x8_1) = true := decide_eq_true c7
    clear c7
    obtain ⟨c8, H⟩ := iN H
    have c8b0 : decide (0 ≤ x8_1) = true := decide_eq_true c8
    clear c8
    obtain ⟨c9, H⟩ := iN H
    have c9b0 : decide (x8_1 < (l0.length : Int)) = true := decide_eq_true c9
    clear c9
    by_cases c10 : (IntKind.u64.wrap (a1)) = 0
    ·rw [if_pos c10] at H
     exact absurd H (by simp)
    ·rw [if_neg c10] at H
     have c10b0 := beq_eq_false_iff_ne.mpr c10
     have c10b1 := bne_iff_ne.mpr c10
     obtain ⟨c11, H⟩ := iN H
     have c11b0 : decide (x8_1 < (x6_1.length : Int)) = true := decide_eq_true c11
     clear c11
     obtain ⟨y488, hy488⟩ : ∃ y_ : List Int, y_ = (x6_1.set (x8_1 : Int).toNat ((IntKind.u64.wrap (Int.tdiv (Go.bits .or .u64 (IntKind.u64.wrap (x7_1 * 4294967296)) (IntKind.u64.wrap (rd l0 x8_1))) (IntKind.u64.wrap (a1)))) % 4294967296)) := ⟨_, rfl⟩
     (try first | rw [← hy488] at H | (dsimp only at H; rw [← hy488] at H)); (try rw [Option.bind_some] at H)
     have Ny488 := Aside0.mk hy488
     clear hy488
     have H' := Aside0.mk H
     clear H
     have p487 : 0 ≤ (x8_1 : Int) := oa
     have q487 : x8_1 < (l0.length : Int) := oa
     obtain ⟨ad487, e487, hx487_0⟩ := Kd.at_int HR0.out x8_1 p487 q487
     cases e487
     try replace hx487_0 := (HB.out.cell (World.block_lt_of_cell? w _ hx487_0)).trans hx487_0
     replace p487 := eq_true p487
     replace q487 := eq_true q487
     have p12 : 0 ≤ (x8_1 : Int) := oa
     have q12 : (x8_1 : Int) < ((x6_1.length : Int) : Int) := oa
     obtain ⟨go12, co12, eo12, gb12, gl12, cl12, HG12⟩ := Kd.R_form HO_6.out (by omega)
     (first | cases eo12 | (injection eo12 with ea_ en_ ec_; (first | subst ea_ | (injection ea_ with ea_; subst ea_)); subst ec_; clear en_))
     have GB12 := Aside0.mk gb12
     have GG12 := Aside0.mk HG12
     clear gb12 gl12 HG12
     obtain ⟨hx12_0, hf12_0⟩ := Kd.R_celln 0 HO_6.out (x8_1 : Int) p12 q12
     replace p12 := eq_true p12
     replace q12 := eq_true q12
     have HP13 := Kd.R_putg HO_6.out (x8_1 : Int) ((IntKind.u64.wrap (Int.tdiv (Go.bits .or .u64 (IntKind.u64.wrap (x7_1 * 4294967296)) (IntKind.u64.wrap (rd l0 x8_1))) (IntKind.u64.wrap (a1)))) % 4294967296)
     go_wp2_with (first | ((with_reducible refine gate_store (t := 52) (p := 34) rfl ?_); refine se 52 34 (w1 := (wr.setCell ⟨go12, (x8_1 : Int).toNat, none⟩ (.int .u32 ((IntKind.u64.wrap (Int.tdiv (Go.bits .or .u64 (IntKind.u64.wrap (x7_1 * 4294967296)) (IntKind.u64.wrap (rd l0 x8_1))) (IntKind.u64.wrap (a1)))) % 4294967296)))) ?_; intro w14 hw; have hg : wr.grownBy w14 (some go12) := (by rw [hw]; exact HP13.2); have hp_ : Kd.R (Kd.int .u32) 52 w14 w.heap.size (fun k_ => (w.heap.size ≤ k_)) (.slice (some ⟨go12, 0, none⟩) x6_1.length co12) y488 := (by rw [hw, Ny488.out]; exact HP13.1); clear HP13; replace HO_6 := Aside0.mk (hp_); replace HB := Aside0.mk ((by rw [hw]; exact below_set (HB.out) GB12.out : Below w.heap.size w w14)); clear hg hw hp_))
     go_roundg k1
     case measure => have := HK1.out; omega
     case rel => exact ⟨(y488), (Int.tmod (Go.bits .or .u64 (IntKind.u64.wrap (x7_1 * 4294967296)) (IntKind.u64.wrap (rd l0 x8_1))) (IntKind.u64.wrap (a1))), (wrap64 (x8_1 - 1)), fs, fs, H', ⟨by have := HK1.out; omega⟩, ⟨vs HO_6.out⟩, ⟨bz HB.out⟩⟩
   ·rw [if_neg c7] at H
    have c7b0 : decide (0 ≤ x8_1) = false := decide_eq_false c7
    clear c7
    obtain ⟨t489, A15, H⟩ := bs1 H
    simp only [Option.some.injEq, Prod.mk.injEq] at H
    obtain ⟨rfl, rfl⟩ := H
    obtain ⟨Ao16, co16, eo16⟩ := Kd.R_slice HO_6.out
    subst eo16
    go_wp2_with (first | ((with_reducible refine gc 71 rfl ?_); refine gl (some 40) Tryz.func71 #[.slice Ao16 x6_1.length co16] ?_; (with_reducible refine (insolvencyref1_strip.calls k1 (fun k_ => some k_ = (.slice Ao16 x6_1.length co16 : Value).ownBlock) _ _ x6_1 t489 _ ?side1 A15.out).mono ?_); (case side1 => exact Kd.R_V (Kd.R_tight rfl (HO_6.out))); rintro e w17 ⟨v490, rfl, ho0, hb⟩; refine ⟨_, rfl, ?_⟩; have HO491 := Aside0.mk (Kd.V_lower (Kd.V_mono (ok' := fun k_ => (w.heap.size ≤ k_)) ho0 (fun k_ hk_ => Or.elim hk_ (fun hs_ => ((HO_6.out).1 k_ hs_.symm)) (fun hn_ => (Nat.le_trans (sz HB.out) hn_)))) (sz HB.out)); replace HO_6 := Aside0.mk (rb HO_6.out hb); replace HB := Aside0.mk (bs HB.out hb); (try clear hb ho0)))
    go_ret2
    exact ⟨_, fe, vs HO491.out, bz HB.out⟩

/-! ### insolvencyref1_shifted: function 153 -/
def insolvencyref1_shifted.l0 : Nat → List Int → Int → List Int → Int → Option (List Int)
 | 0, _, _, _, _ => none
 | k + 1, x0, x1, x5, x6 => if x6 < (x0.length : Int) then (if 0 ≤ x6 then (if 0 ≤ x1 then (if x6 < (x5.length : Int) then (if 0 ≤ (wrap64 (x6 + 1)) then (if (wrap64 (x6 + 1)) < (x5.length : Int) then (insolvencyref1_shifted.l0 k x0 x1 ((x5.set (x6 : Int).toNat (Go.bits .or .u32 (rd x5 x6) ((shl .u64 (IntKind.u64.wrap (rd x0 x6)) x1) % 4294967296))).set ((wrap64 (x6 + 1)) : Int).toNat (((shl .u64 (IntKind.u64.wrap (rd x0 x6)) x1) / 4294967296) % 4294967296)) (wrap64 (x6 + 1))) else (none)) else (none)) else (none)) else (none)) else (none)) else (some x5)
def insolvencyref1_shifted.f (k : Nat) (l0 : List Int) (a1 : Int) : Option (List Int) := if 0 ≤ (wrap64 ((l0.length : Int) + 1)) then (if (wrap64 ((l0.length : Int) + 1) : Int).toNat ≤ 70368744177664 then (insolvencyref1_shifted.l0 k l0 a1 (List.replicate (wrap64 ((l0.length : Int) + 1) : Int).toNat 0) 0) else (none)) else (none)
set_option maxHeartbeats 8000000 in
set_option maxRecDepth 100000 in
theorem insolvencyref1_shifted.calls (k : Nat) (A0 : Option Addr) (c0 : Nat) (l0 : List Int) (a1 : Int) (r : List Int) (w : World) (hr0 : Kd.C (Kd.int .u32) w A0 l0.length l0) (hc0 : l0.length ≤ c0) (h : insolvencyref1_shifted.f k l0 a1 = some r) :
  Calls Tryz.prog 153 #[.slice A0 l0.length c0, .int .u64 a1] w fun e w' => ∃ v0_ : Value, e = .returned (v0_) ∧ Kd.R (Kd.int .u32) 52 w' w.heap.size (fun _ => True) v0_ r ∧ Below w.heap.size w w' := by
 have HR0 := Aside0.mk hr0
 have HC0 := Aside0.mk hc0
 clear hr0 hc0
 have HB := Aside0.mk (Below.refl w.heap.size w)
 have H := h
 clear h
 unfold insolvencyref1_shifted.f at H
 obtain ⟨ji3, hji3⟩ : ∃ j_ : Int, (wrap64 ((l0.length : Int) + 1)) = j_ := ⟨_, rfl⟩
 first | rw [hji3] at H | simp only [hji3] at H
 have hji3w : (IntKind.i64.wrap ((l0.length : Int) + 1)) = ji3 := (i64_w _).trans hji3
 obtain ⟨c4, H⟩ := iN H
 have c4b0 := eq_true c4
 have c4b1 : decide (0 ≤ (ji3)) = true := decide_eq_true c4
 clear c4
 obtain ⟨c5, H⟩ := iN H
 have c5b0 := eq_true c5
 have c5b1 : decide ((ji3 : Int).toNat ≤ 70368744177664) = true := decide_eq_true c5
 clear c5
 obtain ⟨y492, hy492⟩ : ∃ y_ : List Int, y_ = (List.replicate (ji3 : Int).toNat 0) := ⟨_, rfl⟩
 (try first | rw [← hy492] at H | (dsimp only at H; rw [← hy492] at H)); (try rw [Option.bind_some] at H)
 have Ny492 := Aside0.mk hy492
 clear hy492
 have H' := Aside0.mk H
 clear H
 go_enter Tryz.func153, Tryz.ntmps153
 go_wp2_with (first | ((with_reducible refine gd 11 rfl ?_); refine Kd.R_make (Kd.int .u32) _ 52 rfl (N := 11) rfl 71 _ _ rfl ji3 rfl rfl Tryz.underlying71 (.int .u32 0) 4 info52 rfl (by decide) (by omega) 0 (ok := fun _ => True) (okp := fun _ => True) rfl (fun _ hk => hk) trivial oa (Nat.le_trans (Nat.mul_le_mul_right _ (oa : ji3.toNat ≤ 70368744177664)) (by omega)) (Below.refl _ _) (Nat.le_refl _) ?_; intro v493 w6 ho7 hb hg_ hnew_; clear hg_ hnew_; (first | rw [← Ny492.out] at ho7 | (simp only [Int.reduceToNat] at ho7; rw [← Ny492.out] at ho7)); have HO494 := Aside0.mk (Kd.R_lower ho7 (sz HB.out)); replace HB := Aside0.mk (bs HB.out hb); clear hb ho7))
 go_loopg [6] k (fun kq v6 w' => ∃ (x5_1 : List Int) (x6_1 : Int), v6 = .int .i64 x6_1 ∧ Aside0 (insolvencyref1_shifted.l0 kq l0 a1 x5_1 x6_1 = some r) ∧ Aside0 (kq ≤ k) ∧ Aside0 (Kd.R (Kd.int .u32) 52 w' w.heap.size (fun _ => True) v493 x5_1) ∧ Aside0 (Below w.heap.size w w'))
 case atStart => exact ⟨(y492), (0), fs, H', ⟨Nat.le_refl _⟩, ⟨vs HO494.out⟩, ⟨bz HB.out⟩⟩
 case round =>
  clear H'
  (try clear c4b0); (try clear c4b1); (try clear c5b0); (try clear c5b1)
  obtain ⟨x5_1, x6_1, rfl, HA, HK1, HO_5, HB⟩ := hrel
  cases gk with
  | zero => exact absurd HA.out (by simp [insolvencyref1_shifted.l0])
  | succ k1 =>
   have H := HA.out
   clear HA
   simp only [insolvencyref1_shifted.l0] at H
   by_cases c8 : x6_1 < (l0.length : Int)
   ·rw [if_pos c8] at H
    have c8b0 : decide (x6_1 < (l0.length : Int)) = true := decide_eq_true c8
    clear c8
    obtain ⟨c9, H⟩ := iN H
    have c9b0 : decide (0 ≤ x6_1) = true := decide_eq_true c9
    clear c9
    obtain ⟨c10, H⟩ := iN H
    have c10b0 := eq_true c10
    have c10b1 : decide (0 ≤ a1) = true := decide_eq_true c10
    clear c10
    obtain ⟨ji11, hji11⟩ : ∃ j_ : Int, (shl .u64 (IntKind.u64.wrap (rd l0 x6_1)) a1) = j_ := ⟨_, rfl⟩
    first | rw [hji11] at H | simp only [hji11] at H
    have hji11_ : (IntKind.u64.wrap ((IntKind.u64.wrap (rd l0 x6_1)) * 2 ^ min a1.toNat 64)) = ji11 := hji11
    have hji11z : a1 ≤ 64 → (IntKind.u64.wrap ((IntKind.u64.wrap (rd l0 x6_1)) * 2 ^ a1.toNat)) = ji11 := shl_small hji11
    obtain ⟨c12, H⟩ := iN H
    have c12b0 : decide (x6_1 < (x5_1.length : Int)) = true := decide_eq_true c12
    clear c12
    obtain ⟨y497, hy497⟩ : ∃ y_ : List Int, y_ = (x5_1.set (x6_1 : Int).toNat (Go.bits .or .u32 (rd x5_1 x6_1) ((ji11) % 4294967296))) := ⟨_, rfl⟩
    (try first | rw [← hy497] at H | (dsimp only at H; rw [← hy497] at H)); (try rw [Option.bind_some] at H)
    have Ny497 := Aside0.mk hy497
    clear hy497
    obtain ⟨ji14, hji14⟩ : ∃ j_ : Int, (wrap64 (x6_1 + 1)) = j_ := ⟨_, rfl⟩
    first | rw [hji14] at H | simp only [hji14] at H
    have hji14w : (IntKind.i64.wrap (x6_1 + 1)) = ji14 := (i64_w _).trans hji14
    obtain ⟨c15, H⟩ := iN H
    have c15b0 : decide (0 ≤ (ji14)) = true := decide_eq_true c15
    clear c15
    obtain ⟨c16, H⟩ := iN H
    have c16b0 : decide ((ji14) < (x5_1.length : Int)) = true := decide_eq_true c16
    clear c16
    obtain ⟨y498, hy498⟩ : ∃ y_ : List Int, y_ = (y497.set ((ji14) : Int).toNat (((ji11) / 4294967296) % 4294967296)) := ⟨_, rfl⟩
    (try first | rw [← hy498] at H | (dsimp only at H; rw [← hy498] at H)); (try rw [Option.bind_some] at H)
    have Ny498 := Aside0.mk hy498
    clear hy498
    have H' := Aside0.mk H
    clear H
    have p495 : 0 ≤ (x6_1 : Int) := oa
    have q495 : x6_1 < (l0.length : Int) := oa
    obtain ⟨ad495, e495, hx495_0⟩ := Kd.at_int HR0.out x6_1 p495 q495
    cases e495
    try replace hx495_0 := (HB.out.cell (World.block_lt_of_cell? w _ hx495_0)).trans hx495_0
    replace p495 := eq_true p495
    replace q495 := eq_true q495
    obtain ⟨Ao18, co18, eo18⟩ := Kd.R_slice HO_5.out
    subst eo18
    have p496 : 0 ≤ (x6_1 : Int) := oa
    have q496 : x6_1 < (x5_1.length : Int) := oa
    obtain ⟨ad496, e496, hx496_0⟩ := Kd.at_int (Kd.R_reads' HO_5.out).2.2 x6_1 p496 q496
    cases e496
    replace p496 := eq_true p496
    replace q496 := eq_true q496
    have p13 : 0 ≤ (x6_1 : Int) := oa
    have q13 : (x6_1 : Int) < ((x5_1.length : Int) : Int) := oa
    obtain ⟨go13, co13, eo13, gb13, gl13, cl13, HG13⟩ := Kd.R_form HO_5.out (by omega)
    (first | cases eo13 | (injection eo13 with ea_ en_ ec_; (first | subst ea_ | (injection ea_ with ea_; subst ea_)); subst ec_; clear en_))
    have GB13 := Aside0.mk gb13
    have GG13 := Aside0.mk HG13
    clear gb13 gl13 HG13
    (first | simp only [add_plain] at hx496_0 | skip)
    obtain ⟨hx13_0, hf13_0⟩ := Kd.R_celln 0 HO_5.out (x6_1 : Int) p13 q13
    replace p13 := eq_true p13
    replace q13 := eq_true q13
    have HP19 := Kd.R_putg HO_5.out (x6_1 : Int) (Go.bits .or .u32 (rd x5_1 x6_1) ((ji11) % 4294967296))
    go_wp2_with (first | ((with_reducible refine gate_store (t := 52) (p := 34) rfl ?_); refine se 52 34 (w1 := (wr.setCell ⟨go13, (x6_1 : Int).toNat, none⟩ (.int .u32 (Go.bits .or .u32 (rd x5_1 x6_1) ((ji11) % 4294967296))))) ?_; intro w20 hw; have hg : wr.grownBy w20 (some go13) := (by rw [hw]; exact HP19.2); have hp_ : Kd.R (Kd.int .u32) 52 w20 w.heap.size (fun _ => True) (.slice (some ⟨go13, 0, none⟩) x5_1.length co18) y497 := (by rw [hw, Ny497.out]; exact HP19.1); clear HP19; replace HO_5 := Aside0.mk (hp_); replace HB := Aside0.mk ((by rw [hw]; exact below_set (HB.out) GB13.out : Below w.heap.size w w20)); clear hg hw hp_; have p17 : 0 ≤ ((ji14) : Int) := oa; have q17 : ((ji14) : Int) < ((x5_1.length : Int) : Int) := oa; obtain ⟨hx17_0, hf17_0⟩ := Kd.R_celln 0 HO_5.out ((ji14) : Int) p17 q17; replace p17 := eq_true p17; replace q17 := eq_true q17; obtain ⟨hy21_, hz21_⟩ := Kd.R_celln 0 HO_5.out ((ji14) : Int) oa oa; have HP21 := Kd.R_putg HO_5.out ((ji14) : Int) (((ji11) / 4294967296) % 4294967296)) | ((with_reducible refine gate_store (t := 52) (p := 41) rfl ?_); refine se 52 41 (w1 := (w20.setCell ⟨go13, ((ji14) : Int).toNat, none⟩ (.int .u32 (((ji11) / 4294967296) % 4294967296)))) ?_; intro w22 hw; have hg : w20.grownBy w22 (some go13) := (by rw [hw]; exact HP21.2); have hp_ : Kd.R (Kd.int .u32) 52 w22 w.heap.size (fun _ => True) (.slice (some ⟨go13, 0, none⟩) x5_1.length co18) y498 := (by rw [hw, Ny498.out]; exact HP21.1); clear HP21; replace HO_5 := Aside0.mk (hp_); replace HB := Aside0.mk ((by rw [hw]; exact below_set (HB.out) GB13.out : Below w.heap.size w w22)); clear hg hw hp_))
    go_roundg k1
    case measure => have := HK1.out; omega
    case rel => exact ⟨(y498), (ji14), (by first | rfl | (simp; done) | (simp only [← hji14] <;> (first | rfl | simp)) | (simp [*]; done)), H', ⟨by have := HK1.out; omega⟩, ⟨vs HO_5.out⟩, ⟨bz HB.out⟩⟩
   ·rw [if_neg c8] at H
    have c8b0 : decide (x6_1 < (l0.length : Int)) = false := decide_eq_false c8
    clear c8
    obtain rfl := Option.some.inj H
    go_wp2
    go_ret
    exact ⟨_, by first | rfl | (simp [errW_none, errW_some] <;> rfl) | (simp only [← hji3]; first | rfl | (simp [errW_none, errW_some] <;> rfl)) | (simp [*, errW_none, errW_some] <;> rfl), vs HO_5.out, bz HB.out⟩
end Go.Proofs.YtgepdnoaemeofaaGreatDoor.A
