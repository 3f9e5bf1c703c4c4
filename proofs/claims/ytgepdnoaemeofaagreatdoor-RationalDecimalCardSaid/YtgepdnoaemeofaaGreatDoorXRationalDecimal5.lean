/- Printed by a program of this session (wip/tools) out of the translation: plain functions and the proofs that the code comes to their answers. -/
import Derived.Test.YtgepdnoaemeofaaGreatDoorXRationalDecimal4
namespace Go.Proofs.YtgepdnoaemeofaaGreatDoor.A
open Go.RowKit Go.Proofs.YtgepdnoaemeofaaGreatDoorW.PrintWords Go.Proofs.YtgepdnoaemeofaaGreatDoorW.PrintLast Go.Proofs.YtgepdnoaemeofaaGreatDoorW.PrintMore Go.Proofs.YtgepdnoaemeofaaGreatDoorW.PK
attribute [local go_sem] max2_int min2_int max_two min_two max_three min_three max_four min_four   -- for this text's walks alone
set_option linter.unusedVariables false
set_option linter.unusedSimpArgs false

/-! ### insolvencyref1_long: function 129 -/
mutual
def insolvencyref1_long.l0 : Nat → List Int → List Int → Int → Int → Option (List Int × List Int)
 | 0, _, _, _, _ => none
 | k + 1, x0, x1, x6, x7 => if 0 ≤ (wrap64 (x6 - 1)) then (if (wrap64 (x6 - 1)) < (x1.length : Int) then (if 0 ≤ x7 then (if (shl .u32 (rd x1 (wrap64 (x6 - 1))) x7) < 2147483648 then (insolvencyref1_long.l0 k x0 x1 x6 (IntKind.u64.wrap (x7 + 1))) else ((insolvencyref1_shifted.f k x0 x7).bind fun t500 => ((insolvencyref1_shifted.f k x1 x7).bind fun t503 => (if 0 ≤ x6 then (if x6 ≤ (t503.length : Int) then (if 0 ≤ (wrap64 ((wrap64 ((x0.length : Int) - x6)) + 1)) then (if (wrap64 ((wrap64 ((x0.length : Int) - x6)) + 1) : Int).toNat ≤ 70368744177664 then (insolvencyref1_long.l1 k x6 x7 t500 (t503.take (x6 : Int).toNat) (List.replicate (wrap64 ((wrap64 ((x0.length : Int) - x6)) + 1) : Int).toNat 0) (wrap64 ((x0.length : Int) - x6))) else (none)) else (none)) else (none)) else (none))))) else (none)) else (none)) else (none)
def insolvencyref1_long.l1 : Nat → Int → Int → List Int → List Int → List Int → Int → Option (List Int × List Int)
 | 0, _, _, _, _, _, _ => none
 | k + 1, x6, x7, x8, x9, x10, x11 => if x11 ≥ 0 then (if 0 ≤ (wrap64 (x11 + x6)) then (if (wrap64 (x11 + x6)) < (x8.length : Int) then (if 0 ≤ (wrap64 ((wrap64 (x11 + x6)) - 1)) then (if (wrap64 ((wrap64 (x11 + x6)) - 1)) < (x8.length : Int) then (if 0 ≤ (wrap64 (x6 - 1)) then (if (wrap64 (x6 - 1)) < (x9.length : Int) then (if (IntKind.u64.wrap (rd x9 (wrap64 (x6 - 1)))) = 0 then (none) else (insolvencyref1_long.l2 k x6 x7 x8 x9 x10 x11 (IntKind.u64.wrap (Int.tdiv (Go.bits .or .u64 (IntKind.u64.wrap ((IntKind.u64.wrap (rd x8 (wrap64 (x11 + x6)))) * 4294967296)) (IntKind.u64.wrap (rd x8 (wrap64 ((wrap64 (x11 + x6)) - 1))))) (IntKind.u64.wrap (rd x9 (wrap64 (x6 - 1)))))) (Int.tmod (Go.bits .or .u64 (IntKind.u64.wrap ((IntKind.u64.wrap (rd x8 (wrap64 (x11 + x6)))) * 4294967296)) (IntKind.u64.wrap (rd x8 (wrap64 ((wrap64 (x11 + x6)) - 1))))) (IntKind.u64.wrap (rd x9 (wrap64 (x6 - 1))))))) else (none)) else (none)) else (none)) else (none)) else (none)) else (none)) else (if 0 ≤ x6 then (if (x6 : Int).toNat ≤ 70368744177664 then (insolvencyref1_long.l5 k x6 x7 x8 x10 (List.replicate (x6 : Int).toNat 0) 0) else (none)) else (none))
def insolvencyref1_long.j4 : Nat → Int → Int → List Int → List Int → List Int → Int → Int → Option (List Int × List Int)
 | 0, _, _, _, _, _, _, _ => none
 | k + 1, x6, x7, x8, x9, x10, x11, x13 => insolvencyref1_long.l3 k x6 x7 x8 x9 x10 x11 x13 0 0 0
def insolvencyref1_long.l3 : Nat → Int → Int → List Int → List Int → List Int → Int → Int → Int → Int → Int → Option (List Int × List Int)
 | 0, _, _, _, _, _, _, _, _, _, _ => none
 | k + 1, x6, x7, x8, x9, x10, x11, x13, x15, x16, x17 => if x17 < x6 then (if 0 ≤ x17 then (if x17 < (x9.length : Int) then (if 0 ≤ (wrap64 (x11 + x17)) then (if (wrap64 (x11 + x17)) < (x8.length : Int) then (if (IntKind.u64.wrap (rd x8 (wrap64 (x11 + x17)))) < (IntKind.u64.wrap ((Go.bits .and .u64 (IntKind.u64.wrap (x15 + (IntKind.u64.wrap (x13 * (IntKind.u64.wrap (rd x9 x17)))))) 4294967295) + x16)) then (insolvencyref1_long.l3 k x6 x7 (x8.set ((wrap64 (x11 + x17)) : Int).toNat ((IntKind.u64.wrap ((IntKind.u64.wrap ((IntKind.u64.wrap (rd x8 (wrap64 (x11 + x17)))) + 4294967296)) - (IntKind.u64.wrap ((Go.bits .and .u64 (IntKind.u64.wrap (x15 + (IntKind.u64.wrap (x13 * (IntKind.u64.wrap (rd x9 x17)))))) 4294967295) + x16)))) % 4294967296)) x9 x10 x11 x13 ((IntKind.u64.wrap (x15 + (IntKind.u64.wrap (x13 * (IntKind.u64.wrap (rd x9 x17)))))) / 4294967296) 1 (wrap64 (x17 + 1))) else (insolvencyref1_long.l3 k x6 x7 (x8.set ((wrap64 (x11 + x17)) : Int).toNat ((IntKind.u64.wrap ((IntKind.u64.wrap (rd x8 (wrap64 (x11 + x17)))) - (IntKind.u64.wrap ((Go.bits .and .u64 (IntKind.u64.wrap (x15 + (IntKind.u64.wrap (x13 * (IntKind.u64.wrap (rd x9 x17)))))) 4294967295) + x16)))) % 4294967296)) x9 x10 x11 x13 ((IntKind.u64.wrap (x15 + (IntKind.u64.wrap (x13 * (IntKind.u64.wrap (rd x9 x17)))))) / 4294967296) 0 (wrap64 (x17 + 1)))) else (none)) else (none)) else (none)) else (none)) else (if 0 ≤ (wrap64 (x11 + x6)) then (if (wrap64 (x11 + x6)) < (x8.length : Int) then ((some (x8.set ((wrap64 (x11 + x6)) : Int).toNat ((IntKind.u64.wrap ((IntKind.u64.wrap (rd x8 (wrap64 (x11 + x6)))) - (IntKind.u64.wrap (x15 + x16)))) % 4294967296) : List Int)).bind fun y524 => (if (IntKind.u64.wrap (rd x8 (wrap64 (x11 + x6)))) < (IntKind.u64.wrap (x15 + x16)) then (insolvencyref1_long.l4 k x6 x7 y524 x9 x10 x11 (IntKind.u64.wrap (x13 - 1)) 0 0) else (if 0 ≤ x11 then (if x11 < (x10.length : Int) then (insolvencyref1_long.l1 k x6 x7 y524 x9 (x10.set (x11 : Int).toNat ((x13) % 4294967296)) (wrap64 (x11 - 1))) else (none)) else (none)))) else (none)) else (none))
def insolvencyref1_long.l4 : Nat → Int → Int → List Int → List Int → List Int → Int → Int → Int → Int → Option (List Int × List Int)
 | 0, _, _, _, _, _, _, _, _, _ => none
 | k + 1, x6, x7, x8, x9, x10, x11, x13, x15, x23 => if x23 < x6 then (if 0 ≤ (wrap64 (x11 + x23)) then (if (wrap64 (x11 + x23)) < (x8.length : Int) then (if 0 ≤ x23 then (if x23 < (x9.length : Int) then (insolvencyref1_long.l4 k x6 x7 (x8.set ((wrap64 (x11 + x23)) : Int).toNat ((IntKind.u64.wrap ((IntKind.u64.wrap (x15 + (IntKind.u64.wrap (rd x8 (wrap64 (x11 + x23)))))) + (IntKind.u64.wrap (rd x9 x23)))) % 4294967296)) x9 x10 x11 x13 ((IntKind.u64.wrap ((IntKind.u64.wrap (x15 + (IntKind.u64.wrap (rd x8 (wrap64 (x11 + x23)))))) + (IntKind.u64.wrap (rd x9 x23)))) / 4294967296) (wrap64 (x23 + 1))) else (none)) else (none)) else (none)) else (none)) else (if 0 ≤ (wrap64 (x11 + x6)) then (if (wrap64 (x11 + x6)) < (x8.length : Int) then (if 0 ≤ x11 then (if x11 < (x10.length : Int) then (insolvencyref1_long.l1 k x6 x7 (x8.set ((wrap64 (x11 + x6)) : Int).toNat (((rd x8 (wrap64 (x11 + x6))) + ((x15) % 4294967296)) % 4294967296)) x9 (x10.set (x11 : Int).toNat ((x13) % 4294967296)) (wrap64 (x11 - 1))) else (none)) else (none)) else (none)) else (none))
def insolvencyref1_long.l2 : Nat → Int → Int → List Int → List Int → List Int → Int → Int → Int → Option (List Int × List Int)
 | 0, _, _, _, _, _, _, _, _ => none
 | k + 1, x6, x7, x8, x9, x10, x11, x13, x14 => if x13 ≥ 4294967296 then (insolvencyref1_long.j3 k x6 x7 x8 x9 x10 x11 x13 x14 true) else (if 0 ≤ (wrap64 (x6 - 2)) then (if (wrap64 (x6 - 2)) < (x9.length : Int) then (if 0 ≤ (wrap64 ((wrap64 (x11 + x6)) - 2)) then (if (wrap64 ((wrap64 (x11 + x6)) - 2)) < (x8.length : Int) then (insolvencyref1_long.j3 k x6 x7 x8 x9 x10 x11 x13 x14 (decide ((IntKind.u64.wrap (x13 * (IntKind.u64.wrap (rd x9 (wrap64 (x6 - 2)))))) > (Go.bits .or .u64 (IntKind.u64.wrap (x14 * 4294967296)) (IntKind.u64.wrap (rd x8 (wrap64 ((wrap64 (x11 + x6)) - 2)))))))) else (none)) else (none)) else (none)) else (none))
def insolvencyref1_long.j3 : Nat → Int → Int → List Int → List Int → List Int → Int → Int → Int → Bool → Option (List Int × List Int)
 | 0, _, _, _, _, _, _, _, _, _ => none
 | k + 1, x6, x7, x8, x9, x10, x11, x13, x14, x116 => if x116 = true then (if 0 ≤ (wrap64 (x6 - 1)) then (if (wrap64 (x6 - 1)) < (x9.length : Int) then (if (IntKind.u64.wrap (x14 + (IntKind.u64.wrap (rd x9 (wrap64 (x6 - 1)))))) ≥ 4294967296 then (insolvencyref1_long.j4 k x6 x7 x8 x9 x10 x11 (IntKind.u64.wrap (x13 - 1))) else (insolvencyref1_long.l2 k x6 x7 x8 x9 x10 x11 (IntKind.u64.wrap (x13 - 1)) (IntKind.u64.wrap (x14 + (IntKind.u64.wrap (rd x9 (wrap64 (x6 - 1)))))))) else (none)) else (none)) else (insolvencyref1_long.j4 k x6 x7 x8 x9 x10 x11 x13)
def insolvencyref1_long.l5 : Nat → Int → Int → List Int → List Int → List Int → Int → Option (List Int × List Int)
 | 0, _, _, _, _, _, _ => none
 | k + 1, x6, x7, x8, x10, x24, x25 => if x25 < x6 then (if 0 ≤ (wrap64 (x25 + 1)) then (if (wrap64 (x25 + 1)) < (x8.length : Int) then (if 0 ≤ x25 then (if x25 < (x8.length : Int) then (if 0 ≤ x7 then (if x25 < (x24.length : Int) then (insolvencyref1_long.l5 k x6 x7 x8 x10 (x24.set (x25 : Int).toNat ((shr .u64 (Go.bits .or .u64 (IntKind.u64.wrap ((IntKind.u64.wrap (rd x8 (wrap64 (x25 + 1)))) * 4294967296)) (IntKind.u64.wrap (rd x8 x25))) x7) % 4294967296)) (wrap64 (x25 + 1))) else (none)) else (none)) else (none)) else (none)) else (none)) else (none)) else ((insolvencyref1_strip.f k x10).bind fun t538 => ((insolvencyref1_strip.f k x24).bind fun t541 => (some (t538, t541))))
end
def insolvencyref1_long.f (k : Nat) (l0 : List Int) (l1 : List Int) : Option (List Int × List Int) := insolvencyref1_long.l0 k l0 l1 (l1.length : Int) 0
def insolvencyref1_long.T11 : Bool × List (List Nat × List Nat) := (true, [([], []), ([], []), ([], []), ([1, 2], [1, 2]), ([0, 3], [0, 3]), ([4], [4]), ([5], [5]), ([6], [6]), ([], []), ([], []), ([], []), ([9, 10], [9, 10]), ([11], [11]), ([8, 12], [8, 12]), ([13], [13]), ([14], [14]), ([7, 15], [7, 15]), ([16, 0, 1, 2, 3, 4, 5, 6, 7, 8, 9, 10, 11, 12, 13, 14, 15, 16], [16])])
def insolvencyref1_long.B11 : List Nat := [0, 0, 0, 6, 15, 31, 63, 127, 0, 0, 0, 1536, 3584, 7936, 16128, 32512, 65535, 131071]
theorem insolvencyref1_long.tab11 : rtab .any (opsOf Tryz.f129 11) = insolvencyref1_long.T11 := by kernel_rfl
theorem insolvencyref1_long.bits11 : waitsOk insolvencyref1_long.T11.2 insolvencyref1_long.B11 = true := by kernel_rfl
def insolvencyref1_long.T14 : Bool × List (List Nat × List Nat) := (true, [([], []), ([0], [0]), ([1], [1]), ([2], [2]), ([2], [2]), ([2], [2]), ([5, 2], [2, 5]), ([4, 6, 2], [2, 4, 6]), ([7, 2], [2, 7]), ([8, 2], [2, 8]), ([3, 9, 2], [2, 3, 9]), ([2], [2]), ([11, 2], [2, 11]), ([2], [2]), ([2], [2]), ([2], [2]), ([14, 15, 2], [2, 14, 15]), ([16, 2], [2, 16]), ([13, 17, 2], [2, 13, 17]), ([18, 2], [2, 18]), ([19, 2], [2, 19]), ([12, 20, 2], [2, 12, 20]), ([10, 21, 2], [2, 10, 21]), ([2, 22], [2, 22])])
def insolvencyref1_long.B14 : List Nat := [0, 1, 3, 7, 7, 7, 39, 119, 247, 503, 1023, 7, 2055, 7, 7, 7, 49159, 114695, 253959, 516103, 1040391, 2095111, 4194303, 8388607]
theorem insolvencyref1_long.tab14 : rtab .any (opsOf Tryz.f129 14) = insolvencyref1_long.T14 := by kernel_rfl
theorem insolvencyref1_long.bits14 : waitsOk insolvencyref1_long.T14.2 insolvencyref1_long.B14 = true := by kernel_rfl
def insolvencyref1_long.T42 : Bool × List (List Nat × List Nat) := (true, [([], []), ([], []), ([], []), ([], []), ([2, 3], [2, 3]), ([1, 4], [1, 4]), ([5], [5]), ([6], [6]), ([0, 7], [0, 7]), ([], []), ([], []), ([9, 10], [9, 10]), ([11], [11]), ([12], [12]), ([8, 13], [8, 13]), ([14, 0, 1, 2, 3, 4, 5, 6, 7, 8, 9, 10, 11, 12, 13, 14], [0, 14])])
def insolvencyref1_long.B42 : List Nat := [0, 0, 0, 0, 12, 30, 62, 126, 255, 0, 0, 1536, 3584, 7680, 16383, 32767]
theorem insolvencyref1_long.tab42 : rtab .any (opsOf Tryz.f129 42) = insolvencyref1_long.T42 := by kernel_rfl
theorem insolvencyref1_long.bits42 : waitsOk insolvencyref1_long.T42.2 insolvencyref1_long.B42 = true := by kernel_rfl
def insolvencyref1_long.T51 : Bool × List (List Nat × List Nat) := (true, [([], []), ([], []), ([], []), ([], []), ([3], [3]), ([2, 4], [2, 4]), ([5], [5]), ([6], [6]), ([7], [7]), ([], []), ([], []), ([9, 10], [9, 10]), ([11], [11]), ([12], [12]), ([8, 13], [8, 13]), ([], []), ([14, 15], [14, 15]), ([16], [16]), ([0, 1, 0, 1, 2, 3, 4, 5, 6, 7, 8, 9, 10, 11, 12, 13, 14, 15, 16, 17], [0, 1]), ([18, 17, 0, 1, 2, 3, 4, 5, 6, 7, 8, 9, 10, 11, 12, 13, 14, 15, 16, 17], [17, 18])])
def insolvencyref1_long.B51 : List Nat := [0, 0, 0, 0, 8, 28, 60, 124, 252, 0, 0, 1536, 3584, 7680, 16380, 0, 65532, 131068, 262143, 524287]
theorem insolvencyref1_long.tab51 : rtab .any (opsOf Tryz.f129 51) = insolvencyref1_long.T51 := by kernel_rfl
theorem insolvencyref1_long.bits51 : waitsOk insolvencyref1_long.T51.2 insolvencyref1_long.B51 = true := by kernel_rfl
set_option maxHeartbeats 60000000 in
set_option maxRecDepth 100000 in
theorem insolvencyref1_long.calls (k : Nat) (A0 : Option Addr) (c0 : Nat) (l0 : List Int) (A1 : Option Addr) (c1 : Nat) (l1 : List Int) (r1 : List Int) (r2 : List Int) (w : World) (hr0 : Kd.C (Kd.int .u32) w A0 l0.length l0) (hc0 : l0.length ≤ c0) (hr1 : Kd.C (Kd.int .u32) w A1 l1.length l1) (hc1 : l1.length ≤ c1) (h : insolvencyref1_long.f k l0 l1 = some (r1, r2)) :
  Calls Tryz.prog 129 #[.slice A0 l0.length c0, .slice A1 l1.length c1] w fun e w' => ∃ v0_ v1_ : Value, e = .returned (.tuple #[v0_, v1_]) ∧ Kd.V (Kd.int .u32) 52 w' w.heap.size (fun k_ => (w.heap.size ≤ k_)) v0_ r1 ∧ Kd.V (Kd.int .u32) 52 w' w.heap.size (fun k_ => (w.heap.size ≤ k_)) v1_ r2 ∧ Below w.heap.size w w' := by
 have HR0 := Aside0.mk hr0
 have HC0 := Aside0.mk hc0
 clear hr0 hc0
 have HR1 := Aside0.mk hr1
 have HC1 := Aside0.mk hc1
 clear hr1 hc1
 have HB := Aside0.mk (Below.refl w.heap.size w)
 have H := h
 clear h
 unfold insolvencyref1_long.f at H
 have H' := Aside0.mk H
 clear H
 go_enter Tryz.func129, Tryz.ntmps129
 go_wp2
 go_loopg [7] k (fun kq v7 w' => ∃ (x7_1 : Int), v7 = .int .u64 x7_1 ∧ Aside0 (insolvencyref1_long.l0 kq l0 l1 (l1.length : Int) x7_1 = some (r1, r2)) ∧ Aside0 (kq ≤ k) ∧ Aside0 (Below w.heap.size w w'))
 case atStart => exact ⟨(0), fs, H', ⟨Nat.le_refl _⟩, ⟨bz HB.out⟩⟩
 case round =>
  clear H'
  (try clear c1)
  obtain ⟨x7_1, rfl, HA, HK1, HB⟩ := hrel
  cases gk with
  | zero => exact absurd HA.out (by simp [insolvencyref1_long.l0])
  | succ k1 =>
   have H := HA.out
   clear HA
   simp only [insolvencyref1_long.l0] at H
   obtain ⟨ji3, hji3⟩ : ∃ j_ : Int, (wrap64 ((l1.length : Int) - 1)) = j_ := ⟨_, rfl⟩
   first | rw [hji3] at H | simp only [hji3] at H
   have hji3w : (IntKind.i64.wrap ((l1.length : Int) - 1)) = ji3 := (i64_w _).trans hji3
   obtain ⟨c4, H⟩ := iN H
   have c4b0 : decide (0 ≤ (ji3)) = true := decide_eq_true c4
   clear c4
   obtain ⟨c5, H⟩ := iN H
   have c5b0 : decide ((ji3) < (l1.length : Int)) = true := decide_eq_true c5
   clear c5
   obtain ⟨c6, H⟩ := iN H
   have c6b0 := eq_true c6
   have c6b1 : decide (0 ≤ x7_1) = true := decide_eq_true c6
   clear c6
   obtain ⟨ji7, hji7⟩ : ∃ j_ : Int, (shl .u32 (rd l1 (ji3)) x7_1) = j_ := ⟨_, rfl⟩
   first | rw [hji7] at H | simp only [hji7] at H
   have hji7_ : (IntKind.u32.wrap ((rd l1 (ji3)) * 2 ^ min x7_1.toNat 32)) = ji7 := hji7
   have hji7z : x7_1 ≤ 32 → (IntKind.u32.wrap ((rd l1 (ji3)) * 2 ^ x7_1.toNat)) = ji7 := shl_small hji7
   have hji7u_ : (((rd l1 (ji3)) * 2 ^ min x7_1.toNat 32) % 4294967296) = ji7 := hji7_
   have hji7u2_ : x7_1 ≤ 32 → (((rd l1 (ji3)) * 2 ^ x7_1.toNat) % 4294967296) = ji7 := hji7z
   by_cases c8 : (ji7) < 2147483648
   ·rw [if_pos c8] at H
    have c8b0 : decide ((ji7) < 2147483648) = true := decide_eq_true c8
    clear c8
    have H' := Aside0.mk H
    clear H
    have p499 : 0 ≤ ((ji3) : Int) := oa
    have q499 : (ji3) < (l1.length : Int) := oa
    obtain ⟨ad499, e499, hx499_0⟩ := Kd.at_int HR1.out (ji3) p499 q499
    cases e499
    try replace hx499_0 := (HB.out.cell (World.block_lt_of_cell? w _ hx499_0)).trans hx499_0
    replace p499 := eq_true p499
    replace q499 := eq_true q499
    go_wp2
    (refine Handed.intro k1 ?measure ?_; rotate_left; go_step; (repeat apply Exists.intro); first | refine ⟨?rel, rfl⟩ | (refine ⟨?rel, ?samestate⟩; case samestate => ((try simp only [add_plain]); rfl)))
    case measure => have := HK1.out; omega
    case rel => exact ⟨(IntKind.u64.wrap (x7_1 + 1)), fs, H', ⟨by have := HK1.out; omega⟩, ⟨bz HB.out⟩⟩
   ·rw [if_neg c8] at H
    have c8b0 : decide ((ji7) < 2147483648) = false := decide_eq_false c8
    clear c8
    obtain ⟨t500, A9, H⟩ := bs1 H
    obtain ⟨t503, A10, H⟩ := bs1 H
    obtain ⟨c11, H⟩ := iN H
    have c11b0 := eq_true c11
    have c11b1 : decide (0 ≤ (l1.length : Int)) = true := decide_eq_true c11
    clear c11
    obtain ⟨c12, H⟩ := iN H
    have c12b0 := eq_true c12
    have c12b1 : decide ((l1.length : Int) ≤ (t503.length : Int)) = true := decide_eq_true c12
    clear c12
    obtain ⟨y506, hy506⟩ : ∃ y_ : List Int, y_ = (t503.take ((l1.length : Int) : Int).toNat) := ⟨_, rfl⟩
    (try first | rw [← hy506] at H | (dsimp only at H; rw [← hy506] at H)); (try rw [Option.bind_some] at H)
    have Ny506 := Aside0.mk hy506
    clear hy506
    obtain ⟨ji13, hji13⟩ : ∃ j_ : Int, (wrap64 ((wrap64 ((l0.length : Int) - (l1.length : Int))) + 1)) = j_ := ⟨_, rfl⟩
    first | rw [hji13] at H | simp only [hji13] at H
    (try rw [hji13] at A9)
    (try rw [hji13] at A10)
    have hji13w : (IntKind.i64.wrap ((wrap64 ((l0.length : Int) - (l1.length : Int))) + 1)) = ji13 := (i64_w _).trans hji13
    obtain ⟨c14, H⟩ := iN H
    have c14b0 := eq_true c14
    have c14b1 : decide (0 ≤ (ji13)) = true := decide_eq_true c14
    clear c14
    obtain ⟨c15, H⟩ := iN H
    have c15b0 := eq_true c15
    have c15b1 : decide ((ji13 : Int).toNat ≤ 70368744177664) = true := decide_eq_true c15
    clear c15
    obtain ⟨y509, hy509⟩ : ∃ y_ : List Int, y_ = (List.replicate (ji13 : Int).toNat 0) := ⟨_, rfl⟩
    (try first | rw [← hy509] at H | (dsimp only at H; rw [← hy509] at H)); (try rw [Option.bind_some] at H)
    have Ny509 := Aside0.mk hy509
    clear hy509
    have H' := Aside0.mk H
    clear H
    have p499 : 0 ≤ ((ji3) : Int) := oa
    have q499 : (ji3) < (l1.length : Int) := oa
    obtain ⟨ad499, e499, hx499_0⟩ := Kd.at_int HR1.out (ji3) p499 q499
    cases e499
    try replace hx499_0 := (HB.out.cell (World.block_lt_of_cell? w _ hx499_0)).trans hx499_0
    replace p499 := eq_true p499
    replace q499 := eq_true q499
    go_wp2_with (first | ((with_reducible refine gc 153 rfl ?_); refine gl (some 40) Tryz.func153 #[.slice A0 l0.length c0, .int .u64 x7_1] ?_; (with_reducible refine (insolvencyref1_shifted.calls k1 _ _ l0 x7_1 t500 _ ?side1 ?side2 A9.out).mono ?_); (case side1 => repeat (first | exact (Kd.C_below HR0.out HB.out) | (with_reducible refine Kd.C_alloc ?_ _) | (with_reducible refine Kd.C_drewN ?_ _) | (with_reducible refine Kd.C_drew ?_))); (case side2 => exact HC0.out); rintro e w16 ⟨v501, rfl, ho0, hb⟩; refine ⟨_, rfl, ?_⟩; have HO502 := Aside0.mk (Kd.R_lower (Kd.R_newM (M := fun k_ => (w.heap.size ≤ k_)) ho0 (sz HB.out) (fun k_ h_ => h_)) (sz HB.out)); replace HB := Aside0.mk (bs HB.out hb); (try clear hb ho0)) | ((with_reducible refine gc 153 rfl ?_); refine gl (some 43) Tryz.func153 #[.slice (some ad499) l1.length c1, .int .u64 x7_1] ?_; (with_reducible refine (insolvencyref1_shifted.calls k1 _ _ l1 x7_1 t503 _ ?side1 ?side2 A10.out).mono ?_); (case side1 => repeat (first | exact (Kd.C_below HR1.out HB.out) | (with_reducible refine Kd.C_alloc ?_ _) | (with_reducible refine Kd.C_drewN ?_ _) | (with_reducible refine Kd.C_drew ?_))); (case side2 => exact HC1.out); rintro e w17 ⟨v504, rfl, ho0, hb⟩; refine ⟨_, rfl, ?_⟩; have HO505 := Aside0.mk (Kd.R_lower (Kd.R_new' (Kd.R_newM (M := fun k_ => (w.heap.size ≤ k_)) ho0 (sz HB.out) (fun k_ h_ => h_)) (Kd.R_lt (vs HO502.out))) (sz HB.out)); replace HO502 := Aside0.mk (Kd.R_elder' (vs HO502.out) (Kd.R_base ho0) hb); replace HB := Aside0.mk (bs HB.out hb); (try clear hb ho0); obtain ⟨Ao18, co18, eo18⟩ := Kd.R_slice HO505.out; subst eo18; have q19 : ((l1.length : Int) : Int) ≤ ((t503.length : Int) : Int) := oa; obtain ⟨i019, hi019, _, hsz19, _⟩ := info_parts info52; have hcut19 := cut_to (P := Tryz.prog) 71 52 .i64 Tryz.underlying71 hi019 Ao18 t503.length co18 (l1.length : Int) oa q19 (Kd.R_reads' HO505.out).2.1; have hr19 := Kd.R_take (m := ((l1.length : Int) : Int).toNat) HO505.out (by omega); have hy19 : y506.length = ((l1.length : Int) : Int).toNat := (by rw [Ny506.out, List.length_take]; omega); rw [← Ny506.out] at hr19; rw [← hy19] at hr19 hcut19; clear hy19 hi019 hsz19 HO505; have HO508 := Aside0.mk hr19; clear hr19; replace q19 := eq_true q19) | ((with_reducible refine gd 51 rfl ?_); refine Kd.R_make (Kd.int .u32) _ 52 rfl (N := 51) rfl 71 _ _ rfl ji13 rfl rfl Tryz.underlying71 (.int .u32 0) 4 info52 rfl (by decide) (by omega) 0 (ok := fun _ => True) (okp := fun _ => True) rfl (fun _ hk => hk) trivial oa (Nat.le_trans (Nat.mul_le_mul_right _ (oa : ji13.toNat ≤ 70368744177664)) (by omega)) (Below.refl _ _) (Nat.le_refl _) ?_; intro v510 w20 ho21 hb hg_ hnew_; clear hg_ hnew_; (first | rw [← Ny509.out] at ho21 | (simp only [Int.reduceToNat] at ho21; rw [← Ny509.out] at ho21)); have HO511 := Aside0.mk (Kd.R_lower (Kd.R_new' (Kd.R_new' (Kd.R_newM (M := fun k_ => (w.heap.size ≤ k_)) ho21 (sz HB.out) (fun k_ h_ => h_)) (Kd.R_lt (vs HO502.out))) (Kd.R_lt (vs HO508.out))) (sz HB.out)); replace HO502 := Aside0.mk (Kd.R_elder' (vs HO502.out) (Kd.R_base ho21) hb); replace HO508 := Aside0.mk (Kd.R_elder' (vs HO508.out) (Kd.R_base ho21) hb); replace HB := Aside0.mk (bs HB.out hb); clear hb ho21))
    go_loopg [11] k1 (fun kq v11 w' => ∃ (x8_2 : List Int) (x10_2 : List Int) (x11_2 : Int), v11 = .int .i64 x11_2 ∧ Aside0 (insolvencyref1_long.l1 kq (l1.length : Int) x7_1 x8_2 y506 x10_2 x11_2 = some (r1, r2)) ∧ Aside0 (kq ≤ k1) ∧ Aside0 (Kd.R (Kd.int .u32) 52 w' w.heap.size (fun k_ => (w.heap.size ≤ k_) ∧ some k_ ≠ ((.slice Ao18 y506.length co18) : Value).ownBlock ∧ some k_ ≠ (v510 : Value).ownBlock) v501 x8_2) ∧ Aside0 (Kd.R (Kd.int .u32) 52 w' w.heap.size (fun k_ => (w.heap.size ≤ k_) ∧ some k_ ≠ (v501 : Value).ownBlock ∧ some k_ ≠ (v510 : Value).ownBlock) (.slice Ao18 y506.length co18) y506) ∧ Aside0 (Kd.R (Kd.int .u32) 52 w' w.heap.size (fun k_ => (w.heap.size ≤ k_) ∧ some k_ ≠ (v501 : Value).ownBlock ∧ some k_ ≠ ((.slice Ao18 y506.length co18) : Value).ownBlock) v510 x10_2) ∧ Aside0 (Below w.heap.size w w'))
    case atStart => exact ⟨(t500), (y509), (wrap64 ((l0.length : Int) - (l1.length : Int))), fs, H', ⟨Nat.le_refl _⟩, ⟨rm HO502.out (fun _ hk => by first | exact ⟨hk.1.1.1, ⟨hk.1.2, hk.2⟩⟩ | exact ⟨hk.1.1.1, ⟨ob_len hk.1.2, hk.2⟩⟩ | exact ⟨hk.1.1.1, ⟨hk.1.2, ob_len hk.2⟩⟩ | exact ⟨hk.1.1.1, ⟨ob_len hk.1.2, ob_len hk.2⟩⟩)⟩, ⟨rm HO508.out (fun _ hk => by first | exact ⟨hk.1.1.1, ⟨hk.1.2, hk.2⟩⟩ | exact ⟨hk.1.1.1, ⟨ob_len hk.1.2, hk.2⟩⟩ | exact ⟨hk.1.1.1, ⟨hk.1.2, ob_len hk.2⟩⟩ | exact ⟨hk.1.1.1, ⟨ob_len hk.1.2, ob_len hk.2⟩⟩)⟩, ⟨rm HO511.out (fun _ hk => by first | exact ⟨hk.1.1.1, ⟨hk.1.2, hk.2⟩⟩ | exact ⟨hk.1.1.1, ⟨ob_len hk.1.2, hk.2⟩⟩ | exact ⟨hk.1.1.1, ⟨hk.1.2, ob_len hk.2⟩⟩ | exact ⟨hk.1.1.1, ⟨ob_len hk.1.2, ob_len hk.2⟩⟩)⟩, ⟨bz HB.out⟩⟩
    case round =>
     clear H'
     (try clear c1); (try clear c4b0); (try clear c5b0); (try clear c6b0); (try clear c6b1); (try clear c8b0); (try clear c11b0); (try clear c11b1); (try clear c12b0); (try clear c12b1); (try clear c14b0); (try clear c14b1); (try clear c15b0); (try clear c15b1); (try clear q19); (try clear hx499_0); (try clear p499); (try clear q19); (try clear q499)
     obtain ⟨x8_2, x10_2, x11_2, rfl, HA, HK2, HO_8, HO_9, HO_10, HB⟩ := hrel
     cases gk with
     | zero => exact absurd HA.out (by simp [insolvencyref1_long.l1])
     | succ k2 =>
      have H := HA.out
      clear HA
      simp only [insolvencyref1_long.l1] at H
      by_cases c22 : x11_2 ≥ 0
      ·rw [if_pos c22] at H
       have c22b0 : decide (0 ≤ x11_2) = true := decide_eq_true c22
       clear c22
       obtain ⟨ji23, hji23⟩ : ∃ j_ : Int, (wrap64 (x11_2 + (l1.length : Int))) = j_ := ⟨_, rfl⟩
       first | rw [hji23] at H | simp only [hji23] at H
       have hji23w : (IntKind.i64.wrap (x11_2 + (l1.length : Int))) = ji23 := (i64_w _).trans hji23
       obtain ⟨c24, H⟩ := iN H
       have c24b0 : decide (0 ≤ (ji23)) = true := decide_eq_true c24
       clear c24
       obtain ⟨c25, H⟩ := iN H
       have c25b0 : decide ((ji23) < (x8_2.length : Int)) = true := decide_eq_true c25
       clear c25
       obtain ⟨ji26, hji26⟩ : ∃ j_ : Int, (wrap64 ((ji23) - 1)) = j_ := ⟨_, rfl⟩
       first | rw [hji26] at H | simp only [hji26] at H
       have hji26w : (IntKind.i64.wrap ((ji23) - 1)) = ji26 := (i64_w _).trans hji26
       obtain ⟨c27, H⟩ := iN H
       have c27b0 : decide (0 ≤ (ji26)) = true := decide_eq_true c27
       clear c27
       obtain ⟨c28, H⟩ := iN H
       have c28b0 : decide ((ji26) < (x8_2.length : Int)) = true := decide_eq_true c28
       clear c28
       (try clear hji3w); (try clear hji3)
       obtain ⟨ji29, hji29⟩ : ∃ j_ : Int, (wrap64 ((l1.length : Int) - 1)) = j_ := ⟨_, rfl⟩
       first | rw [hji29] at H | simp only [hji29] at H
       have hji29w : (IntKind.i64.wrap ((l1.length : Int) - 1)) = ji29 := (i64_w _).trans hji29
       obtain ⟨c30, H⟩ := iN H
       have c30b0 : decide (0 ≤ (ji29)) = true := decide_eq_true c30
       clear c30
       obtain ⟨c31, H⟩ := iN H
       have c31b0 : decide ((ji29) < (y506.length : Int)) = true := decide_eq_true c31
       clear c31
       by_cases c32 : (IntKind.u64.wrap (rd y506 (ji29))) = 0
       ·rw [if_pos c32] at H
        exact absurd H (by simp)
       ·rw [if_neg c32] at H
        have c32b0 := beq_eq_false_iff_ne.mpr c32
        have c32b1 := bne_iff_ne.mpr c32
        have HC33 := Aside0.mk H
        clear H
        try go_wp2
        replace HO_8 := Aside0.mk (Kd.R_drew HO_8.out)
        replace HO_9 := Aside0.mk (Kd.R_drew HO_9.out)
        replace HO_10 := Aside0.mk (Kd.R_drew HO_10.out)
        replace HB := Aside0.mk (below_drew1 HB.out)
        obtain ⟨Ao35, co35, eo35⟩ := Kd.R_slice HO_8.out
        (first | subst eo35 | (injection eo35 with f1_ f2_ f3_; have f4_ := f1_.symm; have f5_ := f3_.symm; clear f1_ f2_ f3_; subst f4_; subst f5_))
        have p512 : 0 ≤ ((ji23) : Int) := oa
        have q512 : (ji23) < (x8_2.length : Int) := oa
        obtain ⟨ad512, e512, hx512_0⟩ := Kd.at_int (Kd.R_reads' HO_8.out).2.2 (ji23) p512 q512
        cases e512
        replace p512 := eq_true p512
        replace q512 := eq_true q512
        have p513 : 0 ≤ ((ji26) : Int) := oa
        have q513 : (ji26) < (x8_2.length : Int) := oa
        obtain ⟨ad513, e513, hx513_0⟩ := Kd.at_int (Kd.R_reads' HO_8.out).2.2 (ji26) p513 q513
        obtain rfl : ad512 = ad513 := (by injection e513)
        replace p513 := eq_true p513
        replace q513 := eq_true q513
        refine start_ (n := 18) (S := fun w' => w'.cell? (ad512.add ((ji23)).toNat) = some (.int .u32 (rd x8_2 (ji23))) ∧ w'.cell? (ad512.add ((ji26)).toNat) = some (.int .u32 (rd x8_2 (ji26)))) (ds := []) #[false, false, false, false, false, false, false, false, false, false, false, false, false, false, false, false, false, false] (by kernel_rfl) rfl rfl ⟨hx512_0, hx513_0⟩ (fun hHeld => ?_); refine with_tabW insolvencyref1_long.tab11 insolvencyref1_long.bits11 (fun HT_ HW_ => ?_)
        generalize wr.drew = w34 at HO_8 HO_9 HO_10 HB hx512_0 hx513_0 hHeld ⊢
        refine py 0 (some 60) #[true, false, false, false, false, false, false, false, false, false, false, false, false, false, false, false, false, false] HT_ ?_
        refine py 1 (some 61) #[true, true, false, false, false, false, false, false, false, false, false, false, false, false, false, false, false, false] HT_ ?_
        refine py 2 (some 62) #[true, true, true, false, false, false, false, false, false, false, false, false, false, false, false, false, false, false] HT_ ?_
        refine py 3 (some 63) #[true, true, true, true, false, false, false, false, false, false, false, false, false, false, false, false, false, false] HT_ ?_
        refine py 4 (some 64) #[true, true, true, true, true, false, false, false, false, false, false, false, false, false, false, false, false, false] HT_ ?_
        refine py 8 (some 68) #[true, true, true, true, true, false, false, false, true, false, false, false, false, false, false, false, false, false] HT_ ?_
        refine py 9 (some 69) #[true, true, true, true, true, false, false, false, true, true, false, false, false, false, false, false, false, false] HT_ ?_
        refine py 10 (some 70) #[true, true, true, true, true, false, false, false, true, true, true, false, false, false, false, false, false, false] HT_ ?_
        refine py 11 (some 71) #[true, true, true, true, true, false, false, false, true, true, true, true, false, false, false, false, false, false] HT_ ?_
        refine py 12 (some 72) #[true, true, true, true, true, false, false, false, true, true, true, true, true, false, false, false, false, false] HT_ ?_
        refine py 13 (some 73) #[true, true, true, true, true, false, false, false, true, true, true, true, true, true, false, false, false, false] HT_ ?_
        refine take_ (i := 5) (N := some 65) (v := ?_) (a' := ?_) #[true, true, true, true, true, true, false, false, true, true, true, true, true, true, false, false, false, false] rfl rfl (take_ofW HT_.out HW_.out (by kernel_rfl)) (fun _ _ _ h => h) (Or.inl ⟨by rfl, ?_⟩) hHeld ?_ ?_
        rotate_left
        ·rintro w' ⟨s0, s1⟩
         go_simp
         with_reducible rfl
        rotate_left
        ·simp only [Act.put, List.setIfInBounds_toArray, List.set_cons_zero, List.set_cons_succ, i64_w, i32_w]
         rfl
        refine py 6 (some 66) #[true, true, true, true, true, true, true, false, true, true, true, true, true, true, false, false, false, false] HT_ ?_
        refine py 7 (some 67) #[true, true, true, true, true, true, true, true, true, true, true, true, true, true, false, false, false, false] HT_ ?_
        refine take_ (i := 14) (N := some 74) (v := ?_) (a' := ?_) #[true, true, true, true, true, true, true, true, true, true, true, true, true, true, true, false, false, false] rfl rfl (take_ofW HT_.out HW_.out (by kernel_rfl)) (fun _ _ _ h => h) (Or.inl ⟨by rfl, ?_⟩) hHeld ?_ ?_
        rotate_left
        ·rintro w' ⟨s0, s1⟩
         go_simp
         with_reducible rfl
        rotate_left
        ·simp only [Act.put, List.setIfInBounds_toArray, List.set_cons_zero, List.set_cons_succ, i64_w, i32_w]
         rfl
        refine py 15 (some 75) #[true, true, true, true, true, true, true, true, true, true, true, true, true, true, true, true, false, false] HT_ ?_
        refine py 16 (some 76) #[true, true, true, true, true, true, true, true, true, true, true, true, true, true, true, true, true, false] HT_ ?_
        refine py 17 (some 12) #[true, true, true, true, true, true, true, true, true, true, true, true, true, true, true, true, true, true] HT_ ?_
        refine done_ (done_of HT_.out (by kernel_rfl)) ?_
        have p514 : 0 ≤ ((ji29) : Int) := oa
        have q514 : (ji29) < (y506.length : Int) := oa
        obtain ⟨ad514, e514, hx514_0⟩ := Kd.at_int (Kd.R_reads' HO_9.out).2.2 (ji29) p514 q514
        cases e514
        replace p514 := eq_true p514
        replace q514 := eq_true q514
        have p515 : 0 ≤ ((ji29) : Int) := oa
        have q515 : (ji29) < (y506.length : Int) := oa
        obtain ⟨ad515, e515, hx515_0⟩ := Kd.at_int (Kd.R_reads' HO_9.out).2.2 (ji29) p515 q515
        obtain rfl : ad514 = ad515 := (by injection e515)
        replace p515 := eq_true p515
        replace q515 := eq_true q515
        (try (simp only [Exit.then]; refine (by assumption : ∀ (a : Act) (w : World), Code.wp _ _ _ a w → _) _ _ ?_))
        go_upto_block 4 with (fail)
        go_cut [13] (fun v13 wc => ∃ (kq : Nat) (x13_32 : Int), v13 = .int .u64 x13_32 ∧ Aside0 (insolvencyref1_long.j4 kq (l1.length : Int) x7_1 x8_2 y506 x10_2 x11_2 x13_32 = some (r1, r2)) ∧ Aside0 (kq ≤ k2) ∧ Aside0 (Kd.R (Kd.int .u32) 52 wc w.heap.size (fun k_ => (w.heap.size ≤ k_) ∧ some k_ ≠ ((.slice (some ad514) y506.length co18) : Value).ownBlock ∧ some k_ ≠ (v510 : Value).ownBlock) (.slice (some ad512) x8_2.length co35) x8_2) ∧ Aside0 (Kd.R (Kd.int .u32) 52 wc w.heap.size (fun k_ => (w.heap.size ≤ k_) ∧ some k_ ≠ ((.slice (some ad512) x8_2.length co35) : Value).ownBlock ∧ some k_ ≠ (v510 : Value).ownBlock) (.slice (some ad514) y506.length co18) y506) ∧ Aside0 (Kd.R (Kd.int .u32) 52 wc w.heap.size (fun k_ => (w.heap.size ≤ k_) ∧ some k_ ≠ ((.slice (some ad512) x8_2.length co35) : Value).ownBlock ∧ some k_ ≠ ((.slice (some ad514) y506.length co18) : Value).ownBlock) v510 x10_2) ∧ Aside0 (Below w.heap.size w wc))
        case first =>
         have H := HC33.out
         clear HC33
         have H' := Aside0.mk H
         clear H
         go_wp2
         go_loopg [13, 14] k2 (fun kq v13 v14 w' => ∃ (x13_3 : Int) (x14_3 : Int), v13 = .int .u64 x13_3 ∧ v14 = .int .u64 x14_3 ∧ Aside0 (insolvencyref1_long.l2 kq (l1.length : Int) x7_1 x8_2 y506 x10_2 x11_2 x13_3 x14_3 = some (r1, r2)) ∧ Aside0 (kq ≤ k2) ∧ Aside0 (Kd.R (Kd.int .u32) 52 w' w.heap.size (fun k_ => (w.heap.size ≤ k_) ∧ some k_ ≠ ((.slice (some ad514) y506.length co18) : Value).ownBlock ∧ some k_ ≠ (v510 : Value).ownBlock) (.slice (some ad512) x8_2.length co35) x8_2) ∧ Aside0 (Kd.R (Kd.int .u32) 52 w' w.heap.size (fun k_ => (w.heap.size ≤ k_) ∧ some k_ ≠ ((.slice (some ad512) x8_2.length co35) : Value).ownBlock ∧ some k_ ≠ (v510 : Value).ownBlock) (.slice (some ad514) y506.length co18) y506) ∧ Aside0 (Kd.R (Kd.int .u32) 52 w' w.heap.size (fun k_ => (w.heap.size ≤ k_) ∧ some k_ ≠ ((.slice (some ad512) x8_2.length co35) : Value).ownBlock ∧ some k_ ≠ ((.slice (some ad514) y506.length co18) : Value).ownBlock) v510 x10_2) ∧ Aside0 (Below w.heap.size w w'))
         case atStart => exact ⟨(IntKind.u64.wrap (Int.tdiv (Go.bits .or .u64 (IntKind.u64.wrap ((IntKind.u64.wrap (rd x8_2 (ji23))) * 4294967296)) (IntKind.u64.wrap (rd x8_2 (ji26)))) (IntKind.u64.wrap (rd y506 (ji29))))), (Int.tmod (Go.bits .or .u64 (IntKind.u64.wrap ((IntKind.u64.wrap (rd x8_2 (ji23))) * 4294967296)) (IntKind.u64.wrap (rd x8_2 (ji26)))) (IntKind.u64.wrap (rd y506 (ji29)))), (by first | rfl | (simp; done) | (simp only [← hji23, ← hji26, ← hji29] <;> (first | rfl | simp)) | (simp [*]; done)), (by first | rfl | (simp; done) | (simp only [← hji23, ← hji26, ← hji29] <;> (first | rfl | simp)) | (simp [*]; done)), H', ⟨Nat.le_refl _⟩, ⟨vs HO_8.out⟩, ⟨vs HO_9.out⟩, ⟨vs HO_10.out⟩, ⟨bz HB.out⟩⟩
         case round =>
          clear H'
          (try clear c1); (try clear c4b0); (try clear c5b0); (try clear c6b0); (try clear c6b1); (try clear c8b0); (try clear c11b0); (try clear c11b1); (try clear c12b0); (try clear c12b1); (try clear c14b0); (try clear c14b1); (try clear c15b0); (try clear c15b1); (try clear q19); (try clear c22b0); (try clear c24b0); (try clear c25b0); (try clear c27b0); (try clear c28b0); (try clear c30b0); (try clear c31b0); (try clear c32); (try clear c32b0); (try clear c32b1); (try clear hx499_0); (try clear hx512_0); (try clear hx513_0); (try clear hx514_0); (try clear hx515_0); (try clear p499); (try clear p512); (try clear p513); (try clear p514); (try clear p515); (try clear q19); (try clear q499); (try clear q512); (try clear q513); (try clear q514); (try clear q515)
          obtain ⟨x13_3, x14_3, rfl, rfl, HA, HK3, HO_8, HO_9, HO_10, HB⟩ := hrel
          cases gk with
          | zero => exact absurd HA.out (by simp [insolvencyref1_long.l2])
          | succ k3 =>
           have H := HA.out
           clear HA
           simp only [insolvencyref1_long.l2] at H
           have HC36 := Aside0.mk H
           clear H
           (try (simp only [Exit.then]; refine (by assumption : ∀ (a : Act) (w : World), Code.wp _ _ _ a w → _) _ _ ?_))
           go_upto_region 14 with (fail)
           go_cut [116] (fun v116 wc => ∃ (kq : Nat) (x116_35 : Bool), v116 = .bool x116_35 ∧ Aside0 (insolvencyref1_long.j3 kq (l1.length : Int) x7_1 x8_2 y506 x10_2 x11_2 x13_3 x14_3 x116_35 = some (r1, r2)) ∧ Aside0 (kq ≤ k3) ∧ Aside0 (Kd.R (Kd.int .u32) 52 wc w.heap.size (fun k_ => (w.heap.size ≤ k_) ∧ some k_ ≠ ((.slice (some ad514) y506.length co18) : Value).ownBlock ∧ some k_ ≠ (v510 : Value).ownBlock) (.slice (some ad512) x8_2.length co35) x8_2) ∧ Aside0 (Kd.R (Kd.int .u32) 52 wc w.heap.size (fun k_ => (w.heap.size ≤ k_) ∧ some k_ ≠ ((.slice (some ad512) x8_2.length co35) : Value).ownBlock ∧ some k_ ≠ (v510 : Value).ownBlock) (.slice (some ad514) y506.length co18) y506) ∧ Aside0 (Kd.R (Kd.int .u32) 52 wc w.heap.size (fun k_ => (w.heap.size ≤ k_) ∧ some k_ ≠ ((.slice (some ad512) x8_2.length co35) : Value).ownBlock ∧ some k_ ≠ ((.slice (some ad514) y506.length co18) : Value).ownBlock) v510 x10_2) ∧ Aside0 (Below w.heap.size w wc))
           case first =>
            have H := HC36.out
            clear HC36
            by_cases c37 : x13_3 ≥ 4294967296
            ·rw [if_pos c37] at H
             have c37b0 : decide (4294967296 ≤ x13_3) = true := decide_eq_true c37
             clear c37
             (first | rw [c37b0] | (simp only [i64_w, i32_w]; rw [c37b0]) | skip)
             have H' := Aside0.mk H
             clear H
             try go_wp2
             replace HO_8 := Aside0.mk (Kd.R_drew HO_8.out)
             replace HO_9 := Aside0.mk (Kd.R_drew HO_9.out)
             replace HO_10 := Aside0.mk (Kd.R_drew HO_10.out)
             replace HB := Aside0.mk (below_drew1 HB.out)
             refine start_ (n := 24) (S := fun w' => True) (ds := []) #[false, false, false, false, false, false, false, false, false, false, false, false, false, false, false, false, false, false, false, false, false, false, false, false] (by kernel_rfl) rfl rfl trivial (fun hHeld => ?_); refine with_tabW insolvencyref1_long.tab14 insolvencyref1_long.bits14 (fun HT_ HW_ => ?_)
             generalize wr.drew = w38 at HO_8 HO_9 HO_10 HB hHeld ⊢
             refine py 0 (some 93) #[true, false, false, false, false, false, false, false, false, false, false, false, false, false, false, false, false, false, false, false, false, false, false, false] HT_ ?_
             refine py 1 (some 94) #[true, true, false, false, false, false, false, false, false, false, false, false, false, false, false, false, false, false, false, false, false, false, false, false] HT_ ?_
             refine py 2 (some 95) #[true, true, true, false, false, false, false, false, false, false, false, false, false, false, false, false, false, false, false, false, false, false, false, false] HT_ ?_
             refine pu 3 (some 96) #[true, true, true, true, false, false, false, false, false, false, false, false, false, false, false, false, false, false, false, false, false, false, false, false] HT_ ?_
             refine pu 4 (some 97) #[true, true, true, true, true, false, false, false, false, false, false, false, false, false, false, false, false, false, false, false, false, false, false, false] HT_ ?_
             refine pu 5 (some 98) #[true, true, true, true, true, true, false, false, false, false, false, false, false, false, false, false, false, false, false, false, false, false, false, false] HT_ ?_
             refine pu 6 (some 99) #[true, true, true, true, true, true, true, false, false, false, false, false, false, false, false, false, false, false, false, false, false, false, false, false] HT_ ?_
             refine pu 7 (some 100) #[true, true, true, true, true, true, true, true, false, false, false, false, false, false, false, false, false, false, false, false, false, false, false, false] HT_ ?_
             refine pu 8 (some 101) #[true, true, true, true, true, true, true, true, true, false, false, false, false, false, false, false, false, false, false, false, false, false, false, false] HT_ ?_
             refine pu 9 (some 102) #[true, true, true, true, true, true, true, true, true, true, false, false, false, false, false, false, false, false, false, false, false, false, false, false] HT_ ?_
             refine pu 10 (some 103) #[true, true, true, true, true, true, true, true, true, true, true, false, false, false, false, false, false, false, false, false, false, false, false, false] HT_ ?_
             refine pu 11 (some 104) #[true, true, true, true, true, true, true, true, true, true, true, true, false, false, false, false, false, false, false, false, false, false, false, false] HT_ ?_
             refine pu 12 (some 105) #[true, true, true, true, true, true, true, true, true, true, true, true, true, false, false, false, false, false, false, false, false, false, false, false] HT_ ?_
             refine pu 13 (some 106) #[true, true, true, true, true, true, true, true, true, true, true, true, true, true, false, false, false, false, false, false, false, false, false, false] HT_ ?_
             refine pu 14 (some 107) #[true, true, true, true, true, true, true, true, true, true, true, true, true, true, true, false, false, false, false, false, false, false, false, false] HT_ ?_
             refine pu 15 (some 108) #[true, true, true, true, true, true, true, true, true, true, true, true, true, true, true, true, false, false, false, false, false, false, false, false] HT_ ?_
             refine pu 16 (some 109) #[true, true, true, true, true, true, true, true, true, true, true, true, true, true, true, true, true, false, false, false, false, false, false, false] HT_ ?_
             refine pu 17 (some 110) #[true, true, true, true, true, true, true, true, true, true, true, true, true, true, true, true, true, true, false, false, false, false, false, false] HT_ ?_
             refine pu 18 (some 111) #[true, true, true, true, true, true, true, true, true, true, true, true, true, true, true, true, true, true, true, false, false, false, false, false] HT_ ?_
             refine pu 19 (some 112) #[true, true, true, true, true, true, true, true, true, true, true, true, true, true, true, true, true, true, true, true, false, false, false, false] HT_ ?_
             refine pu 20 (some 113) #[true, true, true, true, true, true, true, true, true, true, true, true, true, true, true, true, true, true, true, true, true, false, false, false] HT_ ?_
             refine pu 21 (some 114) #[true, true, true, true, true, true, true, true, true, true, true, true, true, true, true, true, true, true, true, true, true, true, false, false] HT_ ?_
             refine pu 22 (some 115) #[true, true, true, true, true, true, true, true, true, true, true, true, true, true, true, true, true, true, true, true, true, true, true, false] HT_ ?_
             refine py 23 (some 116) #[true, true, true, true, true, true, true, true, true, true, true, true, true, true, true, true, true, true, true, true, true, true, true, true] HT_ ?_
             refine done_ (done_of HT_.out (by kernel_rfl)) ?_
             try go_wp2
             go_meet
             case rel => exact ⟨_, (true), fs, H', ⟨by have := HK1.out; have := HK2.out; have := HK3.out; first | omega | exact Nat.le_refl _⟩, ⟨vs HO_8.out⟩, ⟨vs HO_9.out⟩, ⟨vs HO_10.out⟩, ⟨bz HB.out⟩⟩
            ·rw [if_neg c37] at H
             have c37b0 : decide (4294967296 ≤ x13_3) = false := decide_eq_false c37
             clear c37
             (first | rw [c37b0] | (simp only [i64_w, i32_w]; rw [c37b0]) | skip)
             obtain ⟨ji39, hji39⟩ : ∃ j_ : Int, (wrap64 ((l1.length : Int) - 2)) = j_ := ⟨_, rfl⟩
             first | rw [hji39] at H | simp only [hji39] at H
             have hji39w : (IntKind.i64.wrap ((l1.length : Int) - 2)) = ji39 := (i64_w _).trans hji39
             obtain ⟨c40, H⟩ := iN H
             have c40b0 : decide (0 ≤ (ji39)) = true := decide_eq_true c40
             clear c40
             obtain ⟨c41, H⟩ := iN H
             have c41b0 : decide ((ji39) < (y506.length : Int)) = true := decide_eq_true c41
             clear c41
             obtain ⟨ji42, hji42⟩ : ∃ j_ : Int, (wrap64 ((wrap64 (x11_2 + (l1.length : Int))) - 2)) = j_ := ⟨_, rfl⟩
             (try (have hji42_qji23 := hji42; rw [hji23] at hji42_qji23))
             first | rw [hji42] at H | simp only [hji42] at H
             have hji42w : (IntKind.i64.wrap ((wrap64 (x11_2 + (l1.length : Int))) - 2)) = ji42 := (i64_w _).trans hji42
             (try (have hji42w_qji23 := hji42w; rw [hji23] at hji42w_qji23))
             obtain ⟨c43, H⟩ := iN H
             have c43b0 : decide (0 ≤ (ji42)) = true := decide_eq_true c43
             clear c43
             obtain ⟨c44, H⟩ := iN H
             have c44b0 : decide ((ji42) < (x8_2.length : Int)) = true := decide_eq_true c44
             clear c44
             have H' := Aside0.mk H
             clear H
             try go_wp2
             replace HO_8 := Aside0.mk (Kd.R_drew HO_8.out)
             replace HO_9 := Aside0.mk (Kd.R_drew HO_9.out)
             replace HO_10 := Aside0.mk (Kd.R_drew HO_10.out)
             replace HB := Aside0.mk (below_drew1 HB.out)
             have p516 : 0 ≤ ((ji39) : Int) := oa
             have q516 : (ji39) < (y506.length : Int) := oa
             obtain ⟨ad516, e516, hx516_0⟩ := Kd.at_int (Kd.R_reads' HO_9.out).2.2 (ji39) p516 q516
             obtain rfl : ad514 = ad516 := (by injection e516)
             replace p516 := eq_true p516
             replace q516 := eq_true q516
             have p517 : 0 ≤ ((ji42) : Int) := oa
             have q517 : (ji42) < (x8_2.length : Int) := oa
             obtain ⟨ad517, e517, hx517_0⟩ := Kd.at_int (Kd.R_reads' HO_8.out).2.2 (ji42) p517 q517
             obtain rfl : ad512 = ad517 := (by injection e517)
             replace p517 := eq_true p517
             replace q517 := eq_true q517
             refine start_ (n := 24) (S := fun w' => w'.cell? (ad514.add ((ji39)).toNat) = some (.int .u32 (rd y506 (ji39))) ∧ w'.cell? (ad512.add ((ji42)).toNat) = some (.int .u32 (rd x8_2 (ji42)))) (ds := []) #[false, false, false, false, false, false, false, false, false, false, false, false, false, false, false, false, false, false, false, false, false, false, false, false] (by kernel_rfl) rfl rfl ⟨hx516_0, hx517_0⟩ (fun hHeld => ?_); refine with_tabW insolvencyref1_long.tab14 insolvencyref1_long.bits14 (fun HT_ HW_ => ?_)
             generalize wr.drew = w45 at HO_8 HO_9 HO_10 HB hx516_0 hx517_0 hHeld ⊢
             refine py 0 (some 93) #[true, false, false, false, false, false, false, false, false, false, false, false, false, false, false, false, false, false, false, false, false, false, false, false] HT_ ?_
             refine py 1 (some 94) #[true, true, false, false, false, false, false, false, false, false, false, false, false, false, false, false, false, false, false, false, false, false, false, false] HT_ ?_
             refine py 2 (some 95) #[true, true, true, false, false, false, false, false, false, false, false, false, false, false, false, false, false, false, false, false, false, false, false, false] HT_ ?_
             refine py 3 (some 96) #[true, true, true, true, false, false, false, false, false, false, false, false, false, false, false, false, false, false, false, false, false, false, false, false] HT_ ?_
             refine py 4 (some 97) #[true, true, true, true, true, false, false, false, false, false, false, false, false, false, false, false, false, false, false, false, false, false, false, false] HT_ ?_
             refine py 5 (some 98) #[true, true, true, true, true, true, false, false, false, false, false, false, false, false, false, false, false, false, false, false, false, false, false, false] HT_ ?_
             refine py 6 (some 99) #[true, true, true, true, true, true, true, false, false, false, false, false, false, false, false, false, false, false, false, false, false, false, false, false] HT_ ?_
             refine py 7 (some 100) #[true, true, true, true, true, true, true, true, false, false, false, false, false, false, false, false, false, false, false, false, false, false, false, false] HT_ ?_
             refine py 11 (some 104) #[true, true, true, true, true, true, true, true, false, false, false, true, false, false, false, false, false, false, false, false, false, false, false, false] HT_ ?_
             refine py 12 (some 105) #[true, true, true, true, true, true, true, true, false, false, false, true, true, false, false, false, false, false, false, false, false, false, false, false] HT_ ?_
             refine py 13 (some 106) #[true, true, true, true, true, true, true, true, false, false, false, true, true, true, false, false, false, false, false, false, false, false, false, false] HT_ ?_
             refine py 14 (some 107) #[true, true, true, true, true, true, true, true, false, false, false, true, true, true, true, false, false, false, false, false, false, false, false, false] HT_ ?_
             refine py 15 (some 108) #[true, true, true, true, true, true, true, true, false, false, false, true, true, true, true, true, false, false, false, false, false, false, false, false] HT_ ?_
             refine py 16 (some 109) #[true, true, true, true, true, true, true, true, false, false, false, true, true, true, true, true, true, false, false, false, false, false, false, false] HT_ ?_
             refine py 17 (some 110) #[true, true, true, true, true, true, true, true, false, false, false, true, true, true, true, true, true, true, false, false, false, false, false, false] HT_ ?_
             refine py 18 (some 111) #[true, true, true, true, true, true, true, true, false, false, false, true, true, true, true, true, true, true, true, false, false, false, false, false] HT_ ?_
             refine take_ (i := 8) (N := some 101) (v := ?_) (a' := ?_) #[true, true, true, true, true, true, true, true, true, false, false, true, true, true, true, true, true, true, true, false, false, false, false, false] rfl rfl (take_ofW HT_.out HW_.out (by kernel_rfl)) (fun _ _ _ h => h) (Or.inl ⟨by rfl, ?_⟩) hHeld ?_ ?_
             rotate_left
             ·rintro w' ⟨s0, s1⟩
              go_simp
              with_reducible rfl
             rotate_left
             ·simp only [Act.put, List.setIfInBounds_toArray, List.set_cons_zero, List.set_cons_succ, i64_w, i32_w]
              rfl
             refine py 9 (some 102) #[true, true, true, true, true, true, true, true, true, true, false, true, true, true, true, true, true, true, true, false, false, false, false, false] HT_ ?_
             refine py 10 (some 103) #[true, true, true, true, true, true, true, true, true, true, true, true, true, true, true, true, true, true, true, false, false, false, false, false] HT_ ?_
             refine take_ (i := 19) (N := some 112) (v := ?_) (a' := ?_) #[true, true, true, true, true, true, true, true, true, true, true, true, true, true, true, true, true, true, true, true, false, false, false, false] rfl rfl (take_ofW HT_.out HW_.out (by kernel_rfl)) (fun _ _ _ h => h) (Or.inl ⟨by rfl, ?_⟩) hHeld ?_ ?_
             rotate_left
             ·rintro w' ⟨s0, s1⟩
              go_simp
              with_reducible rfl
             rotate_left
             ·simp only [Act.put, List.setIfInBounds_toArray, List.set_cons_zero, List.set_cons_succ, i64_w, i32_w]
              rfl
             refine py 20 (some 113) #[true, true, true, true, true, true, true, true, true, true, true, true, true, true, true, true, true, true, true, true, true, false, false, false] HT_ ?_
             refine py 21 (some 114) #[true, true, true, true, true, true, true, true, true, true, true, true, true, true, true, true, true, true, true, true, true, true, false, false] HT_ ?_
             refine py 22 (some 115) #[true, true, true, true, true, true, true, true, true, true, true, true, true, true, true, true, true, true, true, true, true, true, true, false] HT_ ?_
             refine py 23 (some 116) #[true, true, true, true, true, true, true, true, true, true, true, true, true, true, true, true, true, true, true, true, true, true, true, true] HT_ ?_
             refine done_ (done_of HT_.out (by kernel_rfl)) ?_
             try go_wp2
             go_meet
             case rel => exact ⟨_, (decide ((IntKind.u64.wrap (x13_3 * (IntKind.u64.wrap (rd y506 (ji39))))) > (Go.bits .or .u64 (IntKind.u64.wrap (x14_3 * 4294967296)) (IntKind.u64.wrap (rd x8_2 (ji42)))))), (by first | rfl | (simp; done) | (simp only [← hji39, ← hji42] <;> (first | rfl | simp)) | (simp [*]; done)), H', ⟨by have := HK1.out; have := HK2.out; have := HK3.out; first | omega | exact Nat.le_refl _⟩, ⟨vs HO_8.out⟩, ⟨vs HO_9.out⟩, ⟨vs HO_10.out⟩, ⟨bz HB.out⟩⟩
           case rest =>
            clear HC36
            (try clear c1); (try clear c4b0); (try clear c5b0); (try clear c6b0); (try clear c6b1); (try clear c8b0); (try clear c11b0); (try clear c11b1); (try clear c12b0); (try clear c12b1); (try clear c14b0); (try clear c14b1); (try clear c15b0); (try clear c15b1); (try clear q19); (try clear c22b0); (try clear c24b0); (try clear c25b0); (try clear c27b0); (try clear c28b0); (try clear c30b0); (try clear c31b0); (try clear c32); (try clear c32b0); (try clear c32b1); (try clear c37b0); (try clear c40b0); (try clear c41b0); (try clear c43b0); (try clear c44b0); (try clear hx499_0); (try clear hx512_0); (try clear hx513_0); (try clear hx514_0); (try clear hx515_0); (try clear hx516_0); (try clear hx517_0); (try clear p499); (try clear p512); (try clear p513); (try clear p514); (try clear p515); (try clear p516); (try clear p517); (try clear q19); (try clear q499); (try clear q512); (try clear q513); (try clear q514); (try clear q515); (try clear q516); (try clear q517)
            obtain ⟨kq, x116_35, rfl, HA, HJ35, HO_8, HO_9, HO_10, HB⟩ := hcut
            cases kq with
            | zero => exact absurd HA.out (by simp [insolvencyref1_long.j3])
            | succ kj35 =>
             have H := HA.out
             clear HA
             simp only [insolvencyref1_long.j3] at H
             by_cases c46 : x116_35 = true
             ·subst c46
              have H1 : (if 0 ≤ (wrap64 ((l1.length : Int) - 1)) then (if (wrap64 ((l1.length : Int) - 1)) < (y506.length : Int) then (if (IntKind.u64.wrap (x14_3 + (IntKind.u64.wrap (rd y506 (wrap64 ((l1.length : Int) - 1)))))) ≥ 4294967296 then (insolvencyref1_long.j4 kj35 (l1.length : Int) x7_1 x8_2 y506 x10_2 x11_2 (IntKind.u64.wrap (x13_3 - 1))) else (insolvencyref1_long.l2 kj35 (l1.length : Int) x7_1 x8_2 y506 x10_2 x11_2 (IntKind.u64.wrap (x13_3 - 1)) (IntKind.u64.wrap (x14_3 + (IntKind.u64.wrap (rd y506 (wrap64 ((l1.length : Int) - 1)))))))) else (none)) else (none)) = some (r1, r2) := by rw [if_pos rfl] at H; exact H
              clear H
              have H := H1
              clear H1
              (try clear hji3w); (try clear hji3)
              (try clear hji29w); (try clear hji29)
              obtain ⟨ji47, hji47⟩ : ∃ j_ : Int, (wrap64 ((l1.length : Int) - 1)) = j_ := ⟨_, rfl⟩
              first | rw [hji47] at H | simp only [hji47] at H
              have hji47w : (IntKind.i64.wrap ((l1.length : Int) - 1)) = ji47 := (i64_w _).trans hji47
              obtain ⟨c48, H⟩ := iN H
              have c48b0 : decide (0 ≤ (ji47)) = true := decide_eq_true c48
              clear c48
              obtain ⟨c49, H⟩ := iN H
              have c49b0 : decide ((ji47) < (y506.length : Int)) = true := decide_eq_true c49
              clear c49
              by_cases c50 : (IntKind.u64.wrap (x14_3 + (IntKind.u64.wrap (rd y506 (ji47))))) ≥ 4294967296
              ·rw [if_pos c50] at H
               have c50b0 : decide (4294967296 ≤ (IntKind.u64.wrap (x14_3 + (IntKind.u64.wrap (rd y506 (ji47)))))) = true := decide_eq_true c50
               clear c50
               have H' := Aside0.mk H
               clear H
               have p518 : 0 ≤ ((ji47) : Int) := oa
               have q518 : (ji47) < (y506.length : Int) := oa
               obtain ⟨ad518, e518, hx518_0⟩ := Kd.at_int (Kd.R_reads' HO_9.out).2.2 (ji47) p518 q518
               obtain rfl : ad514 = ad518 := (by injection e518)
               replace p518 := eq_true p518
               replace q518 := eq_true q518
               go_wp2
               go_meet
               case rel => exact ⟨_, (IntKind.u64.wrap (x13_3 - 1)), fs, H', ⟨by have := HK1.out; have := HK2.out; have := HK3.out; have := HJ35.out; first | omega | exact Nat.le_refl _⟩, ⟨vs HO_8.out⟩, ⟨vs HO_9.out⟩, ⟨vs HO_10.out⟩, ⟨bz HB.out⟩⟩
              ·rw [if_neg c50] at H
               have c50b0 : decide (4294967296 ≤ (IntKind.u64.wrap (x14_3 + (IntKind.u64.wrap (rd y506 (ji47)))))) = false := decide_eq_false c50
               clear c50
               have H' := Aside0.mk H
               clear H
               have p518 : 0 ≤ ((ji47) : Int) := oa
               have q518 : (ji47) < (y506.length : Int) := oa
               obtain ⟨ad518, e518, hx518_0⟩ := Kd.at_int (Kd.R_reads' HO_9.out).2.2 (ji47) p518 q518
               obtain rfl : ad514 = ad518 := (by injection e518)
               replace p518 := eq_true p518
               replace q518 := eq_true q518
               go_wp2
               (refine Handed.intro kj35 ?measure ?_; rotate_left; go_step; (repeat apply Exists.intro); first | refine ⟨?rel, rfl⟩ | (refine ⟨?rel, ?samestate⟩; case samestate => ((try simp only [add_plain]); rfl)))
               case measure => have := HK1.out; have := HK2.out; have := HK3.out; have := HJ35.out; omega
               case rel => exact ⟨(IntKind.u64.wrap (x13_3 - 1)), (IntKind.u64.wrap (x14_3 + (IntKind.u64.wrap (rd y506 (ji47))))), fs, (by first | rfl | (simp; done) | (simp only [← hji47] <;> (first | rfl | simp)) | (simp [*]; done)), H', ⟨by have := HK1.out; have := HK2.out; have := HK3.out; have := HJ35.out; omega⟩, ⟨vs HO_8.out⟩, ⟨vs HO_9.out⟩, ⟨vs HO_10.out⟩, ⟨bz HB.out⟩⟩
             ·replace c46 := Bool.eq_false_iff.mpr c46
              subst c46
              have H1 : (insolvencyref1_long.j4 kj35 (l1.length : Int) x7_1 x8_2 y506 x10_2 x11_2 x13_3) = some (r1, r2) := by rw [if_neg (show ¬ (false = true) by decide)] at H; exact H
              clear H
              have H := H1
              clear H1
              have H' := Aside0.mk H
              clear H
              go_wp2
              go_meet
              case rel => exact ⟨_, (x13_3), fs, H', ⟨by have := HK1.out; have := HK2.out; have := HK3.out; have := HJ35.out; first | omega | exact Nat.le_refl _⟩, ⟨vs HO_8.out⟩, ⟨vs HO_9.out⟩, ⟨vs HO_10.out⟩, ⟨bz HB.out⟩⟩
        case rest =>
         clear HC33
         (try clear c1); (try clear c4b0); (try clear c5b0); (try clear c6b0); (try clear c6b1); (try clear c8b0); (try clear c11b0); (try clear c11b1); (try clear c12b0); (try clear c12b1); (try clear c14b0); (try clear c14b1); (try clear c15b0); (try clear c15b1); (try clear q19); (try clear c22b0); (try clear c24b0); (try clear c25b0); (try clear c27b0); (try clear c28b0); (try clear c30b0); (try clear c31b0); (try clear c32); (try clear c32b0); (try clear c32b1); (try clear c37b0); (try clear c40b0); (try clear c41b0); (try clear c43b0); (try clear c44b0); (try clear c46); (try clear c48b0); (try clear c49b0); (try clear c50b0); (try clear hx499_0); (try clear hx512_0); (try clear hx513_0); (try clear hx514_0); (try clear hx515_0); (try clear hx516_0); (try clear hx517_0); (try clear hx518_0); (try clear p499); (try clear p512); (try clear p513); (try clear p514); (try clear p515); (try clear p516); (try clear p517); (try clear p518); (try clear q19); (try clear q499); (try clear q512); (try clear q513); (try clear q514); (try clear q515); (try clear q516); (try clear q517); (try clear q518)
         obtain ⟨kq, x13_32, rfl, HA, HJ32, HO_8, HO_9, HO_10, HB⟩ := hcut
         cases kq with
         | zero => exact absurd HA.out (by simp [insolvencyref1_long.j4])
         | succ kj32 =>
          have H := HA.out
          clear HA
          simp only [insolvencyref1_long.j4] at H
          have H' := Aside0.mk H
          clear H
          go_wp2
          go_loopg [15, 16, 17] kj32 (fun kq v15 v16 v17 w' => ∃ (x8_4 : List Int) (x15_4 : Int) (x16_4 : Int) (x17_4 : Int), v15 = .int .u64 x15_4 ∧ v16 = .int .u64 x16_4 ∧ v17 = .int .i64 x17_4 ∧ Aside0 (insolvencyref1_long.l3 kq (l1.length : Int) x7_1 x8_4 y506 x10_2 x11_2 x13_32 x15_4 x16_4 x17_4 = some (r1, r2)) ∧ Aside0 (kq ≤ kj32) ∧ Aside0 (Kd.R (Kd.int .u32) 52 w' w.heap.size (fun k_ => (w.heap.size ≤ k_) ∧ some k_ ≠ ((.slice (some ad514) y506.length co18) : Value).ownBlock ∧ some k_ ≠ (v510 : Value).ownBlock) (.slice (some ad512) x8_2.length co35) x8_4) ∧ Aside0 (Kd.R (Kd.int .u32) 52 w' w.heap.size (fun k_ => (w.heap.size ≤ k_) ∧ some k_ ≠ ((.slice (some ad512) x8_2.length co35) : Value).ownBlock ∧ some k_ ≠ (v510 : Value).ownBlock) (.slice (some ad514) y506.length co18) y506) ∧ Aside0 (Kd.R (Kd.int .u32) 52 w' w.heap.size (fun k_ => (w.heap.size ≤ k_) ∧ some k_ ≠ ((.slice (some ad512) x8_2.length co35) : Value).ownBlock ∧ some k_ ≠ ((.slice (some ad514) y506.length co18) : Value).ownBlock) v510 x10_2) ∧ Aside0 (Below w.heap.size w w'))
          case atStart => exact ⟨(x8_2), (0), (0), (0), fs, fs, fs, H', ⟨Nat.le_refl _⟩, ⟨vs HO_8.out⟩, ⟨vs HO_9.out⟩, ⟨vs HO_10.out⟩, ⟨bz HB.out⟩⟩
          case round =>
           clear H'
           (try clear c1); (try clear c4b0); (try clear c5b0); (try clear c6b0); (try clear c6b1); (try clear c8b0); (try clear c11b0); (try clear c11b1); (try clear c12b0); (try clear c12b1); (try clear c14b0); (try clear c14b1); (try clear c15b0); (try clear c15b1); (try clear q19); (try clear c22b0); (try clear c24b0); (try clear c25b0); (try clear c27b0); (try clear c28b0); (try clear c30b0); (try clear c31b0); (try clear c32); (try clear c32b0); (try clear c32b1); (try clear c37b0); (try clear c40b0); (try clear c41b0); (try clear c43b0); (try clear c44b0); (try clear c46); (try clear c48b0); (try clear c49b0); (try clear c50b0); (try clear hx499_0); (try clear hx512_0); (try clear hx513_0); (try clear hx514_0); (try clear hx515_0); (try clear hx516_0); (try clear hx517_0); (try clear hx518_0); (try clear p499); (try clear p512); (try clear p513); (try clear p514); (try clear p515); (try clear p516); (try clear p517); (try clear p518); (try clear q19); (try clear q499); (try clear q512); (try clear q513); (try clear q514); (try clear q515); (try clear q516); (try clear q517); (try clear q518)
           obtain ⟨x8_4, x15_4, x16_4, x17_4, rfl, rfl, rfl, HA, HK4, HO_8, HO_9, HO_10, HB⟩ := hrel
           have hl8_4 := (Kd.R_reads' HO_8.out).1
           rw [hl8_4] at HO_8
           (try simp only [hl8_4])
           (try simp only [hl8_4] at HO_9)
           (try simp only [hl8_4] at HO_10)
           cases gk with
           | zero => exact absurd HA.out (by simp [insolvencyref1_long.l3])
           | succ k4 =>
            have H := HA.out
            clear HA
            simp only [insolvencyref1_long.l3] at H
            by_cases c51 : x17_4 < (l1.length : Int)
            ·rw [if_pos c51] at H
             have c51b0 : decide (x17_4 < (l1.length : Int)) = true := decide_eq_true c51
             (try (have c51b0_hl8_4 := c51b0; rw [hl8_4] at c51b0_hl8_4))
             clear c51
             obtain ⟨c52, H⟩ := iN H
             have c52b0 : decide (0 ≤ x17_4) = true := decide_eq_true c52
             clear c52
             obtain ⟨c53, H⟩ := iN H
             have c53b0 : decide (x17_4 < (y506.length : Int)) = true := decide_eq_true c53
             (try (have c53b0_hl8_4 := c53b0; rw [hl8_4] at c53b0_hl8_4))
             clear c53
             obtain ⟨ji54, hji54⟩ : ∃ j_ : Int, (wrap64 (x11_2 + x17_4)) = j_ := ⟨_, rfl⟩
             first | rw [hji54] at H | simp only [hji54] at H
             have hji54w : (IntKind.i64.wrap (x11_2 + x17_4)) = ji54 := (i64_w _).trans hji54
             obtain ⟨c55, H⟩ := iN H
             have c55b0 : decide (0 ≤ (ji54)) = true := decide_eq_true c55
             clear c55
             obtain ⟨c56, H⟩ := iN H
             have c56b0 : decide ((ji54) < (x8_4.length : Int)) = true := decide_eq_true c56
             (try (have c56b0_hl8_4 := c56b0; rw [hl8_4] at c56b0_hl8_4))
             clear c56
             by_cases c57 : (IntKind.u64.wrap (rd x8_4 (ji54))) < (IntKind.u64.wrap ((Go.bits .and .u64 (IntKind.u64.wrap (x15_4 + (IntKind.u64.wrap (x13_32 * (IntKind.u64.wrap (rd y506 x17_4)))))) 4294967295) + x16_4))
             ·rw [if_pos c57] at H
              have c57b0 : decide ((IntKind.u64.wrap (rd x8_4 (ji54))) < (IntKind.u64.wrap ((Go.bits .and .u64 (IntKind.u64.wrap (x15_4 + (IntKind.u64.wrap (x13_32 * (IntKind.u64.wrap (rd y506 x17_4)))))) 4294967295) + x16_4))) = true := decide_eq_true c57
              clear c57
              obtain ⟨y521, hy521⟩ : ∃ y_ : List Int, y_ = (x8_4.set ((ji54) : Int).toNat ((IntKind.u64.wrap ((IntKind.u64.wrap ((IntKind.u64.wrap (rd x8_4 (ji54))) + 4294967296)) - (IntKind.u64.wrap ((Go.bits .and .u64 (IntKind.u64.wrap (x15_4 + (IntKind.u64.wrap (x13_32 * (IntKind.u64.wrap (rd y506 x17_4)))))) 4294967295) + x16_4)))) % 4294967296)) := ⟨_, rfl⟩
              (try first | rw [← hy521] at H | (dsimp only at H; rw [← hy521] at H)); (try rw [Option.bind_some] at H)
              have Ny521 := Aside0.mk hy521
              clear hy521
              have H' := Aside0.mk H
              clear H
              have p519 : 0 ≤ (x17_4 : Int) := oa
              have q519 : x17_4 < (y506.length : Int) := oa
              obtain ⟨ad519, e519, hx519_0⟩ := Kd.at_int (Kd.R_reads' HO_9.out).2.2 x17_4 p519 q519
              obtain rfl : ad514 = ad519 := (by injection e519)
              replace p519 := eq_true p519
              replace q519 := eq_true q519
              have p520 : 0 ≤ ((ji54) : Int) := oa
              have q520 : (ji54) < (x8_4.length : Int) := oa
              obtain ⟨ad520, e520, hx520_0⟩ := Kd.at_int (Kd.R_reads' HO_8.out).2.2 (ji54) p520 q520
              obtain rfl : ad512 = ad520 := (by injection e520)
              replace p520 := eq_true p520
              replace q520 := eq_true q520
              have p58 : 0 ≤ ((ji54) : Int) := oa
              have q58 : ((ji54) : Int) < ((x8_4.length : Int) : Int) := oa
              obtain ⟨go58, co58, eo58, gb58, gl58, cl58, HG58⟩ := Kd.R_form HO_8.out (by omega)
              (first | cases eo58 | (injection eo58 with ea_ en_ ec_; (first | subst ea_ | (injection ea_ with ea_; subst ea_)); subst ec_; clear en_))
              have GB58 := Aside0.mk gb58
              have GG58 := Aside0.mk HG58
              clear gb58 gl58 HG58
              (first | simp only [add_plain] at hx512_0 | skip)
              (first | simp only [add_plain] at hx513_0 | skip)
              (first | simp only [add_plain] at hx517_0 | skip)
              (first | simp only [add_plain] at hx520_0 | skip)
              obtain ⟨hx58_0, hf58_0⟩ := Kd.R_celln 0 HO_8.out ((ji54) : Int) p58 q58
              replace p58 := eq_true p58
              replace q58 := eq_true q58
              have HP59 := Kd.R_putg HO_8.out ((ji54) : Int) ((IntKind.u64.wrap ((IntKind.u64.wrap ((IntKind.u64.wrap (rd x8_4 (ji54))) + 4294967296)) - (IntKind.u64.wrap ((Go.bits .and .u64 (IntKind.u64.wrap (x15_4 + (IntKind.u64.wrap (x13_32 * (IntKind.u64.wrap (rd y506 x17_4)))))) 4294967295) + x16_4)))) % 4294967296)
              go_wp2_with (first | ((with_reducible refine gate_store (t := 52) (p := 169) rfl ?_); refine se 52 169 (w1 := (wr.setCell ⟨go58, ((ji54) : Int).toNat, none⟩ (.int .u32 ((IntKind.u64.wrap ((IntKind.u64.wrap ((IntKind.u64.wrap (rd x8_4 (ji54))) + 4294967296)) - (IntKind.u64.wrap ((Go.bits .and .u64 (IntKind.u64.wrap (x15_4 + (IntKind.u64.wrap (x13_32 * (IntKind.u64.wrap (rd y506 x17_4)))))) 4294967295) + x16_4)))) % 4294967296)))) ?_; intro w60 hw; have hg : wr.grownBy w60 (some go58) := (by rw [hw]; exact HP59.2); have hp_ : Kd.R (Kd.int .u32) 52 w60 w.heap.size (fun k_ => (w.heap.size ≤ k_) ∧ some k_ ≠ (.slice (some ad514) y506.length co18 : Value).ownBlock ∧ some k_ ≠ (v510 : Value).ownBlock) (.slice (some ⟨go58, 0, none⟩) x8_4.length co35) y521 := (by rw [hw, Ny521.out]; exact HP59.1); clear HP59; replace HO_8 := Aside0.mk (hp_); replace HO_9 := Aside0.mk (Kd.R_after (v := (.slice (some ⟨go58, 0, none⟩) x8_4.length co35)) (v1 := (.slice (some ⟨go58, 0, none⟩) x8_4.length co35)) (ok := (fun k_ => (w.heap.size ≤ k_) ∧ some k_ ≠ (v510 : Value).ownBlock)) (rm HO_9.out (fun _ hk => ⟨⟨hk.1, hk.2.2⟩, hk.2.1⟩)) hg (.inl rfl)); replace HO_10 := Aside0.mk (Kd.R_after (v := (.slice (some ⟨go58, 0, none⟩) x8_4.length co35)) (v1 := (.slice (some ⟨go58, 0, none⟩) x8_4.length co35)) (ok := (fun k_ => (w.heap.size ≤ k_) ∧ some k_ ≠ (.slice (some ad514) y506.length co18 : Value).ownBlock)) (rm HO_10.out (fun _ hk => ⟨⟨hk.1, hk.2.2⟩, hk.2.1⟩)) hg (.inl rfl)); replace HB := Aside0.mk ((by rw [hw]; exact below_set (HB.out) GB58.out : Below w.heap.size w w60)); clear hg hw hp_))
              (try simp only [← hl8_4])
              (refine Handed.intro k4 ?measure ?_; rotate_left; go_step; (repeat apply Exists.intro); first | refine ⟨?rel, rfl⟩ | (refine ⟨?rel, ?samestate⟩; case samestate => ((try simp only [add_plain]); rfl)))
              case measure => have := HK1.out; have := HK2.out; have := HJ32.out; have := HK4.out; omega
              case rel => exact ⟨(y521), ((IntKind.u64.wrap (x15_4 + (IntKind.u64.wrap (x13_32 * (IntKind.u64.wrap (rd y506 x17_4)))))) / 4294967296), (1), (wrap64 (x17_4 + 1)), fs, fs, fs, H', ⟨by have := HK1.out; have := HK2.out; have := HJ32.out; have := HK4.out; omega⟩, ⟨by (try simp only [hl8_4]); (with_reducible repeat (first | apply Kd.R_alloc | apply Kd.R_drewN | apply Kd.R_drew)); exact HO_8.out⟩, ⟨by (try simp only [hl8_4]); (with_reducible repeat (first | apply Kd.R_alloc | apply Kd.R_drewN | apply Kd.R_drew)); exact Kd.R_mono HO_9.out (fun _ hk => ⟨hk.1.1, ⟨hk.2, hk.1.2⟩⟩)⟩, ⟨by (try simp only [hl8_4]); (with_reducible repeat (first | apply Kd.R_alloc | apply Kd.R_drewN | apply Kd.R_drew)); exact Kd.R_mono HO_10.out (fun _ hk => ⟨hk.1.1, ⟨hk.2, hk.1.2⟩⟩)⟩, ⟨bz HB.out⟩⟩
             ·rw [if_neg c57] at H
              have c57b0 : decide ((IntKind.u64.wrap (rd x8_4 (ji54))) < (IntKind.u64.wrap ((Go.bits .and .u64 (IntKind.u64.wrap (x15_4 + (IntKind.u64.wrap (x13_32 * (IntKind.u64.wrap (rd y506 x17_4)))))) 4294967295) + x16_4))) = false := decide_eq_false c57
              clear c57
              obtain ⟨y522, hy522⟩ : ∃ y_ : List Int, y_ = (x8_4.set ((ji54) : Int).toNat ((IntKind.u64.wrap ((IntKind.u64.wrap (rd x8_4 (ji54))) - (IntKind.u64.wrap ((Go.bits .and .u64 (IntKind.u64.wrap (x15_4 + (IntKind.u64.wrap (x13_32 * (IntKind.u64.wrap (rd y506 x17_4)))))) 4294967295) + x16_4)))) % 4294967296)) := ⟨_, rfl⟩
              (try first | rw [← hy522] at H | (dsimp only at H; rw [← hy522] at H)); (try rw [Option.bind_some] at H)
              have Ny522 := Aside0.mk hy522
              clear hy522
              have H' := Aside0.mk H
              clear H
              have p519 : 0 ≤ (x17_4 : Int) := oa
              have q519 : x17_4 < (y506.length : Int) := oa
              obtain ⟨ad519, e519, hx519_0⟩ := Kd.at_int (Kd.R_reads' HO_9.out).2.2 x17_4 p519 q519
              obtain rfl : ad514 = ad519 := (by injection e519)
              replace p519 := eq_true p519
              replace q519 := eq_true q519
              have p520 : 0 ≤ ((ji54) : Int) := oa
              have q520 : (ji54) < (x8_4.length : Int) := oa
              obtain ⟨ad520, e520, hx520_0⟩ := Kd.at_int (Kd.R_reads' HO_8.out).2.2 (ji54) p520 q520
              obtain rfl : ad512 = ad520 := (by injection e520)
              replace p520 := eq_true p520
              replace q520 := eq_true q520
              have p61 : 0 ≤ ((ji54) : Int) := oa
              have q61 : ((ji54) : Int) < ((x8_4.length : Int) : Int) := oa
              obtain ⟨go61, co61, eo61, gb61, gl61, cl61, HG61⟩ := Kd.R_form HO_8.out (by omega)
              (first | cases eo61 | (injection eo61 with ea_ en_ ec_; (first | subst ea_ | (injection ea_ with ea_; subst ea_)); subst ec_; clear en_))
              have GB61 := Aside0.mk gb61
              have GG61 := Aside0.mk HG61
              clear gb61 gl61 HG61
              (first | simp only [add_plain] at hx520_0 | skip)
              obtain ⟨hx61_0, hf61_0⟩ := Kd.R_celln 0 HO_8.out ((ji54) : Int) p61 q61
              replace p61 := eq_true p61
              replace q61 := eq_true q61
              have HP62 := Kd.R_putg HO_8.out ((ji54) : Int) ((IntKind.u64.wrap ((IntKind.u64.wrap (rd x8_4 (ji54))) - (IntKind.u64.wrap ((Go.bits .and .u64 (IntKind.u64.wrap (x15_4 + (IntKind.u64.wrap (x13_32 * (IntKind.u64.wrap (rd y506 x17_4)))))) 4294967295) + x16_4)))) % 4294967296)
              go_wp2_with (first | ((with_reducible refine gate_store (t := 52) (p := 169) rfl ?_); refine se 52 169 (w1 := (wr.setCell ⟨go61, ((ji54) : Int).toNat, none⟩ (.int .u32 ((IntKind.u64.wrap ((IntKind.u64.wrap (rd x8_4 (ji54))) - (IntKind.u64.wrap ((Go.bits .and .u64 (IntKind.u64.wrap (x15_4 + (IntKind.u64.wrap (x13_32 * (IntKind.u64.wrap (rd y506 x17_4)))))) 4294967295) + x16_4)))) % 4294967296)))) ?_; intro w63 hw; have hg : wr.grownBy w63 (some go61) := (by rw [hw]; exact HP62.2); have hp_ : Kd.R (Kd.int .u32) 52 w63 w.heap.size (fun k_ => (w.heap.size ≤ k_) ∧ some k_ ≠ (.slice (some ad514) y506.length co18 : Value).ownBlock ∧ some k_ ≠ (v510 : Value).ownBlock) (.slice (some ⟨go61, 0, none⟩) x8_4.length co35) y522 := (by rw [hw, Ny522.out]; exact HP62.1); clear HP62; replace HO_8 := Aside0.mk (hp_); replace HO_9 := Aside0.mk (Kd.R_after (v := (.slice (some ⟨go61, 0, none⟩) x8_4.length co35)) (v1 := (.slice (some ⟨go61, 0, none⟩) x8_4.length co35)) (ok := (fun k_ => (w.heap.size ≤ k_) ∧ some k_ ≠ (v510 : Value).ownBlock)) (rm HO_9.out (fun _ hk => ⟨⟨hk.1, hk.2.2⟩, hk.2.1⟩)) hg (.inl rfl)); replace HO_10 := Aside0.mk (Kd.R_after (v := (.slice (some ⟨go61, 0, none⟩) x8_4.length co35)) (v1 := (.slice (some ⟨go61, 0, none⟩) x8_4.length co35)) (ok := (fun k_ => (w.heap.size ≤ k_) ∧ some k_ ≠ (.slice (some ad514) y506.length co18 : Value).ownBlock)) (rm HO_10.out (fun _ hk => ⟨⟨hk.1, hk.2.2⟩, hk.2.1⟩)) hg (.inl rfl)); replace HB := Aside0.mk ((by rw [hw]; exact below_set (HB.out) GB61.out : Below w.heap.size w w63)); clear hg hw hp_))
              (try simp only [← hl8_4])
              (refine Handed.intro k4 ?measure ?_; rotate_left; go_step; (repeat apply Exists.intro); first | refine ⟨?rel, rfl⟩ | (refine ⟨?rel, ?samestate⟩; case samestate => ((try simp only [add_plain]); rfl)))
              case measure => have := HK1.out; have := HK2.out; have := HJ32.out; have := HK4.out; omega
              case rel => exact ⟨(y522), ((IntKind.u64.wrap (x15_4 + (IntKind.u64.wrap (x13_32 * (IntKind.u64.wrap (rd y506 x17_4)))))) / 4294967296), (0), (wrap64 (x17_4 + 1)), fs, fs, fs, H', ⟨by have := HK1.out; have := HK2.out; have := HJ32.out; have := HK4.out; omega⟩, ⟨by (try simp only [hl8_4]); (with_reducible repeat (first | apply Kd.R_alloc | apply Kd.R_drewN | apply Kd.R_drew)); exact HO_8.out⟩, ⟨by (try simp only [hl8_4]); (with_reducible repeat (first | apply Kd.R_alloc | apply Kd.R_drewN | apply Kd.R_drew)); exact Kd.R_mono HO_9.out (fun _ hk => ⟨hk.1.1, ⟨hk.2, hk.1.2⟩⟩)⟩, ⟨by (try simp only [hl8_4]); (with_reducible repeat (first | apply Kd.R_alloc | apply Kd.R_drewN | apply Kd.R_drew)); exact Kd.R_mono HO_10.out (fun _ hk => ⟨hk.1.1, ⟨hk.2, hk.1.2⟩⟩)⟩, ⟨bz HB.out⟩⟩
            ·rw [if_neg c51] at H
             have c51b0 : decide (x17_4 < (l1.length : Int)) = false := decide_eq_false c51
             (try (have c51b0_hl8_4 := c51b0; rw [hl8_4] at c51b0_hl8_4))
             clear c51
             (try clear hji23w); (try clear hji23)
             obtain ⟨ji64, hji64⟩ : ∃ j_ : Int, (wrap64 (x11_2 + (l1.length : Int))) = j_ := ⟨_, rfl⟩
             first | rw [hji64] at H | simp only [hji64] at H
             have hji64w : (IntKind.i64.wrap (x11_2 + (l1.length : Int))) = ji64 := (i64_w _).trans hji64
             obtain ⟨c65, H⟩ := iN H
             have c65b0 : decide (0 ≤ (ji64)) = true := decide_eq_true c65
             clear c65
             obtain ⟨c66, H⟩ := iN H
             have c66b0 : decide ((ji64) < (x8_4.length : Int)) = true := decide_eq_true c66
             (try (have c66b0_hl8_4 := c66b0; rw [hl8_4] at c66b0_hl8_4))
             clear c66
             obtain ⟨y524, hy524⟩ : ∃ y_ : List Int, y_ = (x8_4.set ((ji64) : Int).toNat ((IntKind.u64.wrap ((IntKind.u64.wrap (rd x8_4 (ji64))) - (IntKind.u64.wrap (x15_4 + x16_4)))) % 4294967296)) := ⟨_, rfl⟩
             (try first | rw [← hy524] at H | (dsimp only at H; rw [← hy524] at H)); (try rw [Option.bind_some] at H)
             have Ny524 := Aside0.mk hy524
             clear hy524
             by_cases c68 : (IntKind.u64.wrap (rd x8_4 (ji64))) < (IntKind.u64.wrap (x15_4 + x16_4))
             ·rw [if_pos c68] at H
              have c68b0 : decide ((IntKind.u64.wrap (rd x8_4 (ji64))) < (IntKind.u64.wrap (x15_4 + x16_4))) = true := decide_eq_true c68
              clear c68
              have H' := Aside0.mk H
              clear H
              have p523 : 0 ≤ ((ji64) : Int) := oa
              have q523 : (ji64) < (x8_4.length : Int) := oa
              obtain ⟨ad523, e523, hx523_0⟩ := Kd.at_int (Kd.R_reads' HO_8.out).2.2 (ji64) p523 q523
              obtain rfl : ad512 = ad523 := (by injection e523)
              replace p523 := eq_true p523
              replace q523 := eq_true q523
              have p67 : 0 ≤ ((ji64) : Int) := oa
              have q67 : ((ji64) : Int) < ((x8_4.length : Int) : Int) := oa
              obtain ⟨go67, co67, eo67, gb67, gl67, cl67, HG67⟩ := Kd.R_form HO_8.out (by omega)
              (first | cases eo67 | (injection eo67 with ea_ en_ ec_; (first | subst ea_ | (injection ea_ with ea_; subst ea_)); subst ec_; clear en_))
              have GB67 := Aside0.mk gb67
              have GG67 := Aside0.mk HG67
              clear gb67 gl67 HG67
              (first | simp only [add_plain] at hx523_0 | skip)
              obtain ⟨hx67_0, hf67_0⟩ := Kd.R_celln 0 HO_8.out ((ji64) : Int) p67 q67
              replace p67 := eq_true p67
              replace q67 := eq_true q67
              have HP69 := Kd.R_putg HO_8.out ((ji64) : Int) ((IntKind.u64.wrap ((IntKind.u64.wrap (rd x8_4 (ji64))) - (IntKind.u64.wrap (x15_4 + x16_4)))) % 4294967296)
              go_wp2_with (first | ((with_reducible refine gate_store (t := 52) (p := 191) rfl ?_); refine se 52 191 (w1 := (wr.setCell ⟨go67, ((ji64) : Int).toNat, none⟩ (.int .u32 ((IntKind.u64.wrap ((IntKind.u64.wrap (rd x8_4 (ji64))) - (IntKind.u64.wrap (x15_4 + x16_4)))) % 4294967296)))) ?_; intro w70 hw; have hg : wr.grownBy w70 (some go67) := (by rw [hw]; exact HP69.2); have hp_ : Kd.R (Kd.int .u32) 52 w70 w.heap.size (fun k_ => (w.heap.size ≤ k_) ∧ some k_ ≠ (.slice (some ad514) y506.length co18 : Value).ownBlock ∧ some k_ ≠ (v510 : Value).ownBlock) (.slice (some ⟨go67, 0, none⟩) x8_4.length co35) y524 := (by rw [hw, Ny524.out]; exact HP69.1); clear HP69; replace HO_8 := Aside0.mk (hp_); replace HO_9 := Aside0.mk (Kd.R_after (v := (.slice (some ⟨go67, 0, none⟩) x8_4.length co35)) (v1 := (.slice (some ⟨go67, 0, none⟩) x8_4.length co35)) (ok := (fun k_ => (w.heap.size ≤ k_) ∧ some k_ ≠ (v510 : Value).ownBlock)) (rm HO_9.out (fun _ hk => ⟨⟨hk.1, hk.2.2⟩, hk.2.1⟩)) hg (.inl rfl)); replace HO_10 := Aside0.mk (Kd.R_after (v := (.slice (some ⟨go67, 0, none⟩) x8_4.length co35)) (v1 := (.slice (some ⟨go67, 0, none⟩) x8_4.length co35)) (ok := (fun k_ => (w.heap.size ≤ k_) ∧ some k_ ≠ (.slice (some ad514) y506.length co18 : Value).ownBlock)) (rm HO_10.out (fun _ hk => ⟨⟨hk.1, hk.2.2⟩, hk.2.1⟩)) hg (.inl rfl)); replace HB := Aside0.mk ((by rw [hw]; exact below_set (HB.out) GB67.out : Below w.heap.size w w70)); clear hg hw hp_))
              go_loopg [15, 23] k4 (fun kq v15 v23 w' => ∃ (x8_5 : List Int) (x15_5 : Int) (x23_5 : Int), v15 = .int .u64 x15_5 ∧ v23 = .int .i64 x23_5 ∧ Aside0 (insolvencyref1_long.l4 kq (l1.length : Int) x7_1 x8_5 y506 x10_2 x11_2 (IntKind.u64.wrap (x13_32 - 1)) x15_5 x23_5 = some (r1, r2)) ∧ Aside0 (kq ≤ k4) ∧ Aside0 (Kd.R (Kd.int .u32) 52 w' w.heap.size (fun k_ => (w.heap.size ≤ k_) ∧ some k_ ≠ ((.slice (some ad514) y506.length co18) : Value).ownBlock ∧ some k_ ≠ (v510 : Value).ownBlock) (.slice (some ⟨go67, 0, none⟩) x8_4.length co35) x8_5) ∧ Aside0 (Kd.R (Kd.int .u32) 52 w' w.heap.size (fun k_ => (w.heap.size ≤ k_) ∧ some k_ ≠ ((.slice (some ⟨go67, 0, none⟩) x8_4.length co35) : Value).ownBlock ∧ some k_ ≠ (v510 : Value).ownBlock) (.slice (some ad514) y506.length co18) y506) ∧ Aside0 (Kd.R (Kd.int .u32) 52 w' w.heap.size (fun k_ => (w.heap.size ≤ k_) ∧ some k_ ≠ ((.slice (some ⟨go67, 0, none⟩) x8_4.length co35) : Value).ownBlock ∧ some k_ ≠ ((.slice (some ad514) y506.length co18) : Value).ownBlock) v510 x10_2) ∧ Aside0 (Below w.heap.size w w'))
              case atStart => exact ⟨(y524), (0), (0), fs, fs, H', ⟨Nat.le_refl _⟩, ⟨by (try simp only [hl8_4]); (with_reducible repeat (first | apply Kd.R_alloc | apply Kd.R_drewN | apply Kd.R_drew)); exact HO_8.out⟩, ⟨by (try simp only [hl8_4]); (with_reducible repeat (first | apply Kd.R_alloc | apply Kd.R_drewN | apply Kd.R_drew)); exact Kd.R_mono HO_9.out (fun _ hk => ⟨hk.1.1, ⟨hk.2, hk.1.2⟩⟩)⟩, ⟨by (try simp only [hl8_4]); (with_reducible repeat (first | apply Kd.R_alloc | apply Kd.R_drewN | apply Kd.R_drew)); exact Kd.R_mono HO_10.out (fun _ hk => ⟨hk.1.1, ⟨hk.2, hk.1.2⟩⟩)⟩, ⟨bz HB.out⟩⟩
              case round =>
               clear H'
               (try clear c1); (try clear c4b0); (try clear c5b0); (try clear c6b0); (try clear c6b1); (try clear c8b0); (try clear c11b0); (try clear c11b1); (try clear c12b0); (try clear c12b1); (try clear c14b0); (try clear c14b1); (try clear c15b0); (try clear c15b1); (try clear q19); (try clear c22b0); (try clear c24b0); (try clear c25b0); (try clear c27b0); (try clear c28b0); (try clear c30b0); (try clear c31b0); (try clear c32); (try clear c32b0); (try clear c32b1); (try clear c37b0); (try clear c40b0); (try clear c41b0); (try clear c43b0); (try clear c44b0); (try clear c46); (try clear c48b0); (try clear c49b0); (try clear c50b0); (try clear c51b0); (try clear c52b0); (try clear c53b0); (try clear c55b0); (try clear c56b0); (try clear c57b0); (try clear p58); (try clear q58); (try clear p61); (try clear q61); (try clear c65b0); (try clear c66b0); (try clear p67); (try clear q67); (try clear c68b0); (try clear hx499_0); (try clear hx512_0); (try clear hx513_0); (try clear hx514_0); (try clear hx515_0); (try clear hx516_0); (try clear hx517_0); (try clear hx518_0); (try clear hx519_0); (try clear hx520_0); (try clear hx523_0); (try clear hx58_0); (try clear hx61_0); (try clear hx67_0); (try clear p499); (try clear p512); (try clear p513); (try clear p514); (try clear p515); (try clear p516); (try clear p517); (try clear p518); (try clear p519); (try clear p520); (try clear p523); (try clear p58); (try clear p61); (try clear p67); (try clear q19); (try clear q499); (try clear q512); (try clear q513); (try clear q514); (try clear q515); (try clear q516); (try clear q517); (try clear q518); (try clear q519); (try clear q520); (try clear q523); (try clear q58); (try clear q61); (try clear q67)
               obtain ⟨x8_5, x15_5, x23_5, rfl, rfl, HA, HK5, HO_8, HO_9, HO_10, HB⟩ := hrel
               have hl8_5 := (Kd.R_reads' HO_8.out).1
               rw [hl8_5] at HO_8
               (try simp only [hl8_5])
               (try simp only [hl8_5] at HO_9)
               (try simp only [hl8_5] at HO_10)
               cases gk with
               | zero => exact absurd HA.out (by simp [insolvencyref1_long.l4])
               | succ k5 =>
                have H := HA.out
                clear HA
                simp only [insolvencyref1_long.l4] at H
                by_cases c71 : x23_5 < (l1.length : Int)
                ·rw [if_pos c71] at H
                 have c71b0 : decide (x23_5 < (l1.length : Int)) = true := decide_eq_true c71
                 (try (have c71b0_hl8_4 := c71b0; rw [hl8_4] at c71b0_hl8_4))
                 (try (have c71b0_hl8_5 := c71b0; rw [hl8_5] at c71b0_hl8_5))
                 clear c71
                 obtain ⟨ji72, hji72⟩ : ∃ j_ : Int, (wrap64 (x11_2 + x23_5)) = j_ := ⟨_, rfl⟩
                 first | rw [hji72] at H | simp only [hji72] at H
                 have hji72w : (IntKind.i64.wrap (x11_2 + x23_5)) = ji72 := (i64_w _).trans hji72
                 obtain ⟨c73, H⟩ := iN H
                 have c73b0 : decide (0 ≤ (ji72)) = true := decide_eq_true c73
                 clear c73
                 obtain ⟨c74, H⟩ := iN H
                 have c74b0 : decide ((ji72) < (x8_5.length : Int)) = true := decide_eq_true c74
                 (try (have c74b0_hl8_4 := c74b0; rw [hl8_4] at c74b0_hl8_4))
                 (try (have c74b0_hl8_5 := c74b0; rw [hl8_5] at c74b0_hl8_5))
                 clear c74
                 obtain ⟨c75, H⟩ := iN H
                 have c75b0 : decide (0 ≤ x23_5) = true := decide_eq_true c75
                 clear c75
                 obtain ⟨c76, H⟩ := iN H
                 have c76b0 : decide (x23_5 < (y506.length : Int)) = true := decide_eq_true c76
                 (try (have c76b0_hl8_4 := c76b0; rw [hl8_4] at c76b0_hl8_4))
                 (try (have c76b0_hl8_5 := c76b0; rw [hl8_5] at c76b0_hl8_5))
                 clear c76
                 obtain ⟨y527, hy527⟩ : ∃ y_ : List Int, y_ = (x8_5.set ((ji72) : Int).toNat ((IntKind.u64.wrap ((IntKind.u64.wrap (x15_5 + (IntKind.u64.wrap (rd x8_5 (ji72))))) + (IntKind.u64.wrap (rd y506 x23_5)))) % 4294967296)) := ⟨_, rfl⟩
                 (try first | rw [← hy527] at H | (dsimp only at H; rw [← hy527] at H)); (try rw [Option.bind_some] at H)
                 have Ny527 := Aside0.mk hy527
                 clear hy527
                 have H' := Aside0.mk H
                 clear H
                 try go_wp2
                 replace HO_8 := Aside0.mk (Kd.R_drew HO_8.out)
                 replace HO_9 := Aside0.mk (Kd.R_drew HO_9.out)
                 replace HO_10 := Aside0.mk (Kd.R_drew HO_10.out)
                 replace HB := Aside0.mk (below_drew1 HB.out)
                 have p525 : 0 ≤ ((ji72) : Int) := oa
                 have q525 : (ji72) < (x8_5.length : Int) := oa
                 obtain ⟨ad525, e525, hx525_0⟩ := Kd.at_int (Kd.R_reads' HO_8.out).2.2 (ji72) p525 q525
                 obtain rfl : (⟨go67, 0, none⟩ : Addr) = ad525 := (by injection e525)
                 (first | simp only [add_plain] at hx525_0 | simp only [add_at] at hx525_0 | simp only [Addr.add, Nat.zero_add] at hx525_0 | skip)
                 replace p525 := eq_true p525
                 replace q525 := eq_true q525
                 have p526 : 0 ≤ (x23_5 : Int) := oa
                 have q526 : x23_5 < (y506.length : Int) := oa
                 obtain ⟨ad526, e526, hx526_0⟩ := Kd.at_int (Kd.R_reads' HO_9.out).2.2 x23_5 p526 q526
                 obtain rfl : ad514 = ad526 := (by injection e526)
                 replace p526 := eq_true p526
                 replace q526 := eq_true q526
                 refine start_ (n := 16) (S := fun w' => w'.cell? ⟨go67, ((ji72)).toNat, none⟩ = some (.int .u32 (rd x8_5 (ji72))) ∧ w'.cell? (ad514.add (x23_5).toNat) = some (.int .u32 (rd y506 x23_5))) (ds := []) #[false, false, false, false, false, false, false, false, false, false, false, false, false, false, false, false] (by kernel_rfl) rfl rfl ⟨hx525_0, hx526_0⟩ (fun hHeld => ?_); refine with_tabW insolvencyref1_long.tab42 insolvencyref1_long.bits42 (fun HT_ HW_ => ?_)
                 generalize wr.drew = w78 at HO_8 HO_9 HO_10 HB hx525_0 hx526_0 hHeld ⊢
                 refine py 0 (some 200) #[true, false, false, false, false, false, false, false, false, false, false, false, false, false, false, false] HT_ ?_
                 refine py 1 (some 201) #[true, true, false, false, false, false, false, false, false, false, false, false, false, false, false, false] HT_ ?_
                 refine py 2 (some 202) #[true, true, true, false, false, false, false, false, false, false, false, false, false, false, false, false] HT_ ?_
                 refine py 3 (some 203) #[true, true, true, true, false, false, false, false, false, false, false, false, false, false, false, false] HT_ ?_
                 refine py 4 (some 204) #[true, true, true, true, true, false, false, false, false, false, false, false, false, false, false, false] HT_ ?_
                 refine py 5 (some 205) #[true, true, true, true, true, true, false, false, false, false, false, false, false, false, false, false] HT_ ?_
                 refine py 9 (some 209) #[true, true, true, true, true, true, false, false, false, true, false, false, false, false, false, false] HT_ ?_
                 refine py 10 (some 210) #[true, true, true, true, true, true, false, false, false, true, true, false, false, false, false, false] HT_ ?_
                 refine py 11 (some 211) #[true, true, true, true, true, true, false, false, false, true, true, true, false, false, false, false] HT_ ?_
                 refine take_ (i := 6) (N := some 206) (v := ?_) (a' := ?_) #[true, true, true, true, true, true, true, false, false, true, true, true, false, false, false, false] rfl rfl (take_ofW HT_.out HW_.out (by kernel_rfl)) (fun _ _ _ h => h) (Or.inl ⟨by rfl, ?_⟩) hHeld ?_ ?_
                 rotate_left
                 ·rintro w' ⟨s0, s1⟩
                  go_simp
                  with_reducible rfl
                 rotate_left
                 ·simp only [Act.put, List.setIfInBounds_toArray, List.set_cons_zero, List.set_cons_succ, i64_w, i32_w]
                  rfl
                 refine py 7 (some 207) #[true, true, true, true, true, true, true, true, false, true, true, true, false, false, false, false] HT_ ?_
                 refine py 8 (some 208) #[true, true, true, true, true, true, true, true, true, true, true, true, false, false, false, false] HT_ ?_
                 refine take_ (i := 12) (N := some 212) (v := ?_) (a' := ?_) #[true, true, true, true, true, true, true, true, true, true, true, true, true, false, false, false] rfl rfl (take_ofW HT_.out HW_.out (by kernel_rfl)) (fun _ _ _ h => h) (Or.inl ⟨by rfl, ?_⟩) hHeld ?_ ?_
                 rotate_left
                 ·rintro w' ⟨s0, s1⟩
                  go_simp
                  with_reducible rfl
                 rotate_left
                 ·simp only [Act.put, List.setIfInBounds_toArray, List.set_cons_zero, List.set_cons_succ, i64_w, i32_w]
                  rfl
                 refine py 13 (some 213) #[true, true, true, true, true, true, true, true, true, true, true, true, true, true, false, false] HT_ ?_
                 refine py 14 (some 214) #[true, true, true, true, true, true, true, true, true, true, true, true, true, true, true, false] HT_ ?_
                 refine py 15 (some 15) #[true, true, true, true, true, true, true, true, true, true, true, true, true, true, true, true] HT_ ?_
                 refine done_ (done_of HT_.out (by kernel_rfl)) ?_
                 have p77 : 0 ≤ ((ji72) : Int) := oa
                 have q77 : ((ji72) : Int) < ((x8_5.length : Int) : Int) := oa
                 obtain ⟨hx77_0, hf77_0⟩ := Kd.R_celln 0 HO_8.out ((ji72) : Int) p77 q77
                 replace p77 := eq_true p77
                 replace q77 := eq_true q77
                 obtain ⟨hy79_, hz79_⟩ := Kd.R_celln 0 HO_8.out ((ji72) : Int) oa oa
                 have HP79 := Kd.R_putg HO_8.out ((ji72) : Int) ((IntKind.u64.wrap ((IntKind.u64.wrap (x15_5 + (IntKind.u64.wrap (rd x8_5 (ji72))))) + (IntKind.u64.wrap (rd y506 x23_5)))) % 4294967296)
                 try go_wp2_with (first | ((with_reducible refine gate_store (t := 52) (p := 221) rfl ?_); refine se 52 221 (w1 := (w78.setCell ⟨go67, ((ji72) : Int).toNat, none⟩ (.int .u32 ((IntKind.u64.wrap ((IntKind.u64.wrap (x15_5 + (IntKind.u64.wrap (rd x8_5 (ji72))))) + (IntKind.u64.wrap (rd y506 x23_5)))) % 4294967296)))) ?_; intro w80 hw; have hg : w78.grownBy w80 (some go67) := (by rw [hw]; exact HP79.2); have hp_ : Kd.R (Kd.int .u32) 52 w80 w.heap.size (fun k_ => (w.heap.size ≤ k_) ∧ some k_ ≠ (.slice (some ad514) y506.length co18 : Value).ownBlock ∧ some k_ ≠ (v510 : Value).ownBlock) (.slice (some ⟨go67, 0, none⟩) x8_5.length co35) y527 := (by rw [hw, Ny527.out]; exact HP79.1); clear HP79; replace HO_8 := Aside0.mk (hp_); replace HO_9 := Aside0.mk (Kd.R_after (v := (.slice (some ⟨go67, 0, none⟩) x8_5.length co35)) (v1 := (.slice (some ⟨go67, 0, none⟩) x8_5.length co35)) (ok := (fun k_ => (w.heap.size ≤ k_) ∧ some k_ ≠ (v510 : Value).ownBlock)) (rm HO_9.out (fun _ hk => ⟨⟨hk.1, hk.2.2⟩, hk.2.1⟩)) hg (.inl rfl)); replace HO_10 := Aside0.mk (Kd.R_after (v := (.slice (some ⟨go67, 0, none⟩) x8_5.length co35)) (v1 := (.slice (some ⟨go67, 0, none⟩) x8_5.length co35)) (ok := (fun k_ => (w.heap.size ≤ k_) ∧ some k_ ≠ (.slice (some ad514) y506.length co18 : Value).ownBlock)) (rm HO_10.out (fun _ hk => ⟨⟨hk.1, hk.2.2⟩, hk.2.1⟩)) hg (.inl rfl)); replace HB := Aside0.mk ((by rw [hw]; exact below_set (HB.out) GB67.out : Below w.heap.size w w80)); clear hg hw hp_))
                 (try simp only [← hl8_5])
                 (refine Handed.intro k5 ?measure ?_; rotate_left; go_step; (repeat apply Exists.intro); first | refine ⟨?rel, rfl⟩ | (refine ⟨?rel, ?samestate⟩; case samestate => ((try simp only [add_plain]); rfl)))
                 case measure => have := HK1.out; have := HK2.out; have := HJ32.out; have := HK4.out; have := HK5.out; omega
                 case rel => exact ⟨(y527), ((IntKind.u64.wrap ((IntKind.u64.wrap (x15_5 + (IntKind.u64.wrap (rd x8_5 (ji72))))) + (IntKind.u64.wrap (rd y506 x23_5)))) / 4294967296), (wrap64 (x23_5 + 1)), (by first | rfl | (simp; done) | (simp only [← hji72] <;> (first | rfl | simp)) | (simp [*]; done)), fs, H', ⟨by have := HK1.out; have := HK2.out; have := HJ32.out; have := HK4.out; have := HK5.out; omega⟩, ⟨by (try simp only [hl8_4]); (try simp only [hl8_5]); (with_reducible repeat (first | apply Kd.R_alloc | apply Kd.R_drewN | apply Kd.R_drew)); exact HO_8.out⟩, ⟨by (try simp only [hl8_4]); (try simp only [hl8_5]); (with_reducible repeat (first | apply Kd.R_alloc | apply Kd.R_drewN | apply Kd.R_drew)); exact Kd.R_mono HO_9.out (fun _ hk => ⟨hk.1.1, ⟨hk.2, hk.1.2⟩⟩)⟩, ⟨by (try simp only [hl8_4]); (try simp only [hl8_5]); (with_reducible repeat (first | apply Kd.R_alloc | apply Kd.R_drewN | apply Kd.R_drew)); exact Kd.R_mono HO_10.out (fun _ hk => ⟨hk.1.1, ⟨hk.2, hk.1.2⟩⟩)⟩, ⟨bz HB.out⟩⟩
                ·rw [if_neg c71] at H
                 have c71b0 : decide (x23_5 < (l1.length : Int)) = false := decide_eq_false c71
                 (try (have c71b0_hl8_4 := c71b0; rw [hl8_4] at c71b0_hl8_4))
                 (try (have c71b0_hl8_5 := c71b0; rw [hl8_5] at c71b0_hl8_5))
                 clear c71
                 (try clear hji23w); (try clear hji23)
                 (try clear hji64w); (try clear hji64)
                 obtain ⟨ji81, hji81⟩ : ∃ j_ : Int, (wrap64 (x11_2 + (l1.length : Int))) = j_ := ⟨_, rfl⟩
                 first | rw [hji81] at H | simp only [hji81] at H
                 have hji81w : (IntKind.i64.wrap (x11_2 + (l1.length : Int))) = ji81 := (i64_w _).trans hji81
                 obtain ⟨c82, H⟩ := iN H
                 have c82b0 : decide (0 ≤ (ji81)) = true := decide_eq_true c82
                 clear c82
                 obtain ⟨c83, H⟩ := iN H
                 have c83b0 : decide ((ji81) < (x8_5.length : Int)) = true := decide_eq_true c83
                 (try (have c83b0_hl8_4 := c83b0; rw [hl8_4] at c83b0_hl8_4))
                 (try (have c83b0_hl8_5 := c83b0; rw [hl8_5] at c83b0_hl8_5))
                 clear c83
                 obtain ⟨y529, hy529⟩ : ∃ y_ : List Int, y_ = (x8_5.set ((ji81) : Int).toNat (((rd x8_5 (ji81)) + ((x15_5) % 4294967296)) % 4294967296)) := ⟨_, rfl⟩
                 (try first | rw [← hy529] at H | (dsimp only at H; rw [← hy529] at H)); (try rw [Option.bind_some] at H)
                 have Ny529 := Aside0.mk hy529
                 clear hy529
                 obtain ⟨c85, H⟩ := iN H
                 have c85b0 : decide (0 ≤ x11_2) = true := decide_eq_true c85
                 clear c85
                 obtain ⟨c86, H⟩ := iN H
                 have c86b0 : decide (x11_2 < (x10_2.length : Int)) = true := decide_eq_true c86
                 (try (have c86b0_hl8_4 := c86b0; rw [hl8_4] at c86b0_hl8_4))
                 (try (have c86b0_hl8_5 := c86b0; rw [hl8_5] at c86b0_hl8_5))
                 clear c86
                 obtain ⟨y530, hy530⟩ : ∃ y_ : List Int, y_ = (x10_2.set (x11_2 : Int).toNat (((IntKind.u64.wrap (x13_32 - 1))) % 4294967296)) := ⟨_, rfl⟩
                 (try first | rw [← hy530] at H | (dsimp only at H; rw [← hy530] at H)); (try rw [Option.bind_some] at H)
                 have Ny530 := Aside0.mk hy530
                 clear hy530
                 have H' := Aside0.mk H
                 clear H
                 have p528 : 0 ≤ ((ji81) : Int) := oa
                 have q528 : (ji81) < (x8_5.length : Int) := oa
                 obtain ⟨ad528, e528, hx528_0⟩ := Kd.at_int (Kd.R_reads' HO_8.out).2.2 (ji81) p528 q528
                 obtain rfl : (⟨go67, 0, none⟩ : Addr) = ad528 := (by injection e528)
                 (first | simp only [add_plain] at hx528_0 | simp only [add_at] at hx528_0 | simp only [Addr.add, Nat.zero_add] at hx528_0 | skip)
                 replace p528 := eq_true p528
                 replace q528 := eq_true q528
                 have p84 : 0 ≤ ((ji81) : Int) := oa
                 have q84 : ((ji81) : Int) < ((x8_5.length : Int) : Int) := oa
                 obtain ⟨hx84_0, hf84_0⟩ := Kd.R_celln 0 HO_8.out ((ji81) : Int) p84 q84
                 replace p84 := eq_true p84
                 replace q84 := eq_true q84
                 have HP88 := Kd.R_putg HO_8.out ((ji81) : Int) (((rd x8_5 (ji81)) + ((x15_5) % 4294967296)) % 4294967296)
                 go_wp2_with (first | ((with_reducible refine gate_store (t := 52) (p := 237) rfl ?_); refine se 52 237 (w1 := (wr.setCell ⟨go67, ((ji81) : Int).toNat, none⟩ (.int .u32 (((rd x8_5 (ji81)) + ((x15_5) % 4294967296)) % 4294967296)))) ?_; intro w89 hw; have hg : wr.grownBy w89 (some go67) := (by rw [hw]; exact HP88.2); have hp_ : Kd.R (Kd.int .u32) 52 w89 w.heap.size (fun k_ => (w.heap.size ≤ k_) ∧ some k_ ≠ (.slice (some ad514) y506.length co18 : Value).ownBlock ∧ some k_ ≠ (v510 : Value).ownBlock) (.slice (some ⟨go67, 0, none⟩) x8_5.length co35) y529 := (by rw [hw, Ny529.out]; exact HP88.1); clear HP88; replace HO_8 := Aside0.mk (hp_); replace HO_9 := Aside0.mk (Kd.R_after (v := (.slice (some ⟨go67, 0, none⟩) x8_5.length co35)) (v1 := (.slice (some ⟨go67, 0, none⟩) x8_5.length co35)) (ok := (fun k_ => (w.heap.size ≤ k_) ∧ some k_ ≠ (v510 : Value).ownBlock)) (rm HO_9.out (fun _ hk => ⟨⟨hk.1, hk.2.2⟩, hk.2.1⟩)) hg (.inl rfl)); replace HO_10 := Aside0.mk (Kd.R_after (v := (.slice (some ⟨go67, 0, none⟩) x8_5.length co35)) (v1 := (.slice (some ⟨go67, 0, none⟩) x8_5.length co35)) (ok := (fun k_ => (w.heap.size ≤ k_) ∧ some k_ ≠ (.slice (some ad514) y506.length co18 : Value).ownBlock)) (rm HO_10.out (fun _ hk => ⟨⟨hk.1, hk.2.2⟩, hk.2.1⟩)) hg (.inl rfl)); replace HB := Aside0.mk ((by rw [hw]; exact below_set (HB.out) GB67.out : Below w.heap.size w w89)); clear hg hw hp_; have p87 : 0 ≤ (x11_2 : Int) := oa; have q87 : (x11_2 : Int) < ((x10_2.length : Int) : Int) := oa; obtain ⟨go87, co87, eo87, gb87, gl87, cl87, HG87⟩ := Kd.R_form HO_10.out (by omega); (first | cases eo87 | (injection eo87 with ea_ en_ ec_; (first | subst ea_ | (injection ea_ with ea_; subst ea_)); subst ec_; clear en_)); have GB87 := Aside0.mk gb87; have GG87 := Aside0.mk HG87; clear gb87 gl87 HG87; obtain ⟨hx87_0, hf87_0⟩ := Kd.R_celln 0 HO_10.out (x11_2 : Int) p87 q87; replace p87 := eq_true p87; replace q87 := eq_true q87; have n_ := Aside0.mk (Kd.R_mono (ok' := (fun k_ => (w.heap.size ≤ k_) ∧ some k_ ≠ (.slice (some ⟨go67, 0, none⟩) x8_5.length co35 : Value).ownBlock ∧ some k_ ≠ (.slice (some ad514) y506.length co18 : Value).ownBlock)) HO_10.out (fun k_ hk => ⟨hk.1.1, ⟨hk.2, hk.1.2⟩⟩)); clear HO_10; have HO_10 := n_; clear n_; obtain ⟨hy90_, hz90_⟩ := Kd.R_celln 0 HO_10.out (x11_2 : Int) oa oa; have HP90 := Kd.R_putg HO_10.out (x11_2 : Int) (((IntKind.u64.wrap (x13_32 - 1))) % 4294967296)) | ((with_reducible refine gate_store (t := 52) (p := 242) rfl ?_); refine se 52 242 (w1 := (w89.setCell ⟨go87, (x11_2 : Int).toNat, none⟩ (.int .u32 (((IntKind.u64.wrap (x13_32 - 1))) % 4294967296)))) ?_; intro w91 hw; have hg : w89.grownBy w91 (some go87) := (by rw [hw]; exact HP90.2); have hp_ : Kd.R (Kd.int .u32) 52 w91 w.heap.size (fun k_ => (w.heap.size ≤ k_) ∧ some k_ ≠ (.slice (some ⟨go67, 0, none⟩) x8_5.length co35 : Value).ownBlock ∧ some k_ ≠ (.slice (some ad514) y506.length co18 : Value).ownBlock) (.slice (some ⟨go87, 0, none⟩) x10_2.length co87) y530 := (by rw [hw, Ny530.out]; exact HP90.1); clear HP90; replace HO_8 := Aside0.mk (Kd.R_after (v := (.slice (some ⟨go87, 0, none⟩) x10_2.length co87)) (v1 := (.slice (some ⟨go87, 0, none⟩) x10_2.length co87)) (ok := (fun k_ => (w.heap.size ≤ k_) ∧ some k_ ≠ (.slice (some ad514) y506.length co18 : Value).ownBlock)) (rm HO_8.out (fun _ hk => ⟨⟨hk.1, hk.2.1⟩, hk.2.2⟩)) hg (.inl rfl)); replace HO_9 := Aside0.mk (Kd.R_after (v := (.slice (some ⟨go87, 0, none⟩) x10_2.length co87)) (v1 := (.slice (some ⟨go87, 0, none⟩) x10_2.length co87)) (ok := (fun k_ => (w.heap.size ≤ k_) ∧ some k_ ≠ (.slice (some ⟨go67, 0, none⟩) x8_5.length co35 : Value).ownBlock)) (rm HO_9.out (fun _ hk => ⟨⟨hk.1.1, hk.2⟩, hk.1.2⟩)) hg (.inl rfl)); replace HO_10 := Aside0.mk (hp_); replace HB := Aside0.mk ((by rw [hw]; exact below_set (HB.out) GB87.out : Below w.heap.size w w91)); clear hg hw hp_))
                 (try simp only [← hl8_4, ← hl8_5])
                 (refine Handed.intro k5 ?measure ?_; rotate_left; go_step; (repeat apply Exists.intro); first | refine ⟨?rel, rfl⟩ | (refine ⟨?rel, ?samestate⟩; case samestate => ((try simp only [add_plain]); rfl)))
                 case measure => have := HK1.out; have := HK2.out; have := HJ32.out; have := HK4.out; have := HK5.out; omega
                 case rel => exact ⟨(y529), (y530), (wrap64 (x11_2 - 1)), fs, H', ⟨by have := HK1.out; have := HK2.out; have := HJ32.out; have := HK4.out; have := HK5.out; omega⟩, ⟨by (try simp only [hl8_4]); (try simp only [hl8_5]); (with_reducible repeat (first | apply Kd.R_alloc | apply Kd.R_drewN | apply Kd.R_drew)); exact Kd.R_mono HO_8.out (fun _ hk => ⟨hk.1.1, ⟨hk.1.2, hk.2⟩⟩)⟩, ⟨by (try simp only [hl8_4]); (try simp only [hl8_5]); (with_reducible repeat (first | apply Kd.R_alloc | apply Kd.R_drewN | apply Kd.R_drew)); exact Kd.R_mono HO_9.out (fun _ hk => ⟨hk.1.1, ⟨hk.1.2, hk.2⟩⟩)⟩, ⟨by (try simp only [hl8_4]); (try simp only [hl8_5]); (with_reducible repeat (first | apply Kd.R_alloc | apply Kd.R_drewN | apply Kd.R_drew)); exact HO_10.out⟩, ⟨bz HB.out⟩⟩
             ·rw [if_neg c68] at H
              have c68b0 : decide ((IntKind.u64.wrap (rd x8_4 (ji64))) < (IntKind.u64.wrap (x15_4 + x16_4))) = false := decide_eq_false c68
              clear c68
              obtain ⟨c92, H⟩ := iN H
              have c92b0 : decide (0 ≤ x11_2) = true := decide_eq_true c92
              clear c92
              obtain ⟨c93, H⟩ := iN H
              have c93b0 : decide (x11_2 < (x10_2.length : Int)) = true := decide_eq_true c93
              (try (have c93b0_hl8_4 := c93b0; rw [hl8_4] at c93b0_hl8_4))
              clear c93
              obtain ⟨y531, hy531⟩ : ∃ y_ : List Int, y_ = (x10_2.set (x11_2 : Int).toNat ((x13_32) % 4294967296)) := ⟨_, rfl⟩
              (try first | rw [← hy531] at H | (dsimp only at H; rw [← hy531] at H)); (try rw [Option.bind_some] at H)
              have Ny531 := Aside0.mk hy531
              clear hy531
              have H' := Aside0.mk H
              clear H
              have p523 : 0 ≤ ((ji64) : Int) := oa
              have q523 : (ji64) < (x8_4.length : Int) := oa
              obtain ⟨ad523, e523, hx523_0⟩ := Kd.at_int (Kd.R_reads' HO_8.out).2.2 (ji64) p523 q523
              obtain rfl : ad512 = ad523 := (by injection e523)
              replace p523 := eq_true p523
              replace q523 := eq_true q523
              have p67 : 0 ≤ ((ji64) : Int) := oa
              have q67 : ((ji64) : Int) < ((x8_4.length : Int) : Int) := oa
              obtain ⟨go67, co67, eo67, gb67, gl67, cl67, HG67⟩ := Kd.R_form HO_8.out (by omega)
              (first | cases eo67 | (injection eo67 with ea_ en_ ec_; (first | subst ea_ | (injection ea_ with ea_; subst ea_)); subst ec_; clear en_))
              have GB67 := Aside0.mk gb67
              have GG67 := Aside0.mk HG67
              clear gb67 gl67 HG67
              (first | simp only [add_plain] at hx523_0 | skip)
              obtain ⟨hx67_0, hf67_0⟩ := Kd.R_celln 0 HO_8.out ((ji64) : Int) p67 q67
              replace p67 := eq_true p67
              replace q67 := eq_true q67
              have HP95 := Kd.R_putg HO_8.out ((ji64) : Int) ((IntKind.u64.wrap ((IntKind.u64.wrap (rd x8_4 (ji64))) - (IntKind.u64.wrap (x15_4 + x16_4)))) % 4294967296)
              go_wp2_with (first | ((with_reducible refine gate_store (t := 52) (p := 191) rfl ?_); refine se 52 191 (w1 := (wr.setCell ⟨go67, ((ji64) : Int).toNat, none⟩ (.int .u32 ((IntKind.u64.wrap ((IntKind.u64.wrap (rd x8_4 (ji64))) - (IntKind.u64.wrap (x15_4 + x16_4)))) % 4294967296)))) ?_; intro w96 hw; have hg : wr.grownBy w96 (some go67) := (by rw [hw]; exact HP95.2); have hp_ : Kd.R (Kd.int .u32) 52 w96 w.heap.size (fun k_ => (w.heap.size ≤ k_) ∧ some k_ ≠ (.slice (some ad514) y506.length co18 : Value).ownBlock ∧ some k_ ≠ (v510 : Value).ownBlock) (.slice (some ⟨go67, 0, none⟩) x8_4.length co35) y524 := (by rw [hw, Ny524.out]; exact HP95.1); clear HP95; replace HO_8 := Aside0.mk (hp_); replace HO_9 := Aside0.mk (Kd.R_after (v := (.slice (some ⟨go67, 0, none⟩) x8_4.length co35)) (v1 := (.slice (some ⟨go67, 0, none⟩) x8_4.length co35)) (ok := (fun k_ => (w.heap.size ≤ k_) ∧ some k_ ≠ (v510 : Value).ownBlock)) (rm HO_9.out (fun _ hk => ⟨⟨hk.1, hk.2.2⟩, hk.2.1⟩)) hg (.inl rfl)); replace HO_10 := Aside0.mk (Kd.R_after (v := (.slice (some ⟨go67, 0, none⟩) x8_4.length co35)) (v1 := (.slice (some ⟨go67, 0, none⟩) x8_4.length co35)) (ok := (fun k_ => (w.heap.size ≤ k_) ∧ some k_ ≠ (.slice (some ad514) y506.length co18 : Value).ownBlock)) (rm HO_10.out (fun _ hk => ⟨⟨hk.1, hk.2.2⟩, hk.2.1⟩)) hg (.inl rfl)); replace HB := Aside0.mk ((by rw [hw]; exact below_set (HB.out) GB67.out : Below w.heap.size w w96)); clear hg hw hp_; have p94 : 0 ≤ (x11_2 : Int) := oa; have q94 : (x11_2 : Int) < ((x10_2.length : Int) : Int) := oa; obtain ⟨go94, co94, eo94, gb94, gl94, cl94, HG94⟩ := Kd.R_form HO_10.out (by omega); (first | cases eo94 | (injection eo94 with ea_ en_ ec_; (first | subst ea_ | (injection ea_ with ea_; subst ea_)); subst ec_; clear en_)); have GB94 := Aside0.mk gb94; have GG94 := Aside0.mk HG94; clear gb94 gl94 HG94; obtain ⟨hx94_0, hf94_0⟩ := Kd.R_celln 0 HO_10.out (x11_2 : Int) p94 q94; replace p94 := eq_true p94; replace q94 := eq_true q94; have n_ := Aside0.mk (Kd.R_mono (ok' := (fun k_ => (w.heap.size ≤ k_) ∧ some k_ ≠ (.slice (some ⟨go67, 0, none⟩) x8_4.length co35 : Value).ownBlock ∧ some k_ ≠ (.slice (some ad514) y506.length co18 : Value).ownBlock)) HO_10.out (fun k_ hk => ⟨hk.1.1, ⟨hk.2, hk.1.2⟩⟩)); clear HO_10; have HO_10 := n_; clear n_; obtain ⟨hy97_, hz97_⟩ := Kd.R_celln 0 HO_10.out (x11_2 : Int) oa oa; have HP97 := Kd.R_putg HO_10.out (x11_2 : Int) ((x13_32) % 4294967296)) | ((with_reducible refine gate_store (t := 52) (p := 242) rfl ?_); refine se 52 242 (w1 := (w96.setCell ⟨go94, (x11_2 : Int).toNat, none⟩ (.int .u32 ((x13_32) % 4294967296)))) ?_; intro w98 hw; have hg : w96.grownBy w98 (some go94) := (by rw [hw]; exact HP97.2); have hp_ : Kd.R (Kd.int .u32) 52 w98 w.heap.size (fun k_ => (w.heap.size ≤ k_) ∧ some k_ ≠ (.slice (some ⟨go67, 0, none⟩) x8_4.length co35 : Value).ownBlock ∧ some k_ ≠ (.slice (some ad514) y506.length co18 : Value).ownBlock) (.slice (some ⟨go94, 0, none⟩) x10_2.length co94) y531 := (by rw [hw, Ny531.out]; exact HP97.1); clear HP97; replace HO_8 := Aside0.mk (Kd.R_after (v := (.slice (some ⟨go94, 0, none⟩) x10_2.length co94)) (v1 := (.slice (some ⟨go94, 0, none⟩) x10_2.length co94)) (ok := (fun k_ => (w.heap.size ≤ k_) ∧ some k_ ≠ (.slice (some ad514) y506.length co18 : Value).ownBlock)) (rm HO_8.out (fun _ hk => ⟨⟨hk.1, hk.2.1⟩, hk.2.2⟩)) hg (.inl rfl)); replace HO_9 := Aside0.mk (Kd.R_after (v := (.slice (some ⟨go94, 0, none⟩) x10_2.length co94)) (v1 := (.slice (some ⟨go94, 0, none⟩) x10_2.length co94)) (ok := (fun k_ => (w.heap.size ≤ k_) ∧ some k_ ≠ (.slice (some ⟨go67, 0, none⟩) x8_4.length co35 : Value).ownBlock)) (rm HO_9.out (fun _ hk => ⟨⟨hk.1.1, hk.2⟩, hk.1.2⟩)) hg (.inl rfl)); replace HO_10 := Aside0.mk (hp_); replace HB := Aside0.mk ((by rw [hw]; exact below_set (HB.out) GB94.out : Below w.heap.size w w98)); clear hg hw hp_))
              (try simp only [← hl8_4])
              (refine Handed.intro k4 ?measure ?_; rotate_left; go_step; (repeat apply Exists.intro); first | refine ⟨?rel, rfl⟩ | (refine ⟨?rel, ?samestate⟩; case samestate => ((try simp only [add_plain]); rfl)))
              case measure => have := HK1.out; have := HK2.out; have := HJ32.out; have := HK4.out; omega
              case rel => exact ⟨(y524), (y531), (wrap64 (x11_2 - 1)), fs, H', ⟨by have := HK1.out; have := HK2.out; have := HJ32.out; have := HK4.out; omega⟩, ⟨by (try simp only [hl8_4]); (with_reducible repeat (first | apply Kd.R_alloc | apply Kd.R_drewN | apply Kd.R_drew)); exact Kd.R_mono HO_8.out (fun _ hk => ⟨hk.1.1, ⟨hk.1.2, hk.2⟩⟩)⟩, ⟨by (try simp only [hl8_4]); (with_reducible repeat (first | apply Kd.R_alloc | apply Kd.R_drewN | apply Kd.R_drew)); exact Kd.R_mono HO_9.out (fun _ hk => ⟨hk.1.1, ⟨hk.1.2, hk.2⟩⟩)⟩, ⟨by (try simp only [hl8_4]); (with_reducible repeat (first | apply Kd.R_alloc | apply Kd.R_drewN | apply Kd.R_drew)); exact HO_10.out⟩, ⟨bz HB.out⟩⟩
      ·rw [if_neg c22] at H
       have c22b0 : decide (0 ≤ x11_2) = false := decide_eq_false c22
       clear c22
       obtain ⟨c99, H⟩ := iN H
       have c99b0 := eq_true c99
       have c99b1 : decide (0 ≤ (l1.length : Int)) = true := decide_eq_true c99
       clear c99
       obtain ⟨c100, H⟩ := iN H
       have c100b0 := eq_true c100
       have c100b1 : decide (((l1.length : Int) : Int).toNat ≤ 70368744177664) = true := decide_eq_true c100
       clear c100
       obtain ⟨y532, hy532⟩ : ∃ y_ : List Int, y_ = (List.replicate ((l1.length : Int) : Int).toNat 0) := ⟨_, rfl⟩
       (try first | rw [← hy532] at H | (dsimp only at H; rw [← hy532] at H)); (try rw [Option.bind_some] at H)
       have Ny532 := Aside0.mk hy532
       clear hy532
       have H' := Aside0.mk H
       clear H
       go_wp2_with (first | ((with_reducible refine gd 244 rfl ?_); refine Kd.R_make (Kd.int .u32) _ 52 rfl (N := 244) rfl 71 _ _ rfl (l1.length : Int) rfl rfl Tryz.underlying71 (.int .u32 0) 4 info52 rfl (by decide) (by omega) 0 (ok := fun _ => True) (okp := fun _ => True) rfl (fun _ hk => hk) trivial oa (Nat.le_trans (Nat.mul_le_mul_right _ (oa : (l1.length : Int).toNat ≤ 70368744177664)) (by omega)) (Below.refl _ _) (Nat.le_refl _) ?_; intro v533 w101 ho102 hb hg_ hnew_; clear hg_ hnew_; (first | rw [← Ny532.out] at ho102 | (simp only [Int.reduceToNat] at ho102; rw [← Ny532.out] at ho102)); have HO534 := Aside0.mk (Kd.R_lower (Kd.R_new' (Kd.R_new' (Kd.R_new' (Kd.R_newM (M := fun k_ => (w.heap.size ≤ k_)) ho102 (sz HB.out) (fun k_ h_ => h_)) (Kd.R_lt (vs HO_8.out))) (Kd.R_lt (vs HO_9.out))) (Kd.R_lt (vs HO_10.out))) (sz HB.out)); replace HO_8 := Aside0.mk (Kd.R_elder' (vs HO_8.out) (Kd.R_base ho102) hb); replace HO_9 := Aside0.mk (Kd.R_elder' (vs HO_9.out) (Kd.R_base ho102) hb); replace HO_10 := Aside0.mk (Kd.R_elder' (vs HO_10.out) (Kd.R_base ho102) hb); replace HB := Aside0.mk (bs HB.out hb); clear hb ho102))
       go_loopg [25] k2 (fun kq v25 w' => ∃ (x24_3 : List Int) (x25_3 : Int), v25 = .int .i64 x25_3 ∧ Aside0 (insolvencyref1_long.l5 kq (l1.length : Int) x7_1 x8_2 x10_2 x24_3 x25_3 = some (r1, r2)) ∧ Aside0 (kq ≤ k2) ∧ Aside0 (Kd.R (Kd.int .u32) 52 w' w.heap.size (fun k_ => (w.heap.size ≤ k_) ∧ some k_ ≠ (v510 : Value).ownBlock ∧ some k_ ≠ (v533 : Value).ownBlock) v501 x8_2) ∧ Aside0 (Kd.R (Kd.int .u32) 52 w' w.heap.size (fun k_ => (w.heap.size ≤ k_) ∧ some k_ ≠ (v501 : Value).ownBlock ∧ some k_ ≠ (v533 : Value).ownBlock) v510 x10_2) ∧ Aside0 (Kd.R (Kd.int .u32) 52 w' w.heap.size (fun k_ => (w.heap.size ≤ k_) ∧ some k_ ≠ (v501 : Value).ownBlock ∧ some k_ ≠ (v510 : Value).ownBlock) v533 x24_3) ∧ Aside0 (Below w.heap.size w w'))
       case atStart => exact ⟨(y532), (0), fs, H', ⟨Nat.le_refl _⟩, ⟨rm HO_8.out (fun _ hk => ⟨hk.1.1, ⟨hk.1.2.2, hk.2⟩⟩)⟩, ⟨rm HO_10.out (fun _ hk => ⟨hk.1.1, ⟨hk.1.2.1, hk.2⟩⟩)⟩, ⟨rm HO534.out (fun _ hk => ⟨hk.1.1.1.1, ⟨hk.1.1.2, hk.2⟩⟩)⟩, ⟨bz HB.out⟩⟩
       case round =>
        clear H'
        (try clear c1); (try clear c4b0); (try clear c5b0); (try clear c6b0); (try clear c6b1); (try clear c8b0); (try clear c11b0); (try clear c11b1); (try clear c12b0); (try clear c12b1); (try clear c14b0); (try clear c14b1); (try clear c15b0); (try clear c15b1); (try clear q19); (try clear c22b0); (try clear c24b0); (try clear c25b0); (try clear c27b0); (try clear c28b0); (try clear c30b0); (try clear c31b0); (try clear c32); (try clear c32b0); (try clear c32b1); (try clear c37b0); (try clear c40b0); (try clear c41b0); (try clear c43b0); (try clear c44b0); (try clear c46); (try clear c48b0); (try clear c49b0); (try clear c50b0); (try clear c51b0); (try clear c52b0); (try clear c53b0); (try clear c55b0); (try clear c56b0); (try clear c57b0); (try clear p58); (try clear q58); (try clear p61); (try clear q61); (try clear c65b0); (try clear c66b0); (try clear p67); (try clear q67); (try clear c68b0); (try clear c71b0); (try clear c73b0); (try clear c74b0); (try clear c75b0); (try clear c76b0); (try clear p77); (try clear q77); (try clear c82b0); (try clear c83b0); (try clear p84); (try clear q84); (try clear c85b0); (try clear c86b0); (try clear p87); (try clear q87); (try clear c92b0); (try clear c93b0); (try clear p94); (try clear q94); (try clear c99b0); (try clear c99b1); (try clear c100b0); (try clear c100b1); (try clear hx499_0); (try clear hx512_0); (try clear hx513_0); (try clear hx514_0); (try clear hx515_0); (try clear hx516_0); (try clear hx517_0); (try clear hx518_0); (try clear hx519_0); (try clear hx520_0); (try clear hx523_0); (try clear hx525_0); (try clear hx526_0); (try clear hx528_0); (try clear hx58_0); (try clear hx61_0); (try clear hx67_0); (try clear hx77_0); (try clear hx84_0); (try clear hx87_0); (try clear hx94_0); (try clear p499); (try clear p512); (try clear p513); (try clear p514); (try clear p515); (try clear p516); (try clear p517); (try clear p518); (try clear p519); (try clear p520); (try clear p523); (try clear p525); (try clear p526); (try clear p528); (try clear p58); (try clear p61); (try clear p67); (try clear p77); (try clear p84); (try clear p87); (try clear p94); (try clear q19); (try clear q499); (try clear q512); (try clear q513); (try clear q514); (try clear q515); (try clear q516); (try clear q517); (try clear q518); (try clear q519); (try clear q520); (try clear q523); (try clear q525); (try clear q526); (try clear q528); (try clear q58); (try clear q61); (try clear q67); (try clear q77); (try clear q84); (try clear q87); (try clear q94)
        obtain ⟨x24_3, x25_3, rfl, HA, HK3, HO_8, HO_10, HO_24, HB⟩ := hrel
        cases gk with
        | zero => exact absurd HA.out (by simp [insolvencyref1_long.l5])
        | succ k3 =>
         have H := HA.out
         clear HA
         simp only [insolvencyref1_long.l5] at H
         by_cases c103 : x25_3 < (l1.length : Int)
         ·rw [if_pos c103] at H
          have c103b0 : decide (x25_3 < (l1.length : Int)) = true := decide_eq_true c103
          clear c103
          obtain ⟨ji104, hji104⟩ : ∃ j_ : Int, (wrap64 (x25_3 + 1)) = j_ := ⟨_, rfl⟩
          first | rw [hji104] at H | simp only [hji104] at H
          have hji104w : (IntKind.i64.wrap (x25_3 + 1)) = ji104 := (i64_w _).trans hji104
          obtain ⟨c105, H⟩ := iN H
          have c105b0 : decide (0 ≤ (ji104)) = true := decide_eq_true c105
          clear c105
          obtain ⟨c106, H⟩ := iN H
          have c106b0 : decide ((ji104) < (x8_2.length : Int)) = true := decide_eq_true c106
          clear c106
          obtain ⟨c107, H⟩ := iN H
          have c107b0 : decide (0 ≤ x25_3) = true := decide_eq_true c107
          clear c107
          obtain ⟨c108, H⟩ := iN H
          have c108b0 : decide (x25_3 < (x8_2.length : Int)) = true := decide_eq_true c108
          clear c108
          obtain ⟨c109, H⟩ := iN H
          have c109b0 := eq_true c109
          have c109b1 : decide (0 ≤ x7_1) = true := decide_eq_true c109
          clear c109
          obtain ⟨ji110, hji110⟩ : ∃ j_ : Int, (shr .u64 (Go.bits .or .u64 (IntKind.u64.wrap ((IntKind.u64.wrap (rd x8_2 (ji104))) * 4294967296)) (IntKind.u64.wrap (rd x8_2 x25_3))) x7_1) = j_ := ⟨_, rfl⟩
          first | rw [hji110] at H | simp only [hji110] at H
          have hji110_ : ((Go.bits .or .u64 (IntKind.u64.wrap ((IntKind.u64.wrap (rd x8_2 (ji104))) * 4294967296)) (IntKind.u64.wrap (rd x8_2 x25_3))) / 2 ^ min x7_1.toNat 64) = ji110 := hji110
          have hji110z : x7_1 ≤ 64 → ((Go.bits .or .u64 (IntKind.u64.wrap ((IntKind.u64.wrap (rd x8_2 (ji104))) * 4294967296)) (IntKind.u64.wrap (rd x8_2 x25_3))) / 2 ^ x7_1.toNat) = ji110 := shr_small hji110
          obtain ⟨c111, H⟩ := iN H
          have c111b0 : decide (x25_3 < (x24_3.length : Int)) = true := decide_eq_true c111
          clear c111
          obtain ⟨y537, hy537⟩ : ∃ y_ : List Int, y_ = (x24_3.set (x25_3 : Int).toNat ((ji110) % 4294967296)) := ⟨_, rfl⟩
          (try first | rw [← hy537] at H | (dsimp only at H; rw [← hy537] at H)); (try rw [Option.bind_some] at H)
          have Ny537 := Aside0.mk hy537
          clear hy537
          have H' := Aside0.mk H
          clear H
          try go_wp2
          replace HO_8 := Aside0.mk (Kd.R_drew HO_8.out)
          replace HO_10 := Aside0.mk (Kd.R_drew HO_10.out)
          replace HO_24 := Aside0.mk (Kd.R_drew HO_24.out)
          replace HB := Aside0.mk (below_drew1 HB.out)
          obtain ⟨Ao114, co114, eo114⟩ := Kd.R_slice HO_8.out
          (first | subst eo114 | (injection eo114 with f1_ f2_ f3_; have f4_ := f1_.symm; have f5_ := f3_.symm; clear f1_ f2_ f3_; subst f4_; subst f5_))
          have p535 : 0 ≤ ((ji104) : Int) := oa
          have q535 : (ji104) < (x8_2.length : Int) := oa
          obtain ⟨ad535, e535, hx535_0⟩ := Kd.at_int (Kd.R_reads' HO_8.out).2.2 (ji104) p535 q535
          cases e535
          replace p535 := eq_true p535
          replace q535 := eq_true q535
          have p536 : 0 ≤ (x25_3 : Int) := oa
          have q536 : x25_3 < (x8_2.length : Int) := oa
          obtain ⟨ad536, e536, hx536_0⟩ := Kd.at_int (Kd.R_reads' HO_8.out).2.2 x25_3 p536 q536
          obtain rfl : ad535 = ad536 := (by injection e536)
          replace p536 := eq_true p536
          replace q536 := eq_true q536
          have p112 : 0 ≤ (x25_3 : Int) := oa
          have q112 : (x25_3 : Int) < ((x24_3.length : Int) : Int) := oa
          obtain ⟨go112, co112, eo112, gb112, gl112, cl112, HG112⟩ := Kd.R_form HO_24.out (by omega)
          (first | cases eo112 | (injection eo112 with ea_ en_ ec_; (first | subst ea_ | (injection ea_ with ea_; subst ea_)); subst ec_; clear en_))
          have GB112 := Aside0.mk gb112
          have GG112 := Aside0.mk HG112
          clear gb112 gl112 HG112
          obtain ⟨hx112_0, hf112_0⟩ := Kd.R_celln 0 HO_24.out (x25_3 : Int) p112 q112
          replace p112 := eq_true p112
          replace q112 := eq_true q112
          have HP115 := Kd.R_putn HO_24.out (x25_3 : Int) ((ji110) % 4294967296)
          rw [← Ny537.out] at HP115
          have HQ115 := Aside0.mk HP115
          clear HP115
          refine start_ (n := 20) (S := fun w' => w'.cell? (ad535.add ((ji104)).toNat) = some (.int .u32 (rd x8_2 (ji104))) ∧ w'.cell? (ad535.add (x25_3).toNat) = some (.int .u32 (rd x8_2 x25_3))) (ds := [19]) #[false, false, false, false, false, false, false, false, false, false, false, false, false, false, false, false, false, false, false, false] (by kernel_rfl) rfl rfl ⟨hx535_0, hx536_0⟩ (fun hHeld => ?_); refine with_tabW insolvencyref1_long.tab51 insolvencyref1_long.bits51 (fun HT_ HW_ => ?_)
          generalize wr.drew = w113 at HO_8 HO_10 HO_24 HB GG112 HQ115 hf112_0 hx112_0 hx535_0 hx536_0 hHeld ⊢
          refine py 0 (some 250) #[true, false, false, false, false, false, false, false, false, false, false, false, false, false, false, false, false, false, false, false] HT_ ?_
          refine py 1 (some 251) #[true, true, false, false, false, false, false, false, false, false, false, false, false, false, false, false, false, false, false, false] HT_ ?_
          refine py 2 (some 252) #[true, true, true, false, false, false, false, false, false, false, false, false, false, false, false, false, false, false, false, false] HT_ ?_
          refine py 3 (some 253) #[true, true, true, true, false, false, false, false, false, false, false, false, false, false, false, false, false, false, false, false] HT_ ?_
          refine py 4 (some 254) #[true, true, true, true, true, false, false, false, false, false, false, false, false, false, false, false, false, false, false, false] HT_ ?_
          refine py 5 (some 255) #[true, true, true, true, true, true, false, false, false, false, false, false, false, false, false, false, false, false, false, false] HT_ ?_
          refine py 9 (some 259) #[true, true, true, true, true, true, false, false, false, true, false, false, false, false, false, false, false, false, false, false] HT_ ?_
          refine py 10 (some 260) #[true, true, true, true, true, true, false, false, false, true, true, false, false, false, false, false, false, false, false, false] HT_ ?_
          refine py 11 (some 261) #[true, true, true, true, true, true, false, false, false, true, true, true, false, false, false, false, false, false, false, false] HT_ ?_
          refine py 15 (some 265) #[true, true, true, true, true, true, false, false, false, true, true, true, false, false, false, true, false, false, false, false] HT_ ?_
          refine take_ (i := 6) (N := some 256) (v := ?_) (a' := ?_) #[true, true, true, true, true, true, true, false, false, true, true, true, false, false, false, true, false, false, false, false] rfl rfl (take_ofW HT_.out HW_.out (by kernel_rfl)) (fun _ _ _ h => h) (Or.inl ⟨by rfl, ?_⟩) hHeld ?_ ?_
          rotate_left
          ·rintro w' ⟨s0, s1⟩
           go_simp
           with_reducible rfl
          rotate_left
          ·simp only [Act.put, List.setIfInBounds_toArray, List.set_cons_zero, List.set_cons_succ, i64_w, i32_w]
           rfl
          refine py 7 (some 257) #[true, true, true, true, true, true, true, true, false, true, true, true, false, false, false, true, false, false, false, false] HT_ ?_
          refine py 8 (some 258) #[true, true, true, true, true, true, true, true, true, true, true, true, false, false, false, true, false, false, false, false] HT_ ?_
          refine take_ (i := 12) (N := some 262) (v := ?_) (a' := ?_) #[true, true, true, true, true, true, true, true, true, true, true, true, true, false, false, true, false, false, false, false] rfl rfl (take_ofW HT_.out HW_.out (by kernel_rfl)) (fun _ _ _ h => h) (Or.inl ⟨by rfl, ?_⟩) hHeld ?_ ?_
          rotate_left
          ·rintro w' ⟨s0, s1⟩
           go_simp
           with_reducible rfl
          rotate_left
          ·simp only [Act.put, List.setIfInBounds_toArray, List.set_cons_zero, List.set_cons_succ, i64_w, i32_w]
           rfl
          refine py 13 (some 263) #[true, true, true, true, true, true, true, true, true, true, true, true, true, true, false, true, false, false, false, false] HT_ ?_
          refine py 14 (some 264) #[true, true, true, true, true, true, true, true, true, true, true, true, true, true, true, true, false, false, false, false] HT_ ?_
          refine py 16 (some 266) #[true, true, true, true, true, true, true, true, true, true, true, true, true, true, true, true, true, false, false, false] HT_ ?_
          refine py 17 (some 267) #[true, true, true, true, true, true, true, true, true, true, true, true, true, true, true, true, true, true, false, false] HT_ ?_
          refine py 18 (some 268) #[true, true, true, true, true, true, true, true, true, true, true, true, true, true, true, true, true, true, true, false] HT_ ?_
          refine last_ (i := 19) (N := none) #[true, true, true, true, true, true, true, true, true, true, true, true, true, true, true, true, true, true, true, true] rfl rfl (one_of HT_.out (by kernel_rfl)) (by decide) (fun K hK => ?_)
          refine skip_ (w1 := ?_) (by rfl) rfl ?_ ?_
          rotate_left
          ·go_simp
           rfl
          refine hK.out _ _ ?_
          clear hK K
          refine done_ (done_of HT_.out (by kernel_rfl)) ?_
          try go_wp2
          (refine Handed.intro k3 ?measure ?_; rotate_left; go_step; (repeat apply Exists.intro); first | refine ⟨?rel, rfl⟩ | (refine ⟨?rel, ?samestate⟩; case samestate => ((try simp only [add_plain]); rfl)))
          case measure => have := HK1.out; have := HK2.out; have := HK3.out; omega
          case rel => exact ⟨(y537), (ji104), (by first | rfl | (simp; done) | (simp only [← hji104] <;> (first | rfl | simp)) | (simp [*]; done)), H', ⟨by have := HK1.out; have := HK2.out; have := HK3.out; omega⟩, ⟨rm (Kd.R_far (p := ⟨go112, (x25_3 : Int).toNat, none⟩) (Kd.R_mono HO_8.out (fun k_ hk => (⟨hk, fun e_ => hk.2.2 (by rw [e_]; rfl)⟩ : _ ∧ k_ ≠ go112))) (fun _ hk => hk.2) (.int .u32 ((ji110) % 4294967296))) (fun _ hk => ⟨hk.1.1, ⟨hk.1.2.1, hk.1.2.2⟩⟩)⟩, ⟨rm (Kd.R_far (p := ⟨go112, (x25_3 : Int).toNat, none⟩) (Kd.R_mono HO_10.out (fun k_ hk => (⟨hk, fun e_ => hk.2.2 (by rw [e_]; rfl)⟩ : _ ∧ k_ ≠ go112))) (fun _ hk => hk.2) (.int .u32 ((ji110) % 4294967296))) (fun _ hk => ⟨hk.1.1, ⟨hk.1.2.1, hk.1.2.2⟩⟩)⟩, ⟨vs HQ115.out⟩, ⟨bz HB.out⟩⟩
         ·rw [if_neg c103] at H
          have c103b0 : decide (x25_3 < (l1.length : Int)) = false := decide_eq_false c103
          clear c103
          obtain ⟨t538, A116, H⟩ := bs1 H
          obtain ⟨t541, A117, H⟩ := bs1 H
          simp only [Option.some.injEq, Prod.mk.injEq] at H
          obtain ⟨rfl, rfl⟩ := H
          obtain ⟨Ao118, co118, eo118⟩ := Kd.R_slice HO_10.out
          subst eo118
          go_wp2_with (first | ((with_reducible refine gc 71 rfl ?_); refine gl (some 270) Tryz.func71 #[.slice Ao118 x10_2.length co118] ?_; (with_reducible refine (insolvencyref1_strip.calls k3 (fun k_ => some k_ = (.slice Ao118 x10_2.length co118 : Value).ownBlock) _ _ x10_2 t538 _ ?side1 A116.out).mono ?_); (case side1 => exact Kd.R_V (Kd.R_tight rfl (HO_10.out))); rintro e w119 ⟨v539, rfl, ho0, hb⟩; refine ⟨_, rfl, ?_⟩; have HO540 := Aside0.mk (Kd.V_lower (Kd.V_mono (ok' := fun k_ => (w.heap.size ≤ k_) ∧ some k_ ≠ (v501 : Value).ownBlock ∧ some k_ ≠ (v533 : Value).ownBlock) ho0 (fun k_ hk_ => ⟨Or.elim hk_ (fun hs_ => ((HO_10.out).1 k_ hs_.symm).1) (fun hn_ => (Nat.le_trans (sz HB.out) hn_)), Or.elim hk_ (fun hs_ => ((HO_10.out).1 k_ hs_.symm).2.1) (fun hn_ => (Kd.fresh' (Kd.R_lt (vs HO_8.out)) k_ hn_)), Or.elim hk_ (fun hs_ => ((HO_10.out).1 k_ hs_.symm).2.2) (fun hn_ => (Kd.fresh' (Kd.R_lt (vs HO_24.out)) k_ hn_))⟩)) (sz HB.out)); replace HO_8 := Aside0.mk (rb HO_8.out hb); replace HO_10 := Aside0.mk (rb HO_10.out hb); replace HO_24 := Aside0.mk (rb HO_24.out hb); replace HB := Aside0.mk (bs HB.out hb); (try clear hb ho0); obtain ⟨Ao120, co120, eo120⟩ := Kd.R_slice HO_24.out; subst eo120) | ((with_reducible refine gc 71 rfl ?_); refine gl (some 272) Tryz.func71 #[.slice Ao120 x24_3.length co120] ?_; (with_reducible refine (insolvencyref1_strip.calls k3 (fun k_ => some k_ = (.slice Ao120 x24_3.length co120 : Value).ownBlock) _ _ x24_3 t541 _ ?side1 A117.out).mono ?_); (case side1 => exact Kd.R_V (Kd.R_tight rfl (HO_24.out))); rintro e w121 ⟨v542, rfl, ho0, hb⟩; refine ⟨_, rfl, ?_⟩; replace HO540 := Aside0.mk (vb HO540.out hb); have HO543 := Aside0.mk (Kd.V_lower (Kd.V_mono (ok' := fun k_ => (w.heap.size ≤ k_) ∧ some k_ ≠ (v501 : Value).ownBlock ∧ some k_ ≠ (.slice Ao118 x10_2.length co118 : Value).ownBlock) ho0 (fun k_ hk_ => ⟨Or.elim hk_ (fun hs_ => ((HO_24.out).1 k_ hs_.symm).1) (fun hn_ => (Nat.le_trans (sz HB.out) hn_)), Or.elim hk_ (fun hs_ => ((HO_24.out).1 k_ hs_.symm).2.1) (fun hn_ => (Kd.fresh' (Kd.R_lt (vs HO_8.out)) k_ hn_)), Or.elim hk_ (fun hs_ => ((HO_24.out).1 k_ hs_.symm).2.2) (fun hn_ => (Kd.fresh' (Kd.R_lt (vs HO_10.out)) k_ hn_))⟩)) (sz HB.out)); replace HO_8 := Aside0.mk (rb HO_8.out hb); replace HO_10 := Aside0.mk (rb HO_10.out hb); replace HO_24 := Aside0.mk (rb HO_24.out hb); replace HB := Aside0.mk (bs HB.out hb); (try clear hb ho0)))
          go_ret2
          exact ⟨_, _, by first | rfl | (simp [errW_none, errW_some] <;> rfl) | (simp only [← hji3, ← hji7, ← hji13]; first | rfl | (simp [errW_none, errW_some] <;> rfl)) | (simp [*, errW_none, errW_some] <;> rfl), vm HO540.out (fun _ hk => hk.1), vm HO543.out (fun _ hk => hk.1), bz HB.out⟩
end Go.Proofs.YtgepdnoaemeofaaGreatDoor.A
