/- Printed by a program of this session (wip/tools) out of the translation: plain functions and the proofs that the code comes to their answers. -/
import Derived.Test.YtgepdnoaemeofaaDoorXRationalMake0
namespace Go.Proofs.YtgepdnoaemeofaaDoor.M
open Go.RowKit Go.Proofs.YtgepdnoaemeofaaDoorW.PrintWords Go.Proofs.YtgepdnoaemeofaaDoorW.PrintLast Go.Proofs.YtgepdnoaemeofaaDoorW.PrintMore Go.Proofs.YtgepdnoaemeofaaDoorW.PK
attribute [local go_sem] max2_int min2_int max_two min_two max_three min_three max_four min_four   -- for this text's walks alone
set_option linter.unusedVariables false
set_option linter.unusedSimpArgs false

/-! ### natural_step: function 84 -/
mutual
def natural_step.j2 : Nat → List Int → List Int → Int → Int → Option (Int × List Int)
 | 0, _, _, _, _ => none
 | k + 1, x0, x1, x5, x7 => natural_step.l1 k x0 x1 x5 x7 0 0 x1 (x1.length : Int) 0
def natural_step.l1 : Nat → List Int → List Int → Int → Int → Int → Int → List Int → Int → Int → Option (Int × List Int)
 | 0, _, _, _, _, _, _, _, _, _ => none
 | k + 1, x0, x1, x5, x7, x9, x10, x82, x83, x84 => if x84 < x83 then (if 0 ≤ x84 then (if x84 < (x82.length : Int) then (if x84 < (x0.length : Int) then ((bits_Sub32.f (rd x0 x84) ((IntKind.u64.wrap ((IntKind.u64.wrap (x7 * (IntKind.u64.wrap (rd x82 x84)))) + x9)) % 4294967296) x10).bind fun bt153 => (natural_step.l1 k (x0.set (x84 : Int).toNat bt153.1) x1 x5 x7 ((IntKind.u64.wrap ((IntKind.u64.wrap (x7 * (IntKind.u64.wrap (rd x82 x84)))) + x9)) / 4294967296) bt153.2 x82 x83 (wrap64 (x84 + 1)))) else (none)) else (none)) else (none)) else (if 0 ≤ x5 then (if x5 < (x0.length : Int) then ((bits_Sub32.f (rd x0 x5) ((x9) % 4294967296) x10).bind fun bt157 => ((some (x0.set (x5 : Int).toNat bt157.1 : List Int)).bind fun y159 => (if bt157.2 = 0 then (some ((x7) % 4294967296, y159)) else (natural_step.l2 k y159 x5 x7 0 x1 (x1.length : Int) 0)))) else (none)) else (none))
def natural_step.l2 : Nat → List Int → Int → Int → Int → List Int → Int → Int → Option (Int × List Int)
 | 0, _, _, _, _, _, _, _ => none
 | k + 1, x0, x5, x7, x14, x130, x131, x132 => if x132 < x131 then (if 0 ≤ x132 then (if x132 < (x130.length : Int) then (if x132 < (x0.length : Int) then ((bits_Add32.f (rd x0 x132) (rd x130 x132) x14).bind fun bt162 => (natural_step.l2 k (x0.set (x132 : Int).toNat bt162.1) x5 x7 bt162.2 x130 x131 (wrap64 (x132 + 1)))) else (none)) else (none)) else (none)) else (if 0 ≤ x5 then (if x5 < (x0.length : Int) then (some ((IntKind.u64.wrap (x7 - 1)) % 4294967296, (x0.set (x5 : Int).toNat (((rd x0 x5) + x14) % 4294967296)))) else (none)) else (none))
def natural_step.l0 : Nat → List Int → List Int → Int → Int → Int → Option (Int × List Int)
 | 0, _, _, _, _, _ => none
 | k + 1, x0, x1, x5, x7, x8 => if x7 ≥ 4294967296 then (natural_step.j1 k x0 x1 x5 x7 x8 true) else (if 0 ≤ (wrap64 (x5 - 2)) then (if (wrap64 (x5 - 2)) < (x1.length : Int) then (if (wrap64 (x5 - 2)) < (x0.length : Int) then (natural_step.j1 k x0 x1 x5 x7 x8 (decide ((IntKind.u64.wrap (x7 * (IntKind.u64.wrap (rd x1 (wrap64 (x5 - 2)))))) > (Go.bits .or .u64 (IntKind.u64.wrap (x8 * 4294967296)) (IntKind.u64.wrap (rd x0 (wrap64 (x5 - 2)))))))) else (none)) else (none)) else (none))
def natural_step.j1 : Nat → List Int → List Int → Int → Int → Int → Bool → Option (Int × List Int)
 | 0, _, _, _, _, _, _ => none
 | k + 1, x0, x1, x5, x7, x8, x69 => if x69 = true then (if 0 ≤ (wrap64 (x5 - 1)) then (if (wrap64 (x5 - 1)) < (x1.length : Int) then (if (IntKind.u64.wrap (x8 + (IntKind.u64.wrap (rd x1 (wrap64 (x5 - 1)))))) ≥ 4294967296 then (natural_step.j2 k x0 x1 x5 (IntKind.u64.wrap (x7 - 1))) else (natural_step.l0 k x0 x1 x5 (IntKind.u64.wrap (x7 - 1)) (IntKind.u64.wrap (x8 + (IntKind.u64.wrap (rd x1 (wrap64 (x5 - 1)))))))) else (none)) else (none)) else (natural_step.j2 k x0 x1 x5 x7)
end
def natural_step.f (k : Nat) (l0 : List Int) (l1 : List Int) : Option (Int × List Int) := if 0 ≤ (l1.length : Int) then (if (l1.length : Int) < (l0.length : Int) then (if 0 ≤ (wrap64 ((l1.length : Int) - 1)) then (if (wrap64 ((l1.length : Int) - 1)) < (l0.length : Int) then (if (wrap64 ((l1.length : Int) - 1)) < (l1.length : Int) then (if (IntKind.u64.wrap (rd l1 (wrap64 ((l1.length : Int) - 1)))) = 0 then (none) else (natural_step.l0 k l0 l1 (l1.length : Int) (IntKind.u64.wrap (Int.tdiv (Go.bits .or .u64 (IntKind.u64.wrap ((IntKind.u64.wrap (rd l0 (l1.length : Int))) * 4294967296)) (IntKind.u64.wrap (rd l0 (wrap64 ((l1.length : Int) - 1))))) (IntKind.u64.wrap (rd l1 (wrap64 ((l1.length : Int) - 1)))))) (Int.tmod (Go.bits .or .u64 (IntKind.u64.wrap ((IntKind.u64.wrap (rd l0 (l1.length : Int))) * 4294967296)) (IntKind.u64.wrap (rd l0 (wrap64 ((l1.length : Int) - 1))))) (IntKind.u64.wrap (rd l1 (wrap64 ((l1.length : Int) - 1))))))) else (none)) else (none)) else (none)) else (none)) else (none)
theorem natural_step.mono_l : ∀ k, (∀ y0 y1 y2 y3, LeO (natural_step.j2 k y0 y1 y2 y3) (natural_step.j2 (k + 1) y0 y1 y2 y3)) ∧ (∀ y0 y1 y2 y3 y4 y5 y6 y7 y8, LeO (natural_step.l1 k y0 y1 y2 y3 y4 y5 y6 y7 y8) (natural_step.l1 (k + 1) y0 y1 y2 y3 y4 y5 y6 y7 y8)) ∧ (∀ y0 y1 y2 y3 y4 y5 y6, LeO (natural_step.l2 k y0 y1 y2 y3 y4 y5 y6) (natural_step.l2 (k + 1) y0 y1 y2 y3 y4 y5 y6)) ∧ (∀ y0 y1 y2 y3 y4, LeO (natural_step.l0 k y0 y1 y2 y3 y4) (natural_step.l0 (k + 1) y0 y1 y2 y3 y4)) ∧ (∀ y0 y1 y2 y3 y4 y5, LeO (natural_step.j1 k y0 y1 y2 y3 y4 y5) (natural_step.j1 (k + 1) y0 y1 y2 y3 y4 y5))
 | 0 => ⟨fun _ _ _ _ r h => by simp [natural_step.j2] at h, fun _ _ _ _ _ _ _ _ _ r h => by simp [natural_step.l1] at h, fun _ _ _ _ _ _ _ r h => by simp [natural_step.l2] at h, fun _ _ _ _ _ r h => by simp [natural_step.l0] at h, fun _ _ _ _ _ _ r h => by simp [natural_step.j1] at h⟩
 | k + 1 => by
  obtain ⟨ih0, ih1, ih2, ih3, ih4⟩ := natural_step.mono_l k
  refine ⟨?_, ?_, ?_, ?_, ?_⟩
  ·intro y0 y1 y2 y3
   unfold natural_step.j2
   repeat' with_reducible first | exact ih0 _ _ _ _ | exact ih1 _ _ _ _ _ _ _ _ _ | exact ih2 _ _ _ _ _ _ _ | exact ih3 _ _ _ _ _ | exact ih4 _ _ _ _ _ _ | exact LeO.refl _ | exact LeO.none _ | refine LeO.ite ?_ ?_ | refine LeO.bind ?_ (fun _ => ?_)
  ·intro y0 y1 y2 y3 y4 y5 y6 y7 y8
   unfold natural_step.l1
   repeat' with_reducible first | exact ih0 _ _ _ _ | exact ih1 _ _ _ _ _ _ _ _ _ | exact ih2 _ _ _ _ _ _ _ | exact ih3 _ _ _ _ _ | exact ih4 _ _ _ _ _ _ | exact LeO.refl _ | exact LeO.none _ | refine LeO.ite ?_ ?_ | refine LeO.bind ?_ (fun _ => ?_)
  ·intro y0 y1 y2 y3 y4 y5 y6
   unfold natural_step.l2
   repeat' with_reducible first | exact ih0 _ _ _ _ | exact ih1 _ _ _ _ _ _ _ _ _ | exact ih2 _ _ _ _ _ _ _ | exact ih3 _ _ _ _ _ | exact ih4 _ _ _ _ _ _ | exact LeO.refl _ | exact LeO.none _ | refine LeO.ite ?_ ?_ | refine LeO.bind ?_ (fun _ => ?_)
  ·intro y0 y1 y2 y3 y4
   unfold natural_step.l0
   repeat' with_reducible first | exact ih0 _ _ _ _ | exact ih1 _ _ _ _ _ _ _ _ _ | exact ih2 _ _ _ _ _ _ _ | exact ih3 _ _ _ _ _ | exact ih4 _ _ _ _ _ _ | exact LeO.refl _ | exact LeO.none _ | refine LeO.ite ?_ ?_ | refine LeO.bind ?_ (fun _ => ?_)
  ·intro y0 y1 y2 y3 y4 y5
   unfold natural_step.j1
   repeat' with_reducible first | exact ih0 _ _ _ _ | exact ih1 _ _ _ _ _ _ _ _ _ | exact ih2 _ _ _ _ _ _ _ | exact ih3 _ _ _ _ _ | exact ih4 _ _ _ _ _ _ | exact LeO.refl _ | exact LeO.none _ | refine LeO.ite ?_ ?_ | refine LeO.bind ?_ (fun _ => ?_)
theorem natural_step.mono : ∀ a0 a1 k, LeO (natural_step.f k a0 a1) (natural_step.f (k + 1) a0 a1) := by
 intro a0 a1 k
 obtain ⟨ih0, ih1, ih2, ih3, ih4⟩ := natural_step.mono_l k
 unfold natural_step.f
 repeat' with_reducible first | exact ih0 _ _ _ _ | exact ih1 _ _ _ _ _ _ _ _ _ | exact ih2 _ _ _ _ _ _ _ | exact ih3 _ _ _ _ _ | exact ih4 _ _ _ _ _ _ | exact LeO.refl _ | exact LeO.none _ | refine LeO.ite ?_ ?_ | refine LeO.bind ?_ (fun _ => ?_)
set_option maxHeartbeats 8000000 in
set_option maxRecDepth 100000 in
theorem natural_step.calls (pre_ post_ : List Int) (k : Nat) (P0_ : Nat → Prop) (u9000_ : Value) (l0 : List Int) (A1 : Option Addr) (c1 : Nat) (l1 : List Int) (r1 : Int) (r2 : List Int) (w0 w : World) (hB : Below w0.heap.size w0 w) (ho0 : Kd.Wn pre_ post_ 72 w w0.heap.size P0_ u9000_ l0) (hr1 : ∀ W_, Kept w W_ (fun k_ => P0_ k_) → Kd.C (Kd.int .u32) W_ A1 l1.length l1) (hc1 : l1.length ≤ c1) (h : natural_step.f k l0 l1 = some (r1, r2)) :
  Calls Tryd.prog 84 #[u9000_, .slice A1 l1.length c1] w fun e w' => e = .returned (.int .u32 r1) ∧ Kd.Wn pre_ post_ 72 w' w0.heap.size (fun k_ => (P0_ k_ ∨ w.heap.size ≤ k_)) u9000_ r2 ∧ Below w0.heap.size w0 w' ∧ Kept w w' (fun k_ => P0_ k_) := by
 have HO0 := Aside0.mk (show Kd.Wn pre_ post_ 72 w w0.heap.size (fun k_ => (P0_ k_ ∨ w.heap.size ≤ k_)) u9000_ l0 from Kd.Wn_mono ho0 (fun k_ hk => (.inl hk)))
 have HR1 := Aside0.mk hr1
 have HC1 := Aside0.mk hc1
 clear hr1 hc1
 have HK := Aside0.mk (Kept.refl w (fun k_ => P0_ k_))
 have HW0 := Aside0.mk hB.size
 have HB := Aside0.mk hB
 clear hB
 have H := h
 clear h
 unfold natural_step.f at H
 obtain ⟨c3, H⟩ := iN H
 have c3b0 : decide (0 ≤ (l1.length : Int)) = true := decide_eq_true c3
 have c3b1 : decide (0 ≤ l1.length) = true := decide_eq_true (by omega)
 clear c3
 obtain ⟨c4, H⟩ := iN H
 have c4b0 : decide ((l1.length : Int) < (l0.length : Int)) = true := decide_eq_true c4
 have c4b1 : decide (l1.length < l0.length) = true := decide_eq_true (Int.ofNat_lt.mp c4)
 clear c4
 obtain ⟨ji5, hji5⟩ : ∃ j_ : Int, (wrap64 ((l1.length : Int) - 1)) = j_ := ⟨_, rfl⟩
 first | rw [hji5] at H | simp only [hji5] at H
 have hji5w : (IntKind.i64.wrap ((l1.length : Int) - 1)) = ji5 := (i64_w _).trans hji5
 obtain ⟨c6, H⟩ := iN H
 have c6b0 : decide (0 ≤ (ji5)) = true := decide_eq_true c6
 clear c6
 obtain ⟨c7, H⟩ := iN H
 have c7b0 : decide ((ji5) < (l0.length : Int)) = true := decide_eq_true c7
 clear c7
 obtain ⟨c8, H⟩ := iN H
 have c8b0 : decide ((ji5) < (l1.length : Int)) = true := decide_eq_true c8
 clear c8
 by_cases c9 : (IntKind.u64.wrap (rd l1 (ji5))) = 0
 ·rw [if_pos c9] at H
  exact absurd H (by simp)
 ·rw [if_neg c9] at H
  have c9b0 := beq_eq_false_iff_ne.mpr c9
  have c9b1 := bne_iff_ne.mpr c9
  have HC10 := Aside0.mk H
  clear H
  obtain ⟨Ao11, co11, eo11, _⟩ := Kd.Wn_slice HO0.out
  subst eo11
  have p144 : 0 ≤ ((l1.length : Int) : Int) := oa
  have q144 : (l1.length : Int) < (l0.length : Int) := oa
  obtain ⟨ad144, e144, hx144_0⟩ := Kd.at_int (Kd.Wn_reads' HO0.out).2.2 (l1.length : Int) p144 q144
  cases e144
  (try simp only [Go.IntWalk.toNatUp] at hx144_0)
  replace p144 := eq_true p144
  replace q144 := eq_true q144
  have p145 : 0 ≤ ((ji5) : Int) := oa
  have q145 : (ji5) < (l0.length : Int) := oa
  obtain ⟨ad145, e145, hx145_0⟩ := Kd.at_int (Kd.Wn_reads' HO0.out).2.2 (ji5) p145 q145
  obtain rfl : ad144 = ad145 := (by injection e145)
  replace p145 := eq_true p145
  replace q145 := eq_true q145
  have p146 : 0 ≤ ((ji5) : Int) := oa
  have q146 : (ji5) < (l1.length : Int) := oa
  obtain ⟨ad146, e146, hx146_0⟩ := Kd.at_int (Kd.C_kept_now HR1.out HK.out) (ji5) p146 q146
  cases e146
  replace p146 := eq_true p146
  replace q146 := eq_true q146
  have p147 : 0 ≤ ((ji5) : Int) := oa
  have q147 : (ji5) < (l1.length : Int) := oa
  obtain ⟨ad147, e147, hx147_0⟩ := Kd.at_int (Kd.C_kept_now HR1.out HK.out) (ji5) p147 q147
  obtain rfl : ad146 = ad147 := (by injection e147)
  replace p147 := eq_true p147
  replace q147 := eq_true q147
  go_enter Tryd.func84, Tryd.ntmps84
  (try (simp only [Exit.then]; refine (by assumption : ∀ (a : Act) (w : World), Code.wp _ _ _ a w → _) _ _ ?_))
  go_upto_block 0 with (fail)
  repeat (go_quiet (fail); go_upto_block 0 with (fail))
  go_cut [7] (fun v7 wc => ∃ (kq : Nat) (x7_9 : Int), v7 = .int .u64 x7_9 ∧ Aside0 (natural_step.j2 kq l0 l1 (l1.length : Int) x7_9 = some (r1, r2)) ∧ Aside0 (kq ≤ k) ∧ Aside0 (Kd.Wn pre_ post_ 72 wc w0.heap.size (fun k_ => (P0_ k_ ∨ w.heap.size ≤ k_)) (.slice (some ad144) l0.length co11) l0) ∧ Aside0 (Kept w wc (fun k_ => P0_ k_)) ∧ Aside0 (Below w0.heap.size w0 wc))
  case first =>
   have H := HC10.out
   clear HC10
   have H' := Aside0.mk H
   clear H
   go_wp2
   repeat (go_quiet (fail); try go_wp2)
   go_loopg [7, 8] k (fun kq v7 v8 w' => ∃ (x7_1 : Int) (x8_1 : Int), v7 = .int .u64 x7_1 ∧ v8 = .int .u64 x8_1 ∧ Aside0 (natural_step.l0 kq l0 l1 (l1.length : Int) x7_1 x8_1 = some (r1, r2)) ∧ Aside0 (kq ≤ k) ∧ Aside0 (Kd.Wn pre_ post_ 72 w' w0.heap.size (fun k_ => (P0_ k_ ∨ w.heap.size ≤ k_)) (.slice (some ad144) l0.length co11) l0) ∧ Aside0 (Kept w w' (fun k_ => P0_ k_)) ∧ Aside0 (Below w0.heap.size w0 w'))
   case atStart => exact ⟨(IntKind.u64.wrap (Int.tdiv (Go.bits .or .u64 (IntKind.u64.wrap ((IntKind.u64.wrap (rd l0 (l1.length : Int))) * 4294967296)) (IntKind.u64.wrap (rd l0 (ji5)))) (IntKind.u64.wrap (rd l1 (ji5))))), (Int.tmod (Go.bits .or .u64 (IntKind.u64.wrap ((IntKind.u64.wrap (rd l0 (l1.length : Int))) * 4294967296)) (IntKind.u64.wrap (rd l0 (ji5)))) (IntKind.u64.wrap (rd l1 (ji5)))), (by first | rfl | (simp; done) | (simp only [← hji5] <;> (first | rfl | simp)) | (simp [*]; done)), (by first | rfl | (simp; done) | (simp only [← hji5] <;> (first | rfl | simp)) | (simp [*]; done)), H', ⟨Nat.le_refl _⟩, ⟨vs HO0.out⟩, ⟨by repeat (first | (with_reducible first | exact HK.out | apply Kept.alloc | apply Kept.drewN | apply Kept.drew) | exact HK.out)⟩, ⟨bz HB.out⟩⟩
   case round =>
    clear H'
    (try clear c1); (try clear c3b0); (try clear c3b1); (try clear c4b0); (try clear c4b1); (try clear c6b0); (try clear c7b0); (try clear c8b0); (try clear c9); (try clear c9b0); (try clear c9b1); (try clear hx144_0); (try clear hx145_0); (try clear hx146_0); (try clear hx147_0); (try clear p144); (try clear p145); (try clear p146); (try clear p147); (try clear q144); (try clear q145); (try clear q146); (try clear q147)
    obtain ⟨x7_1, x8_1, rfl, rfl, HA, HK1, HO_0, HK, HB⟩ := hrel
    cases gk with
    | zero => exact absurd HA.out (by simp [natural_step.l0])
    | succ k1 =>
     have H := HA.out
     clear HA
     simp only [natural_step.l0] at H
     have HC12 := Aside0.mk H
     clear H
     (try (simp only [Exit.then]; refine (by assumption : ∀ (a : Act) (w : World), Code.wp _ _ _ a w → _) _ _ ?_))
     go_upto_region 4 with (fail)
     repeat (go_quiet (fail); go_upto_region 4 with (fail))
     go_cut [69] (fun v69 wc => ∃ (kq : Nat) (x69_11 : Bool), v69 = .bool x69_11 ∧ Aside0 (natural_step.j1 kq l0 l1 (l1.length : Int) x7_1 x8_1 x69_11 = some (r1, r2)) ∧ Aside0 (kq ≤ k1) ∧ Aside0 (Kd.Wn pre_ post_ 72 wc w0.heap.size (fun k_ => (P0_ k_ ∨ w.heap.size ≤ k_)) (.slice (some ad144) l0.length co11) l0) ∧ Aside0 (Kept w wc (fun k_ => P0_ k_)) ∧ Aside0 (Below w0.heap.size w0 wc))
     case first =>
      have H := HC12.out
      clear HC12
      by_cases c13 : x7_1 ≥ 4294967296
      ·rw [if_pos c13] at H
       have c13b0 : decide (4294967296 ≤ x7_1) = true := decide_eq_true c13
       clear c13
       (first | rw [c13b0] | (simp only [i64_w, i32_w]; rw [c13b0]) | skip)
       have H' := Aside0.mk H
       clear H
       go_wp2
       repeat (go_quiet (fail); try go_wp2)
       (try simp only [add_at] at *)
       go_meet
       case rel => exact ⟨_, (true), fs, H', ⟨by have := HK1.out; first | omega | exact Nat.le_refl _⟩, ⟨vs HO_0.out⟩, ⟨by repeat (first | (with_reducible first | exact HK.out | apply Kept.alloc | apply Kept.drewN | apply Kept.drew) | exact HK.out)⟩, ⟨bz HB.out⟩⟩
      ·rw [if_neg c13] at H
       have c13b0 : decide (4294967296 ≤ x7_1) = false := decide_eq_false c13
       clear c13
       (first | rw [c13b0] | (simp only [i64_w, i32_w]; rw [c13b0]) | skip)
       obtain ⟨ji14, hji14⟩ : ∃ j_ : Int, (wrap64 ((l1.length : Int) - 2)) = j_ := ⟨_, rfl⟩
       first | rw [hji14] at H | simp only [hji14] at H
       have hji14w : (IntKind.i64.wrap ((l1.length : Int) - 2)) = ji14 := (i64_w _).trans hji14
       obtain ⟨c15, H⟩ := iN H
       have c15b0 : decide (0 ≤ (ji14)) = true := decide_eq_true c15
       clear c15
       obtain ⟨c16, H⟩ := iN H
       have c16b0 : decide ((ji14) < (l1.length : Int)) = true := decide_eq_true c16
       clear c16
       obtain ⟨c17, H⟩ := iN H
       have c17b0 : decide ((ji14) < (l0.length : Int)) = true := decide_eq_true c17
       clear c17
       have H' := Aside0.mk H
       clear H
       have p148 : 0 ≤ ((ji14) : Int) := oa
       have q148 : (ji14) < (l1.length : Int) := oa
       obtain ⟨ad148, e148, hx148_0⟩ := Kd.at_int (Kd.C_kept_now HR1.out HK.out) (ji14) p148 q148
       obtain rfl : ad146 = ad148 := (by injection e148)
       replace p148 := eq_true p148
       replace q148 := eq_true q148
       have p149 : 0 ≤ ((ji14) : Int) := oa
       have q149 : (ji14) < (l0.length : Int) := oa
       obtain ⟨ad149, e149, hx149_0⟩ := Kd.at_int (Kd.Wn_reads' HO_0.out).2.2 (ji14) p149 q149
       obtain rfl : ad144 = ad149 := (by injection e149)
       replace p149 := eq_true p149
       replace q149 := eq_true q149
       go_wp2
       repeat (go_quiet (fail); try go_wp2)
       (try simp only [add_at] at *)
       go_meet
       case rel => exact ⟨_, (decide ((IntKind.u64.wrap (x7_1 * (IntKind.u64.wrap (rd l1 (ji14))))) > (Go.bits .or .u64 (IntKind.u64.wrap (x8_1 * 4294967296)) (IntKind.u64.wrap (rd l0 (ji14)))))), (by first | rfl | (simp; done) | (simp only [← hji14] <;> (first | rfl | simp)) | (simp [*]; done)), H', ⟨by have := HK1.out; first | omega | exact Nat.le_refl _⟩, ⟨vs HO_0.out⟩, ⟨by repeat (first | (with_reducible first | exact HK.out | apply Kept.alloc | apply Kept.drewN | apply Kept.drew) | exact HK.out)⟩, ⟨bz HB.out⟩⟩
     case rest =>
      clear HC12
      (try clear c1); (try clear c3b0); (try clear c3b1); (try clear c4b0); (try clear c4b1); (try clear c6b0); (try clear c7b0); (try clear c8b0); (try clear c9); (try clear c9b0); (try clear c9b1); (try clear c13b0); (try clear c15b0); (try clear c16b0); (try clear c17b0); (try clear hx144_0); (try clear hx145_0); (try clear hx146_0); (try clear hx147_0); (try clear hx148_0); (try clear hx149_0); (try clear p144); (try clear p145); (try clear p146); (try clear p147); (try clear p148); (try clear p149); (try clear q144); (try clear q145); (try clear q146); (try clear q147); (try clear q148); (try clear q149)
      obtain ⟨kq, x69_11, rfl, HA, HJ11, HO_0, HK, HB⟩ := hcut
      cases kq with
      | zero => exact absurd HA.out (by simp [natural_step.j1])
      | succ kj11 =>
       have H := HA.out
       clear HA
       simp only [natural_step.j1] at H
       by_cases c18 : x69_11 = true
       ·subst c18
        have H1 : (if 0 ≤ (wrap64 ((l1.length : Int) - 1)) then (if (wrap64 ((l1.length : Int) - 1)) < (l1.length : Int) then (if (IntKind.u64.wrap (x8_1 + (IntKind.u64.wrap (rd l1 (wrap64 ((l1.length : Int) - 1)))))) ≥ 4294967296 then (natural_step.j2 kj11 l0 l1 (l1.length : Int) (IntKind.u64.wrap (x7_1 - 1))) else (natural_step.l0 kj11 l0 l1 (l1.length : Int) (IntKind.u64.wrap (x7_1 - 1)) (IntKind.u64.wrap (x8_1 + (IntKind.u64.wrap (rd l1 (wrap64 ((l1.length : Int) - 1)))))))) else (none)) else (none)) = some (r1, r2) := by rw [if_pos rfl] at H; exact H
        clear H
        have H := H1
        clear H1
        (try clear hji5w); (try clear hji5)
        obtain ⟨ji19, hji19⟩ : ∃ j_ : Int, (wrap64 ((l1.length : Int) - 1)) = j_ := ⟨_, rfl⟩
        first | rw [hji19] at H | simp only [hji19] at H
        have hji19w : (IntKind.i64.wrap ((l1.length : Int) - 1)) = ji19 := (i64_w _).trans hji19
        obtain ⟨c20, H⟩ := iN H
        have c20b0 : decide (0 ≤ (ji19)) = true := decide_eq_true c20
        clear c20
        obtain ⟨c21, H⟩ := iN H
        have c21b0 : decide ((ji19) < (l1.length : Int)) = true := decide_eq_true c21
        clear c21
        by_cases c22 : (IntKind.u64.wrap (x8_1 + (IntKind.u64.wrap (rd l1 (ji19))))) ≥ 4294967296
        ·rw [if_pos c22] at H
         have c22b0 : decide (4294967296 ≤ (IntKind.u64.wrap (x8_1 + (IntKind.u64.wrap (rd l1 (ji19)))))) = true := decide_eq_true c22
         clear c22
         have H' := Aside0.mk H
         clear H
         have p150 : 0 ≤ ((ji19) : Int) := oa
         have q150 : (ji19) < (l1.length : Int) := oa
         obtain ⟨ad150, e150, hx150_0⟩ := Kd.at_int (Kd.C_kept_now HR1.out HK.out) (ji19) p150 q150
         obtain rfl : ad146 = ad150 := (by injection e150)
         replace p150 := eq_true p150
         replace q150 := eq_true q150
         go_wp2
         repeat (go_quiet (fail); try go_wp2)
         (try simp only [add_at] at *)
         go_meet
         case rel => exact ⟨_, (IntKind.u64.wrap (x7_1 - 1)), fs, H', ⟨by have := HK1.out; have := HJ11.out; first | omega | exact Nat.le_refl _⟩, ⟨vs HO_0.out⟩, ⟨by repeat (first | (with_reducible first | exact HK.out | apply Kept.alloc | apply Kept.drewN | apply Kept.drew) | exact HK.out)⟩, ⟨bz HB.out⟩⟩
        ·rw [if_neg c22] at H
         have c22b0 : decide (4294967296 ≤ (IntKind.u64.wrap (x8_1 + (IntKind.u64.wrap (rd l1 (ji19)))))) = false := decide_eq_false c22
         clear c22
         have H' := Aside0.mk H
         clear H
         have p150 : 0 ≤ ((ji19) : Int) := oa
         have q150 : (ji19) < (l1.length : Int) := oa
         obtain ⟨ad150, e150, hx150_0⟩ := Kd.at_int (Kd.C_kept_now HR1.out HK.out) (ji19) p150 q150
         obtain rfl : ad146 = ad150 := (by injection e150)
         replace p150 := eq_true p150
         replace q150 := eq_true q150
         go_wp2
         repeat (go_quiet (fail); try go_wp2)
         (try simp only [add_at] at *)
         go_roundg kj11
         case measure => have := HK1.out; have := HJ11.out; omega
         case rel => exact ⟨(IntKind.u64.wrap (x7_1 - 1)), (IntKind.u64.wrap (x8_1 + (IntKind.u64.wrap (rd l1 (ji19))))), fs, (by first | rfl | (simp; done) | (simp only [← hji19] <;> (first | rfl | simp)) | (simp [*]; done)), H', ⟨by have := HK1.out; have := HJ11.out; omega⟩, ⟨vs HO_0.out⟩, ⟨by repeat (first | (with_reducible first | exact HK.out | apply Kept.alloc | apply Kept.drewN | apply Kept.drew) | exact HK.out)⟩, ⟨bz HB.out⟩⟩
       ·replace c18 := Bool.eq_false_iff.mpr c18
        subst c18
        have H1 : (natural_step.j2 kj11 l0 l1 (l1.length : Int) x7_1) = some (r1, r2) := by rw [if_neg (show ¬ (false = true) by decide)] at H; exact H
        clear H
        have H := H1
        clear H1
        have H' := Aside0.mk H
        clear H
        go_wp2
        repeat (go_quiet (fail); try go_wp2)
        (try simp only [add_at] at *)
        go_meet
        case rel => exact ⟨_, (x7_1), fs, H', ⟨by have := HK1.out; have := HJ11.out; first | omega | exact Nat.le_refl _⟩, ⟨vs HO_0.out⟩, ⟨by repeat (first | (with_reducible first | exact HK.out | apply Kept.alloc | apply Kept.drewN | apply Kept.drew) | exact HK.out)⟩, ⟨bz HB.out⟩⟩
  case rest =>
   clear HC10
   (try clear c1); (try clear c3b0); (try clear c3b1); (try clear c4b0); (try clear c4b1); (try clear c6b0); (try clear c7b0); (try clear c8b0); (try clear c9); (try clear c9b0); (try clear c9b1); (try clear c13b0); (try clear c15b0); (try clear c16b0); (try clear c17b0); (try clear c18); (try clear c20b0); (try clear c21b0); (try clear c22b0); (try clear hx144_0); (try clear hx145_0); (try clear hx146_0); (try clear hx147_0); (try clear hx148_0); (try clear hx149_0); (try clear hx150_0); (try clear p144); (try clear p145); (try clear p146); (try clear p147); (try clear p148); (try clear p149); (try clear p150); (try clear q144); (try clear q145); (try clear q146); (try clear q147); (try clear q148); (try clear q149); (try clear q150)
   obtain ⟨kq, x7_9, rfl, HA, HJ9, HO_0, HK, HB⟩ := hcut
   cases kq with
   | zero => exact absurd HA.out (by simp [natural_step.j2])
   | succ kj9 =>
    have H := HA.out
    clear HA
    simp only [natural_step.j2] at H
    have H' := Aside0.mk H
    clear H
    go_wp2
    repeat (go_quiet (fail); try go_wp2)
    go_loopg [9, 10, 84] kj9 (fun kq v9 v10 v84 w' => ∃ (x0_2 : List Int) (x9_2 : Int) (x10_2 : Int) (x84_2 : Int), v9 = .int .u64 x9_2 ∧ v10 = .int .u32 x10_2 ∧ v84 = .int .i64 x84_2 ∧ Aside0 (natural_step.l1 kq x0_2 l1 (l1.length : Int) x7_9 x9_2 x10_2 l1 (l1.length : Int) x84_2 = some (r1, r2)) ∧ Aside0 (kq ≤ kj9) ∧ Aside0 (Kd.Wn pre_ post_ 72 w' w0.heap.size (fun k_ => (P0_ k_ ∨ w.heap.size ≤ k_)) (.slice (some ad144) l0.length co11) x0_2) ∧ Aside0 (Kept w w' (fun k_ => P0_ k_)) ∧ Aside0 (Below w0.heap.size w0 w'))
    case atStart => exact ⟨(l0), (0), (0), (0), fs, fs, fs, H', ⟨Nat.le_refl _⟩, ⟨vs HO_0.out⟩, ⟨by repeat (first | (with_reducible first | exact HK.out | apply Kept.alloc | apply Kept.drewN | apply Kept.drew) | exact HK.out)⟩, ⟨bz HB.out⟩⟩
    case round =>
     clear H'
     (try clear c1); (try clear c3b0); (try clear c3b1); (try clear c4b0); (try clear c4b1); (try clear c6b0); (try clear c7b0); (try clear c8b0); (try clear c9); (try clear c9b0); (try clear c9b1); (try clear c13b0); (try clear c15b0); (try clear c16b0); (try clear c17b0); (try clear c18); (try clear c20b0); (try clear c21b0); (try clear c22b0); (try clear hx144_0); (try clear hx145_0); (try clear hx146_0); (try clear hx147_0); (try clear hx148_0); (try clear hx149_0); (try clear hx150_0); (try clear p144); (try clear p145); (try clear p146); (try clear p147); (try clear p148); (try clear p149); (try clear p150); (try clear q144); (try clear q145); (try clear q146); (try clear q147); (try clear q148); (try clear q149); (try clear q150)
     obtain ⟨x0_2, x9_2, x10_2, x84_2, rfl, rfl, rfl, HA, HK2, HO_0, HK, HB⟩ := hrel
     have hl0_2 := (Kd.Wn_reads' HO_0.out).1
     rw [hl0_2] at HO_0
     (try simp only [hl0_2])
     cases gk with
     | zero => exact absurd HA.out (by simp [natural_step.l1])
     | succ k2 =>
      have H := HA.out
      clear HA
      simp only [natural_step.l1] at H
      by_cases c23 : x84_2 < (l1.length : Int)
      ·rw [if_pos c23] at H
       have c23b0 : decide (x84_2 < (l1.length : Int)) = true := decide_eq_true c23
       (try (have c23b0_hl0_2 := c23b0; rw [hl0_2] at c23b0_hl0_2))
       clear c23
       obtain ⟨c24, H⟩ := iN H
       have c24b0 : decide (0 ≤ x84_2) = true := decide_eq_true c24
       clear c24
       obtain ⟨c25, H⟩ := iN H
       have c25b0 : decide (x84_2 < (l1.length : Int)) = true := decide_eq_true c25
       (try (have c25b0_hl0_2 := c25b0; rw [hl0_2] at c25b0_hl0_2))
       clear c25
       obtain ⟨c26, H⟩ := iN H
       have c26b0 : decide (x84_2 < (x0_2.length : Int)) = true := decide_eq_true c26
       (try (have c26b0_hl0_2 := c26b0; rw [hl0_2] at c26b0_hl0_2))
       clear c26
       obtain ⟨⟨t153, t154⟩, A27, H⟩ := bs1 H; dsimp only at H
       obtain ⟨y155, hy155⟩ : ∃ y_ : List Int, y_ = (x0_2.set (x84_2 : Int).toNat t153) := ⟨_, rfl⟩
       (try first | rw [← hy155] at H | (dsimp only at H; rw [← hy155] at H)); (try rw [Option.bind_some] at H)
       have Ny155 := Aside0.mk hy155
       clear hy155
       have H' := Aside0.mk H
       clear H
       have p151 : 0 ≤ (x84_2 : Int) := oa
       have q151 : x84_2 < (l1.length : Int) := oa
       obtain ⟨ad151, e151, hx151_0⟩ := Kd.at_int (Kd.C_kept_now HR1.out HK.out) x84_2 p151 q151
       obtain rfl : ad146 = ad151 := (by injection e151)
       replace p151 := eq_true p151
       replace q151 := eq_true q151
       have p152 : 0 ≤ (x84_2 : Int) := oa
       have q152 : x84_2 < (x0_2.length : Int) := oa
       obtain ⟨ad152, e152, hx152_0⟩ := Kd.at_int (Kd.Wn_reads' HO_0.out).2.2 x84_2 p152 q152
       obtain rfl : ad144 = ad152 := (by injection e152)
       replace p152 := eq_true p152
       replace q152 := eq_true q152
       go_wp2_with (first | (go_at_call 104; (with_reducible refine (bits_Sub32.calls (rd x0_2 x84_2) ((IntKind.u64.wrap ((IntKind.u64.wrap (x7_9 * (IntKind.u64.wrap (rd l1 x84_2)))) + x9_2)) % 4294967296) x10_2 t153 t154 _ A27.out).mono ?_); rintro e w' ⟨rfl, ⟨nd, rfl⟩⟩; (try exact dw); have p28 : 0 ≤ (x84_2 : Int) := oa; have q28 : (x84_2 : Int) < ((x0_2.length : Int) : Int) := oa; obtain ⟨go28, oo28, co28, eo28, gb28, gl28, cl28, HG28⟩ := Kd.Wn_form HO_0.out (by omega); (first | cases eo28 | (injection eo28 with ea_ en_ ec_; (first | subst ea_ | (injection ea_ with ea_; subst ea_)); subst ec_; clear en_)); have GB28 := Aside0.mk gb28; have GG28 := Aside0.mk HG28; clear gb28 gl28 HG28; have HMgo28 := Aside0.mk (show (P0_ go28 ∨ w.heap.size ≤ go28) from (HO_0.out.1 _ rfl)); (first | simp only [add_at] at hx144_0 | skip); (first | simp only [add_at] at hx145_0 | skip); (first | simp only [add_at] at hx149_0 | skip); (first | simp only [add_at] at hx152_0 | skip); obtain ⟨hx28_0, hf28_0⟩ := Kd.Wn_cell 0 HO_0.out (x84_2 : Int) p28 q28; replace p28 := eq_true p28; replace q28 := eq_true q28; obtain ⟨hy29_, hz29_⟩ := Kd.Wn_cell 0 HO_0.out (x84_2 : Int) oa oa; have HP29 := Kd.Wn_putg HO_0.out (x84_2 : Int) oa (by have h_ : (x84_2 : Int) < ((x0_2.length : Int) : Int) := oa; first | exact h_ | (have e_ := (Kd.Wn_reads' HO_0.out).1; omega) | simpa using h_) t153) | ((with_reducible refine gate_store (t := 72) (p := 110) rfl ?_); (try (rw [drewN_self wr]; generalize hq_ : World.drewN wr _ = wr; have n0_ := Aside0.mk (Kd.Wn_at hq_ HO_0.out); have n1_ := Aside0.mk (kept_at hq_ HK.out); have n2_ := Aside0.mk (below_at hq_ HB.out); clear hq_ HO_0 HK HB; have HO_0 := n0_; have HK := n1_; have HB := n2_; clear n0_ n1_ n2_; (try (obtain ⟨hy29_, hz29_⟩ := Kd.Wn_cell 0 HO_0.out (x84_2 : Int) oa oa)); (try (have HP29 := Kd.Wn_putg HO_0.out (x84_2 : Int) oa (by have h_ : (x84_2 : Int) < ((x0_2.length : Int) : Int) := oa; first | exact h_ | (have e_ := (Kd.Wn_reads' HO_0.out).1; omega) | simpa using h_) t153)))); refine se 72 110 (w1 := (wr.setCell ⟨go28, oo28 + (x84_2 : Int).toNat, none⟩ (.int .u32 t153))) ?_; intro w30 hw; have hg : wr.grownBy w30 (some go28) := (by rw [hw]; exact HP29.2); have hp_ : Kd.Wn pre_ post_ 72 w30 w0.heap.size (fun k_ => (P0_ k_ ∨ w.heap.size ≤ k_)) (.slice (some ⟨go28, oo28, none⟩) x0_2.length co11) y155 := (by rw [hw, Ny155.out]; exact HP29.1); clear HP29; replace HB := Aside0.mk ((by rw [hw]; exact below_set (HB.out) GB28.out : Below w0.heap.size w0 w30)); replace HK := Aside0.mk (Kept.of_grown (S := (fun k_ => P0_ k_)) hg (by repeat (first | (with_reducible first | exact HK.out | apply Kept.alloc | apply Kept.drewN | apply Kept.drew) | exact HK.out)) (fun k_ e_ => (HO_0.out.1 k_ e_))); replace HO_0 := Aside0.mk (hp_); clear hg hw hp_))
       repeat (go_quiet (first | (go_at_call 104; (with_reducible refine (bits_Sub32.calls (rd x0_2 x84_2) ((IntKind.u64.wrap ((IntKind.u64.wrap (x7_9 * (IntKind.u64.wrap (rd l1 x84_2)))) + x9_2)) % 4294967296) x10_2 t153 t154 _ A27.out).mono ?_); rintro e w' ⟨rfl, ⟨nd, rfl⟩⟩; (try exact dw); have p28 : 0 ≤ (x84_2 : Int) := oa; have q28 : (x84_2 : Int) < ((x0_2.length : Int) : Int) := oa; obtain ⟨go28, oo28, co28, eo28, gb28, gl28, cl28, HG28⟩ := Kd.Wn_form HO_0.out (by omega); (first | cases eo28 | (injection eo28 with ea_ en_ ec_; (first | subst ea_ | (injection ea_ with ea_; subst ea_)); subst ec_; clear en_)); have GB28 := Aside0.mk gb28; have GG28 := Aside0.mk HG28; clear gb28 gl28 HG28; have HMgo28 := Aside0.mk (show (P0_ go28 ∨ w.heap.size ≤ go28) from (HO_0.out.1 _ rfl)); (first | simp only [add_at] at hx144_0 | skip); (first | simp only [add_at] at hx145_0 | skip); (first | simp only [add_at] at hx149_0 | skip); (first | simp only [add_at] at hx152_0 | skip); obtain ⟨hx28_0, hf28_0⟩ := Kd.Wn_cell 0 HO_0.out (x84_2 : Int) p28 q28; replace p28 := eq_true p28; replace q28 := eq_true q28; obtain ⟨hy29_, hz29_⟩ := Kd.Wn_cell 0 HO_0.out (x84_2 : Int) oa oa; have HP29 := Kd.Wn_putg HO_0.out (x84_2 : Int) oa (by have h_ : (x84_2 : Int) < ((x0_2.length : Int) : Int) := oa; first | exact h_ | (have e_ := (Kd.Wn_reads' HO_0.out).1; omega) | simpa using h_) t153) | ((with_reducible refine gate_store (t := 72) (p := 110) rfl ?_); (try (rw [drewN_self wr]; generalize hq_ : World.drewN wr _ = wr; have n0_ := Aside0.mk (Kd.Wn_at hq_ HO_0.out); have n1_ := Aside0.mk (kept_at hq_ HK.out); have n2_ := Aside0.mk (below_at hq_ HB.out); clear hq_ HO_0 HK HB; have HO_0 := n0_; have HK := n1_; have HB := n2_; clear n0_ n1_ n2_; (try (obtain ⟨hy29_, hz29_⟩ := Kd.Wn_cell 0 HO_0.out (x84_2 : Int) oa oa)); (try (have HP29 := Kd.Wn_putg HO_0.out (x84_2 : Int) oa (by have h_ : (x84_2 : Int) < ((x0_2.length : Int) : Int) := oa; first | exact h_ | (have e_ := (Kd.Wn_reads' HO_0.out).1; omega) | simpa using h_) t153)))); refine se 72 110 (w1 := (wr.setCell ⟨go28, oo28 + (x84_2 : Int).toNat, none⟩ (.int .u32 t153))) ?_; intro w30 hw; have hg : wr.grownBy w30 (some go28) := (by rw [hw]; exact HP29.2); have hp_ : Kd.Wn pre_ post_ 72 w30 w0.heap.size (fun k_ => (P0_ k_ ∨ w.heap.size ≤ k_)) (.slice (some ⟨go28, oo28, none⟩) x0_2.length co11) y155 := (by rw [hw, Ny155.out]; exact HP29.1); clear HP29; replace HB := Aside0.mk ((by rw [hw]; exact below_set (HB.out) GB28.out : Below w0.heap.size w0 w30)); replace HK := Aside0.mk (Kept.of_grown (S := (fun k_ => P0_ k_)) hg (by repeat (first | (with_reducible first | exact HK.out | apply Kept.alloc | apply Kept.drewN | apply Kept.drew) | exact HK.out)) (fun k_ e_ => (HO_0.out.1 k_ e_))); replace HO_0 := Aside0.mk (hp_); clear hg hw hp_)); try go_wp2_with (first | (go_at_call 104; (with_reducible refine (bits_Sub32.calls (rd x0_2 x84_2) ((IntKind.u64.wrap ((IntKind.u64.wrap (x7_9 * (IntKind.u64.wrap (rd l1 x84_2)))) + x9_2)) % 4294967296) x10_2 t153 t154 _ A27.out).mono ?_); rintro e w' ⟨rfl, ⟨nd, rfl⟩⟩; (try exact dw); have p28 : 0 ≤ (x84_2 : Int) := oa; have q28 : (x84_2 : Int) < ((x0_2.length : Int) : Int) := oa; obtain ⟨go28, oo28, co28, eo28, gb28, gl28, cl28, HG28⟩ := Kd.Wn_form HO_0.out (by omega); (first | cases eo28 | (injection eo28 with ea_ en_ ec_; (first | subst ea_ | (injection ea_ with ea_; subst ea_)); subst ec_; clear en_)); have GB28 := Aside0.mk gb28; have GG28 := Aside0.mk HG28; clear gb28 gl28 HG28; have HMgo28 := Aside0.mk (show (P0_ go28 ∨ w.heap.size ≤ go28) from (HO_0.out.1 _ rfl)); (first | simp only [add_at] at hx144_0 | skip); (first | simp only [add_at] at hx145_0 | skip); (first | simp only [add_at] at hx149_0 | skip); (first | simp only [add_at] at hx152_0 | skip); obtain ⟨hx28_0, hf28_0⟩ := Kd.Wn_cell 0 HO_0.out (x84_2 : Int) p28 q28; replace p28 := eq_true p28; replace q28 := eq_true q28; obtain ⟨hy29_, hz29_⟩ := Kd.Wn_cell 0 HO_0.out (x84_2 : Int) oa oa; have HP29 := Kd.Wn_putg HO_0.out (x84_2 : Int) oa (by have h_ : (x84_2 : Int) < ((x0_2.length : Int) : Int) := oa; first | exact h_ | (have e_ := (Kd.Wn_reads' HO_0.out).1; omega) | simpa using h_) t153) | ((with_reducible refine gate_store (t := 72) (p := 110) rfl ?_); (try (rw [drewN_self wr]; generalize hq_ : World.drewN wr _ = wr; have n0_ := Aside0.mk (Kd.Wn_at hq_ HO_0.out); have n1_ := Aside0.mk (kept_at hq_ HK.out); have n2_ := Aside0.mk (below_at hq_ HB.out); clear hq_ HO_0 HK HB; have HO_0 := n0_; have HK := n1_; have HB := n2_; clear n0_ n1_ n2_; (try (obtain ⟨hy29_, hz29_⟩ := Kd.Wn_cell 0 HO_0.out (x84_2 : Int) oa oa)); (try (have HP29 := Kd.Wn_putg HO_0.out (x84_2 : Int) oa (by have h_ : (x84_2 : Int) < ((x0_2.length : Int) : Int) := oa; first | exact h_ | (have e_ := (Kd.Wn_reads' HO_0.out).1; omega) | simpa using h_) t153)))); refine se 72 110 (w1 := (wr.setCell ⟨go28, oo28 + (x84_2 : Int).toNat, none⟩ (.int .u32 t153))) ?_; intro w30 hw; have hg : wr.grownBy w30 (some go28) := (by rw [hw]; exact HP29.2); have hp_ : Kd.Wn pre_ post_ 72 w30 w0.heap.size (fun k_ => (P0_ k_ ∨ w.heap.size ≤ k_)) (.slice (some ⟨go28, oo28, none⟩) x0_2.length co11) y155 := (by rw [hw, Ny155.out]; exact HP29.1); clear HP29; replace HB := Aside0.mk ((by rw [hw]; exact below_set (HB.out) GB28.out : Below w0.heap.size w0 w30)); replace HK := Aside0.mk (Kept.of_grown (S := (fun k_ => P0_ k_)) hg (by repeat (first | (with_reducible first | exact HK.out | apply Kept.alloc | apply Kept.drewN | apply Kept.drew) | exact HK.out)) (fun k_ e_ => (HO_0.out.1 k_ e_))); replace HO_0 := Aside0.mk (hp_); clear hg hw hp_)))
       (try simp only [← hl0_2])
       (try simp only [add_at] at *)
       go_roundg k2
       case measure => have := HJ9.out; have := HK2.out; omega
       case rel => exact ⟨(y155), ((IntKind.u64.wrap ((IntKind.u64.wrap (x7_9 * (IntKind.u64.wrap (rd l1 x84_2)))) + x9_2)) / 4294967296), (t154), (wrap64 (x84_2 + 1)), fs, fs, fs, H', ⟨by have := HJ9.out; have := HK2.out; omega⟩, ⟨by (try simp only [hl0_2]); (with_reducible repeat (first | apply Kd.Wn_alloc | apply Kd.Wn_drewN | apply Kd.Wn_drew)); exact HO_0.out⟩, ⟨by repeat (first | (with_reducible first | exact HK.out | apply Kept.alloc | apply Kept.drewN | apply Kept.drew) | exact HK.out)⟩, ⟨bz HB.out⟩⟩
      ·rw [if_neg c23] at H
       have c23b0 : decide (x84_2 < (l1.length : Int)) = false := decide_eq_false c23
       (try (have c23b0_hl0_2 := c23b0; rw [hl0_2] at c23b0_hl0_2))
       clear c23
       obtain ⟨c31, H⟩ := iN H
       have c31b0 : decide (0 ≤ (l1.length : Int)) = true := decide_eq_true c31
       (try (have c31b0_hl0_2 := c31b0; rw [hl0_2] at c31b0_hl0_2))
       have c31b1 : decide (0 ≤ l1.length) = true := decide_eq_true (by omega)
       (try (have c31b1_hl0_2 := c31b1; rw [hl0_2] at c31b1_hl0_2))
       clear c31
       obtain ⟨c32, H⟩ := iN H
       have c32b0 : decide ((l1.length : Int) < (x0_2.length : Int)) = true := decide_eq_true c32
       (try (have c32b0_hl0_2 := c32b0; rw [hl0_2] at c32b0_hl0_2))
       have c32b1 : decide (l1.length < x0_2.length) = true := decide_eq_true (Int.ofNat_lt.mp c32)
       (try (have c32b1_hl0_2 := c32b1; rw [hl0_2] at c32b1_hl0_2))
       clear c32
       obtain ⟨⟨t157, t158⟩, A33, H⟩ := bs1 H; dsimp only at H
       obtain ⟨y159, hy159⟩ : ∃ y_ : List Int, y_ = (x0_2.set ((l1.length : Int) : Int).toNat t157) := ⟨_, rfl⟩
       (try first | rw [← hy159] at H | (dsimp only at H; rw [← hy159] at H)); (try rw [Option.bind_some] at H)
       have Ny159 := Aside0.mk hy159
       clear hy159
       by_cases c35 : t158 = 0
       ·rw [if_pos c35] at H
        have c35b0 := beq_iff_eq.mpr c35
        have c35b1 := bne_eq_false_iff_eq.mpr c35
        clear c35
        simp only [Option.some.injEq, Prod.mk.injEq] at H
        obtain ⟨rfl, rfl⟩ := H
        have p156 : 0 ≤ ((l1.length : Int) : Int) := oa
        have q156 : (l1.length : Int) < (x0_2.length : Int) := oa
        obtain ⟨ad156, e156, hx156_0⟩ := Kd.at_int (Kd.Wn_reads' HO_0.out).2.2 (l1.length : Int) p156 q156
        obtain rfl : ad144 = ad156 := (by injection e156)
        (try simp only [Go.IntWalk.toNatUp] at hx156_0)
        (try simp only [hl0_2] at p156)
        (try simp only [hl0_2] at q156)
        (try simp only [hl0_2] at hx156_0)
        replace p156 := eq_true p156
        replace q156 := eq_true q156
        go_wp2_with (first | (go_at_call 104; (with_reducible refine (bits_Sub32.calls (rd x0_2 (l1.length : Int)) ((x9_2) % 4294967296) x10_2 t157 t158 _ A33.out).mono ?_); rintro e w' ⟨rfl, ⟨nd, rfl⟩⟩; (try exact dw); have p34 : 0 ≤ ((l1.length : Int) : Int) := oa; have q34 : ((l1.length : Int) : Int) < ((x0_2.length : Int) : Int) := oa; obtain ⟨go34, oo34, co34, eo34, gb34, gl34, cl34, HG34⟩ := Kd.Wn_form HO_0.out (by omega); (first | cases eo34 | (injection eo34 with ea_ en_ ec_; (first | subst ea_ | (injection ea_ with ea_; subst ea_)); subst ec_; clear en_)); have GB34 := Aside0.mk gb34; have GG34 := Aside0.mk HG34; clear gb34 gl34 HG34; have HMgo34 := Aside0.mk (show (P0_ go34 ∨ w.heap.size ≤ go34) from (HO_0.out.1 _ rfl)); (first | simp only [add_at] at hx156_0 | skip); obtain ⟨hx34_0, hf34_0⟩ := Kd.Wn_cell 0 HO_0.out ((l1.length : Int) : Int) p34 q34; replace p34 := eq_true p34; replace q34 := eq_true q34; obtain ⟨hy36_, hz36_⟩ := Kd.Wn_cell 0 HO_0.out ((l1.length : Int) : Int) oa oa; (try simp only [Go.IntWalk.toNatUp] at hy36_ hz36_); have HP36 := Kd.Wn_putg HO_0.out ((l1.length : Int) : Int) oa (by have h_ : ((l1.length : Int) : Int) < ((x0_2.length : Int) : Int) := oa; first | exact h_ | (have e_ := (Kd.Wn_reads' HO_0.out).1; omega) | simpa using h_) t157) | ((with_reducible refine gate_store (t := 72) (p := 125) rfl ?_); (try (rw [drewN_self wr]; generalize hq_ : World.drewN wr _ = wr; have n0_ := Aside0.mk (Kd.Wn_at hq_ HO_0.out); have n1_ := Aside0.mk (kept_at hq_ HK.out); have n2_ := Aside0.mk (below_at hq_ HB.out); clear hq_ HO_0 HK HB; have HO_0 := n0_; have HK := n1_; have HB := n2_; clear n0_ n1_ n2_; (try (obtain ⟨hy36_, hz36_⟩ := Kd.Wn_cell 0 HO_0.out ((l1.length : Int) : Int) oa oa)); (try (try simp only [Go.IntWalk.toNatUp] at hy36_ hz36_)); (try (have HP36 := Kd.Wn_putg HO_0.out ((l1.length : Int) : Int) oa (by have h_ : ((l1.length : Int) : Int) < ((x0_2.length : Int) : Int) := oa; first | exact h_ | (have e_ := (Kd.Wn_reads' HO_0.out).1; omega) | simpa using h_) t157)))); refine se 72 125 (w1 := (wr.setCell ⟨go34, oo34 + ((l1.length : Int) : Int).toNat, none⟩ (.int .u32 t157))) ?_; intro w37 hw; have hg : wr.grownBy w37 (some go34) := (by rw [hw]; exact HP36.2); have hp_ : Kd.Wn pre_ post_ 72 w37 w0.heap.size (fun k_ => (P0_ k_ ∨ w.heap.size ≤ k_)) (.slice (some ⟨go34, oo34, none⟩) x0_2.length co11) y159 := (by rw [hw, Ny159.out]; exact HP36.1); clear HP36; replace HB := Aside0.mk ((by rw [hw]; exact below_set (HB.out) GB34.out : Below w0.heap.size w0 w37)); replace HK := Aside0.mk (Kept.of_grown (S := (fun k_ => P0_ k_)) hg (by repeat (first | (with_reducible first | exact HK.out | apply Kept.alloc | apply Kept.drewN | apply Kept.drew) | exact HK.out)) (fun k_ e_ => (HO_0.out.1 k_ e_))); replace HO_0 := Aside0.mk (hp_); clear hg hw hp_))
        repeat (go_quiet (first | (go_at_call 104; (with_reducible refine (bits_Sub32.calls (rd x0_2 (l1.length : Int)) ((x9_2) % 4294967296) x10_2 t157 t158 _ A33.out).mono ?_); rintro e w' ⟨rfl, ⟨nd, rfl⟩⟩; (try exact dw); have p34 : 0 ≤ ((l1.length : Int) : Int) := oa; have q34 : ((l1.length : Int) : Int) < ((x0_2.length : Int) : Int) := oa; obtain ⟨go34, oo34, co34, eo34, gb34, gl34, cl34, HG34⟩ := Kd.Wn_form HO_0.out (by omega); (first | cases eo34 | (injection eo34 with ea_ en_ ec_; (first | subst ea_ | (injection ea_ with ea_; subst ea_)); subst ec_; clear en_)); have GB34 := Aside0.mk gb34; have GG34 := Aside0.mk HG34; clear gb34 gl34 HG34; have HMgo34 := Aside0.mk (show (P0_ go34 ∨ w.heap.size ≤ go34) from (HO_0.out.1 _ rfl)); (first | simp only [add_at] at hx156_0 | skip); obtain ⟨hx34_0, hf34_0⟩ := Kd.Wn_cell 0 HO_0.out ((l1.length : Int) : Int) p34 q34; replace p34 := eq_true p34; replace q34 := eq_true q34; obtain ⟨hy36_, hz36_⟩ := Kd.Wn_cell 0 HO_0.out ((l1.length : Int) : Int) oa oa; (try simp only [Go.IntWalk.toNatUp] at hy36_ hz36_); have HP36 := Kd.Wn_putg HO_0.out ((l1.length : Int) : Int) oa (by have h_ : ((l1.length : Int) : Int) < ((x0_2.length : Int) : Int) := oa; first | exact h_ | (have e_ := (Kd.Wn_reads' HO_0.out).1; omega) | simpa using h_) t157) | ((with_reducible refine gate_store (t := 72) (p := 125) rfl ?_); (try (rw [drewN_self wr]; generalize hq_ : World.drewN wr _ = wr; have n0_ := Aside0.mk (Kd.Wn_at hq_ HO_0.out); have n1_ := Aside0.mk (kept_at hq_ HK.out); have n2_ := Aside0.mk (below_at hq_ HB.out); clear hq_ HO_0 HK HB; have HO_0 := n0_; have HK := n1_; have HB := n2_; clear n0_ n1_ n2_; (try (obtain ⟨hy36_, hz36_⟩ := Kd.Wn_cell 0 HO_0.out ((l1.length : Int) : Int) oa oa)); (try (try simp only [Go.IntWalk.toNatUp] at hy36_ hz36_)); (try (have HP36 := Kd.Wn_putg HO_0.out ((l1.length : Int) : Int) oa (by have h_ : ((l1.length : Int) : Int) < ((x0_2.length : Int) : Int) := oa; first | exact h_ | (have e_ := (Kd.Wn_reads' HO_0.out).1; omega) | simpa using h_) t157)))); refine se 72 125 (w1 := (wr.setCell ⟨go34, oo34 + ((l1.length : Int) : Int).toNat, none⟩ (.int .u32 t157))) ?_; intro w37 hw; have hg : wr.grownBy w37 (some go34) := (by rw [hw]; exact HP36.2); have hp_ : Kd.Wn pre_ post_ 72 w37 w0.heap.size (fun k_ => (P0_ k_ ∨ w.heap.size ≤ k_)) (.slice (some ⟨go34, oo34, none⟩) x0_2.length co11) y159 := (by rw [hw, Ny159.out]; exact HP36.1); clear HP36; replace HB := Aside0.mk ((by rw [hw]; exact below_set (HB.out) GB34.out : Below w0.heap.size w0 w37)); replace HK := Aside0.mk (Kept.of_grown (S := (fun k_ => P0_ k_)) hg (by repeat (first | (with_reducible first | exact HK.out | apply Kept.alloc | apply Kept.drewN | apply Kept.drew) | exact HK.out)) (fun k_ e_ => (HO_0.out.1 k_ e_))); replace HO_0 := Aside0.mk (hp_); clear hg hw hp_)); try go_wp2_with (first | (go_at_call 104; (with_reducible refine (bits_Sub32.calls (rd x0_2 (l1.length : Int)) ((x9_2) % 4294967296) x10_2 t157 t158 _ A33.out).mono ?_); rintro e w' ⟨rfl, ⟨nd, rfl⟩⟩; (try exact dw); have p34 : 0 ≤ ((l1.length : Int) : Int) := oa; have q34 : ((l1.length : Int) : Int) < ((x0_2.length : Int) : Int) := oa; obtain ⟨go34, oo34, co34, eo34, gb34, gl34, cl34, HG34⟩ := Kd.Wn_form HO_0.out (by omega); (first | cases eo34 | (injection eo34 with ea_ en_ ec_; (first | subst ea_ | (injection ea_ with ea_; subst ea_)); subst ec_; clear en_)); have GB34 := Aside0.mk gb34; have GG34 := Aside0.mk HG34; clear gb34 gl34 HG34; have HMgo34 := Aside0.mk (show (P0_ go34 ∨ w.heap.size ≤ go34) from (HO_0.out.1 _ rfl)); (first | simp only [add_at] at hx156_0 | skip); obtain ⟨hx34_0, hf34_0⟩ := Kd.Wn_cell 0 HO_0.out ((l1.length : Int) : Int) p34 q34; replace p34 := eq_true p34; replace q34 := eq_true q34; obtain ⟨hy36_, hz36_⟩ := Kd.Wn_cell 0 HO_0.out ((l1.length : Int) : Int) oa oa; (try simp only [Go.IntWalk.toNatUp] at hy36_ hz36_); have HP36 := Kd.Wn_putg HO_0.out ((l1.length : Int) : Int) oa (by have h_ : ((l1.length : Int) : Int) < ((x0_2.length : Int) : Int) := oa; first | exact h_ | (have e_ := (Kd.Wn_reads' HO_0.out).1; omega) | simpa using h_) t157) | ((with_reducible refine gate_store (t := 72) (p := 125) rfl ?_); (try (rw [drewN_self wr]; generalize hq_ : World.drewN wr _ = wr; have n0_ := Aside0.mk (Kd.Wn_at hq_ HO_0.out); have n1_ := Aside0.mk (kept_at hq_ HK.out); have n2_ := Aside0.mk (below_at hq_ HB.out); clear hq_ HO_0 HK HB; have HO_0 := n0_; have HK := n1_; have HB := n2_; clear n0_ n1_ n2_; (try (obtain ⟨hy36_, hz36_⟩ := Kd.Wn_cell 0 HO_0.out ((l1.length : Int) : Int) oa oa)); (try (try simp only [Go.IntWalk.toNatUp] at hy36_ hz36_)); (try (have HP36 := Kd.Wn_putg HO_0.out ((l1.length : Int) : Int) oa (by have h_ : ((l1.length : Int) : Int) < ((x0_2.length : Int) : Int) := oa; first | exact h_ | (have e_ := (Kd.Wn_reads' HO_0.out).1; omega) | simpa using h_) t157)))); refine se 72 125 (w1 := (wr.setCell ⟨go34, oo34 + ((l1.length : Int) : Int).toNat, none⟩ (.int .u32 t157))) ?_; intro w37 hw; have hg : wr.grownBy w37 (some go34) := (by rw [hw]; exact HP36.2); have hp_ : Kd.Wn pre_ post_ 72 w37 w0.heap.size (fun k_ => (P0_ k_ ∨ w.heap.size ≤ k_)) (.slice (some ⟨go34, oo34, none⟩) x0_2.length co11) y159 := (by rw [hw, Ny159.out]; exact HP36.1); clear HP36; replace HB := Aside0.mk ((by rw [hw]; exact below_set (HB.out) GB34.out : Below w0.heap.size w0 w37)); replace HK := Aside0.mk (Kept.of_grown (S := (fun k_ => P0_ k_)) hg (by repeat (first | (with_reducible first | exact HK.out | apply Kept.alloc | apply Kept.drewN | apply Kept.drew) | exact HK.out)) (fun k_ e_ => (HO_0.out.1 k_ e_))); replace HO_0 := Aside0.mk (hp_); clear hg hw hp_)))
        go_ret
        exact ⟨by first | rfl | (simp [errW_none, errW_some] <;> rfl) | (simp only [← hji5]; first | rfl | (simp [errW_none, errW_some] <;> rfl)) | (simp [*, errW_none, errW_some] <;> rfl), (by first | exact (vs HO_0.out) | (simp only [hl0_2]; exact (vs HO_0.out))), bz HB.out, by repeat (first | (with_reducible first | exact HK.out | apply Kept.alloc | apply Kept.drewN | apply Kept.drew) | exact HK.out)⟩
       ·rw [if_neg c35] at H
        have c35b0 := beq_eq_false_iff_ne.mpr c35
        have c35b1 := bne_iff_ne.mpr c35
        have H' := Aside0.mk H
        clear H
        have p156 : 0 ≤ ((l1.length : Int) : Int) := oa
        have q156 : (l1.length : Int) < (x0_2.length : Int) := oa
        obtain ⟨ad156, e156, hx156_0⟩ := Kd.at_int (Kd.Wn_reads' HO_0.out).2.2 (l1.length : Int) p156 q156
        obtain rfl : ad144 = ad156 := (by injection e156)
        (try simp only [Go.IntWalk.toNatUp] at hx156_0)
        (try simp only [hl0_2] at p156)
        (try simp only [hl0_2] at q156)
        (try simp only [hl0_2] at hx156_0)
        replace p156 := eq_true p156
        replace q156 := eq_true q156
        go_wp2_with (first | (go_at_call 104; (with_reducible refine (bits_Sub32.calls (rd x0_2 (l1.length : Int)) ((x9_2) % 4294967296) x10_2 t157 t158 _ A33.out).mono ?_); rintro e w' ⟨rfl, ⟨nd, rfl⟩⟩; (try exact dw); have p34 : 0 ≤ ((l1.length : Int) : Int) := oa; have q34 : ((l1.length : Int) : Int) < ((x0_2.length : Int) : Int) := oa; obtain ⟨go34, oo34, co34, eo34, gb34, gl34, cl34, HG34⟩ := Kd.Wn_form HO_0.out (by omega); (first | cases eo34 | (injection eo34 with ea_ en_ ec_; (first | subst ea_ | (injection ea_ with ea_; subst ea_)); subst ec_; clear en_)); have GB34 := Aside0.mk gb34; have GG34 := Aside0.mk HG34; clear gb34 gl34 HG34; have HMgo34 := Aside0.mk (show (P0_ go34 ∨ w.heap.size ≤ go34) from (HO_0.out.1 _ rfl)); (first | simp only [add_at] at hx156_0 | skip); obtain ⟨hx34_0, hf34_0⟩ := Kd.Wn_cell 0 HO_0.out ((l1.length : Int) : Int) p34 q34; replace p34 := eq_true p34; replace q34 := eq_true q34; obtain ⟨hy38_, hz38_⟩ := Kd.Wn_cell 0 HO_0.out ((l1.length : Int) : Int) oa oa; (try simp only [Go.IntWalk.toNatUp] at hy38_ hz38_); have HP38 := Kd.Wn_putg HO_0.out ((l1.length : Int) : Int) oa (by have h_ : ((l1.length : Int) : Int) < ((x0_2.length : Int) : Int) := oa; first | exact h_ | (have e_ := (Kd.Wn_reads' HO_0.out).1; omega) | simpa using h_) t157) | ((with_reducible refine gate_store (t := 72) (p := 125) rfl ?_); (try (rw [drewN_self wr]; generalize hq_ : World.drewN wr _ = wr; have n0_ := Aside0.mk (Kd.Wn_at hq_ HO_0.out); have n1_ := Aside0.mk (kept_at hq_ HK.out); have n2_ := Aside0.mk (below_at hq_ HB.out); clear hq_ HO_0 HK HB; have HO_0 := n0_; have HK := n1_; have HB := n2_; clear n0_ n1_ n2_; (try (obtain ⟨hy38_, hz38_⟩ := Kd.Wn_cell 0 HO_0.out ((l1.length : Int) : Int) oa oa)); (try (try simp only [Go.IntWalk.toNatUp] at hy38_ hz38_)); (try (have HP38 := Kd.Wn_putg HO_0.out ((l1.length : Int) : Int) oa (by have h_ : ((l1.length : Int) : Int) < ((x0_2.length : Int) : Int) := oa; first | exact h_ | (have e_ := (Kd.Wn_reads' HO_0.out).1; omega) | simpa using h_) t157)))); refine se 72 125 (w1 := (wr.setCell ⟨go34, oo34 + ((l1.length : Int) : Int).toNat, none⟩ (.int .u32 t157))) ?_; intro w39 hw; have hg : wr.grownBy w39 (some go34) := (by rw [hw]; exact HP38.2); have hp_ : Kd.Wn pre_ post_ 72 w39 w0.heap.size (fun k_ => (P0_ k_ ∨ w.heap.size ≤ k_)) (.slice (some ⟨go34, oo34, none⟩) x0_2.length co11) y159 := (by rw [hw, Ny159.out]; exact HP38.1); clear HP38; replace HB := Aside0.mk ((by rw [hw]; exact below_set (HB.out) GB34.out : Below w0.heap.size w0 w39)); replace HK := Aside0.mk (Kept.of_grown (S := (fun k_ => P0_ k_)) hg (by repeat (first | (with_reducible first | exact HK.out | apply Kept.alloc | apply Kept.drewN | apply Kept.drew) | exact HK.out)) (fun k_ e_ => (HO_0.out.1 k_ e_))); replace HO_0 := Aside0.mk (hp_); clear hg hw hp_))
        repeat (go_quiet (first | (go_at_call 104; (with_reducible refine (bits_Sub32.calls (rd x0_2 (l1.length : Int)) ((x9_2) % 4294967296) x10_2 t157 t158 _ A33.out).mono ?_); rintro e w' ⟨rfl, ⟨nd, rfl⟩⟩; (try exact dw); have p34 : 0 ≤ ((l1.length : Int) : Int) := oa; have q34 : ((l1.length : Int) : Int) < ((x0_2.length : Int) : Int) := oa; obtain ⟨go34, oo34, co34, eo34, gb34, gl34, cl34, HG34⟩ := Kd.Wn_form HO_0.out (by omega); (first | cases eo34 | (injection eo34 with ea_ en_ ec_; (first | subst ea_ | (injection ea_ with ea_; subst ea_)); subst ec_; clear en_)); have GB34 := Aside0.mk gb34; have GG34 := Aside0.mk HG34; clear gb34 gl34 HG34; have HMgo34 := Aside0.mk (show (P0_ go34 ∨ w.heap.size ≤ go34) from (HO_0.out.1 _ rfl)); (first | simp only [add_at] at hx156_0 | skip); obtain ⟨hx34_0, hf34_0⟩ := Kd.Wn_cell 0 HO_0.out ((l1.length : Int) : Int) p34 q34; replace p34 := eq_true p34; replace q34 := eq_true q34; obtain ⟨hy38_, hz38_⟩ := Kd.Wn_cell 0 HO_0.out ((l1.length : Int) : Int) oa oa; (try simp only [Go.IntWalk.toNatUp] at hy38_ hz38_); have HP38 := Kd.Wn_putg HO_0.out ((l1.length : Int) : Int) oa (by have h_ : ((l1.length : Int) : Int) < ((x0_2.length : Int) : Int) := oa; first | exact h_ | (have e_ := (Kd.Wn_reads' HO_0.out).1; omega) | simpa using h_) t157) | ((with_reducible refine gate_store (t := 72) (p := 125) rfl ?_); (try (rw [drewN_self wr]; generalize hq_ : World.drewN wr _ = wr; have n0_ := Aside0.mk (Kd.Wn_at hq_ HO_0.out); have n1_ := Aside0.mk (kept_at hq_ HK.out); have n2_ := Aside0.mk (below_at hq_ HB.out); clear hq_ HO_0 HK HB; have HO_0 := n0_; have HK := n1_; have HB := n2_; clear n0_ n1_ n2_; (try (obtain ⟨hy38_, hz38_⟩ := Kd.Wn_cell 0 HO_0.out ((l1.length : Int) : Int) oa oa)); (try (try simp only [Go.IntWalk.toNatUp] at hy38_ hz38_)); (try (have HP38 := Kd.Wn_putg HO_0.out ((l1.length : Int) : Int) oa (by have h_ : ((l1.length : Int) : Int) < ((x0_2.length : Int) : Int) := oa; first | exact h_ | (have e_ := (Kd.Wn_reads' HO_0.out).1; omega) | simpa using h_) t157)))); refine se 72 125 (w1 := (wr.setCell ⟨go34, oo34 + ((l1.length : Int) : Int).toNat, none⟩ (.int .u32 t157))) ?_; intro w39 hw; have hg : wr.grownBy w39 (some go34) := (by rw [hw]; exact HP38.2); have hp_ : Kd.Wn pre_ post_ 72 w39 w0.heap.size (fun k_ => (P0_ k_ ∨ w.heap.size ≤ k_)) (.slice (some ⟨go34, oo34, none⟩) x0_2.length co11) y159 := (by rw [hw, Ny159.out]; exact HP38.1); clear HP38; replace HB := Aside0.mk ((by rw [hw]; exact below_set (HB.out) GB34.out : Below w0.heap.size w0 w39)); replace HK := Aside0.mk (Kept.of_grown (S := (fun k_ => P0_ k_)) hg (by repeat (first | (with_reducible first | exact HK.out | apply Kept.alloc | apply Kept.drewN | apply Kept.drew) | exact HK.out)) (fun k_ e_ => (HO_0.out.1 k_ e_))); replace HO_0 := Aside0.mk (hp_); clear hg hw hp_)); try go_wp2_with (first | (go_at_call 104; (with_reducible refine (bits_Sub32.calls (rd x0_2 (l1.length : Int)) ((x9_2) % 4294967296) x10_2 t157 t158 _ A33.out).mono ?_); rintro e w' ⟨rfl, ⟨nd, rfl⟩⟩; (try exact dw); have p34 : 0 ≤ ((l1.length : Int) : Int) := oa; have q34 : ((l1.length : Int) : Int) < ((x0_2.length : Int) : Int) := oa; obtain ⟨go34, oo34, co34, eo34, gb34, gl34, cl34, HG34⟩ := Kd.Wn_form HO_0.out (by omega); (first | cases eo34 | (injection eo34 with ea_ en_ ec_; (first | subst ea_ | (injection ea_ with ea_; subst ea_)); subst ec_; clear en_)); have GB34 := Aside0.mk gb34; have GG34 := Aside0.mk HG34; clear gb34 gl34 HG34; have HMgo34 := Aside0.mk (show (P0_ go34 ∨ w.heap.size ≤ go34) from (HO_0.out.1 _ rfl)); (first | simp only [add_at] at hx156_0 | skip); obtain ⟨hx34_0, hf34_0⟩ := Kd.Wn_cell 0 HO_0.out ((l1.length : Int) : Int) p34 q34; replace p34 := eq_true p34; replace q34 := eq_true q34; obtain ⟨hy38_, hz38_⟩ := Kd.Wn_cell 0 HO_0.out ((l1.length : Int) : Int) oa oa; (try simp only [Go.IntWalk.toNatUp] at hy38_ hz38_); have HP38 := Kd.Wn_putg HO_0.out ((l1.length : Int) : Int) oa (by have h_ : ((l1.length : Int) : Int) < ((x0_2.length : Int) : Int) := oa; first | exact h_ | (have e_ := (Kd.Wn_reads' HO_0.out).1; omega) | simpa using h_) t157) | ((with_reducible refine gate_store (t := 72) (p := 125) rfl ?_); (try (rw [drewN_self wr]; generalize hq_ : World.drewN wr _ = wr; have n0_ := Aside0.mk (Kd.Wn_at hq_ HO_0.out); have n1_ := Aside0.mk (kept_at hq_ HK.out); have n2_ := Aside0.mk (below_at hq_ HB.out); clear hq_ HO_0 HK HB; have HO_0 := n0_; have HK := n1_; have HB := n2_; clear n0_ n1_ n2_; (try (obtain ⟨hy38_, hz38_⟩ := Kd.Wn_cell 0 HO_0.out ((l1.length : Int) : Int) oa oa)); (try (try simp only [Go.IntWalk.toNatUp] at hy38_ hz38_)); (try (have HP38 := Kd.Wn_putg HO_0.out ((l1.length : Int) : Int) oa (by have h_ : ((l1.length : Int) : Int) < ((x0_2.length : Int) : Int) := oa; first | exact h_ | (have e_ := (Kd.Wn_reads' HO_0.out).1; omega) | simpa using h_) t157)))); refine se 72 125 (w1 := (wr.setCell ⟨go34, oo34 + ((l1.length : Int) : Int).toNat, none⟩ (.int .u32 t157))) ?_; intro w39 hw; have hg : wr.grownBy w39 (some go34) := (by rw [hw]; exact HP38.2); have hp_ : Kd.Wn pre_ post_ 72 w39 w0.heap.size (fun k_ => (P0_ k_ ∨ w.heap.size ≤ k_)) (.slice (some ⟨go34, oo34, none⟩) x0_2.length co11) y159 := (by rw [hw, Ny159.out]; exact HP38.1); clear HP38; replace HB := Aside0.mk ((by rw [hw]; exact below_set (HB.out) GB34.out : Below w0.heap.size w0 w39)); replace HK := Aside0.mk (Kept.of_grown (S := (fun k_ => P0_ k_)) hg (by repeat (first | (with_reducible first | exact HK.out | apply Kept.alloc | apply Kept.drewN | apply Kept.drew) | exact HK.out)) (fun k_ e_ => (HO_0.out.1 k_ e_))); replace HO_0 := Aside0.mk (hp_); clear hg hw hp_)))
        go_loopg [14, 132] k2 (fun kq v14 v132 w' => ∃ (x0_3 : List Int) (x14_3 : Int) (x132_3 : Int), v14 = .int .u32 x14_3 ∧ v132 = .int .i64 x132_3 ∧ Aside0 (natural_step.l2 kq x0_3 (l1.length : Int) x7_9 x14_3 l1 (l1.length : Int) x132_3 = some (r1, r2)) ∧ Aside0 (kq ≤ k2) ∧ Aside0 (Kd.Wn pre_ post_ 72 w' w0.heap.size (fun k_ => (P0_ k_ ∨ w.heap.size ≤ k_)) (.slice (some ⟨go34, oo34, none⟩) x0_2.length co11) x0_3) ∧ Aside0 (Kept w w' (fun k_ => P0_ k_)) ∧ Aside0 (Below w0.heap.size w0 w'))
        case atStart => exact ⟨(y159), (0), (0), fs, fs, H', ⟨Nat.le_refl _⟩, ⟨by (try simp only [hl0_2]); (with_reducible repeat (first | apply Kd.Wn_alloc | apply Kd.Wn_drewN | apply Kd.Wn_drew)); exact HO_0.out⟩, ⟨by repeat (first | (with_reducible first | exact HK.out | apply Kept.alloc | apply Kept.drewN | apply Kept.drew) | exact HK.out)⟩, ⟨bz HB.out⟩⟩
        case round =>
         clear H'
         (try clear c1); (try clear c3b0); (try clear c3b1); (try clear c4b0); (try clear c4b1); (try clear c6b0); (try clear c7b0); (try clear c8b0); (try clear c9); (try clear c9b0); (try clear c9b1); (try clear c13b0); (try clear c15b0); (try clear c16b0); (try clear c17b0); (try clear c18); (try clear c20b0); (try clear c21b0); (try clear c22b0); (try clear c23b0); (try clear c24b0); (try clear c25b0); (try clear c26b0); (try clear p28); (try clear q28); (try clear c31b0); (try clear c31b1); (try clear c32b0); (try clear c32b1); (try clear p34); (try clear q34); (try clear c35b0); (try clear c35b1); (try clear hx144_0); (try clear hx145_0); (try clear hx146_0); (try clear hx147_0); (try clear hx148_0); (try clear hx149_0); (try clear hx150_0); (try clear hx151_0); (try clear hx152_0); (try clear hx156_0); (try clear hx28_0); (try clear hx34_0); (try clear p144); (try clear p145); (try clear p146); (try clear p147); (try clear p148); (try clear p149); (try clear p150); (try clear p151); (try clear p152); (try clear p156); (try clear p28); (try clear p34); (try clear q144); (try clear q145); (try clear q146); (try clear q147); (try clear q148); (try clear q149); (try clear q150); (try clear q151); (try clear q152); (try clear q156); (try clear q28); (try clear q34)
         obtain ⟨x0_3, x14_3, x132_3, rfl, rfl, HA, HK3, HO_0, HK, HB⟩ := hrel
         have hl0_3 := (Kd.Wn_reads' HO_0.out).1
         rw [hl0_3] at HO_0
         (try simp only [hl0_3])
         cases gk with
         | zero => exact absurd HA.out (by simp [natural_step.l2])
         | succ k3 =>
          have H := HA.out
          clear HA
          simp only [natural_step.l2] at H
          by_cases c40 : x132_3 < (l1.length : Int)
          ·rw [if_pos c40] at H
           have c40b0 : decide (x132_3 < (l1.length : Int)) = true := decide_eq_true c40
           (try (have c40b0_hl0_2 := c40b0; rw [hl0_2] at c40b0_hl0_2))
           (try (have c40b0_hl0_3 := c40b0; rw [hl0_3] at c40b0_hl0_3))
           clear c40
           obtain ⟨c41, H⟩ := iN H
           have c41b0 : decide (0 ≤ x132_3) = true := decide_eq_true c41
           clear c41
           obtain ⟨c42, H⟩ := iN H
           have c42b0 : decide (x132_3 < (l1.length : Int)) = true := decide_eq_true c42
           (try (have c42b0_hl0_2 := c42b0; rw [hl0_2] at c42b0_hl0_2))
           (try (have c42b0_hl0_3 := c42b0; rw [hl0_3] at c42b0_hl0_3))
           clear c42
           obtain ⟨c43, H⟩ := iN H
           have c43b0 : decide (x132_3 < (x0_3.length : Int)) = true := decide_eq_true c43
           (try (have c43b0_hl0_2 := c43b0; rw [hl0_2] at c43b0_hl0_2))
           (try (have c43b0_hl0_3 := c43b0; rw [hl0_3] at c43b0_hl0_3))
           clear c43
           obtain ⟨⟨t162, t163⟩, A44, H⟩ := bs1 H; dsimp only at H
           obtain ⟨y164, hy164⟩ : ∃ y_ : List Int, y_ = (x0_3.set (x132_3 : Int).toNat t162) := ⟨_, rfl⟩
           (try first | rw [← hy164] at H | (dsimp only at H; rw [← hy164] at H)); (try rw [Option.bind_some] at H)
           have Ny164 := Aside0.mk hy164
           clear hy164
           have H' := Aside0.mk H
           clear H
           have p160 : 0 ≤ (x132_3 : Int) := oa
           have q160 : x132_3 < (l1.length : Int) := oa
           obtain ⟨ad160, e160, hx160_0⟩ := Kd.at_int (Kd.C_kept_now HR1.out HK.out) x132_3 p160 q160
           obtain rfl : ad146 = ad160 := (by injection e160)
           replace p160 := eq_true p160
           replace q160 := eq_true q160
           have p161 : 0 ≤ (x132_3 : Int) := oa
           have q161 : x132_3 < (x0_3.length : Int) := oa
           obtain ⟨ad161, e161, hx161_0⟩ := Kd.at_int (Kd.Wn_reads' HO_0.out).2.2 x132_3 p161 q161
           obtain rfl : (⟨go34, oo34, none⟩ : Addr) = ad161 := (by injection e161)
           (first | simp only [add_plain] at hx161_0 | simp only [add_at] at hx161_0 | simp only [Addr.add, Nat.zero_add] at hx161_0 | skip)
           replace p161 := eq_true p161
           replace q161 := eq_true q161
           go_wp2_with (first | (go_at_call 66; (with_reducible refine (bits_Add32.calls (rd x0_3 x132_3) (rd l1 x132_3) x14_3 t162 t163 _ A44.out).mono ?_); rintro e w' ⟨rfl, ⟨nd, rfl⟩⟩; (try exact dw); have p45 : 0 ≤ (x132_3 : Int) := oa; have q45 : (x132_3 : Int) < ((x0_3.length : Int) : Int) := oa; obtain ⟨hx45_0, hf45_0⟩ := Kd.Wn_cell 0 HO_0.out (x132_3 : Int) p45 q45; replace p45 := eq_true p45; replace q45 := eq_true q45; obtain ⟨hy46_, hz46_⟩ := Kd.Wn_cell 0 HO_0.out (x132_3 : Int) oa oa; have HP46 := Kd.Wn_putg HO_0.out (x132_3 : Int) oa (by have h_ : (x132_3 : Int) < ((x0_3.length : Int) : Int) := oa; first | exact h_ | (have e_ := (Kd.Wn_reads' HO_0.out).1; omega) | simpa using h_) t162) | ((with_reducible refine gate_store (t := 72) (p := 149) rfl ?_); (try (rw [drewN_self wr]; generalize hq_ : World.drewN wr _ = wr; have n0_ := Aside0.mk (Kd.Wn_at hq_ HO_0.out); have n1_ := Aside0.mk (kept_at hq_ HK.out); have n2_ := Aside0.mk (below_at hq_ HB.out); clear hq_ HO_0 HK HB; have HO_0 := n0_; have HK := n1_; have HB := n2_; clear n0_ n1_ n2_; (try (obtain ⟨hy46_, hz46_⟩ := Kd.Wn_cell 0 HO_0.out (x132_3 : Int) oa oa)); (try (have HP46 := Kd.Wn_putg HO_0.out (x132_3 : Int) oa (by have h_ : (x132_3 : Int) < ((x0_3.length : Int) : Int) := oa; first | exact h_ | (have e_ := (Kd.Wn_reads' HO_0.out).1; omega) | simpa using h_) t162)))); refine se 72 149 (w1 := (wr.setCell ⟨go34, oo34 + (x132_3 : Int).toNat, none⟩ (.int .u32 t162))) ?_; intro w47 hw; have hg : wr.grownBy w47 (some go34) := (by rw [hw]; exact HP46.2); have hp_ : Kd.Wn pre_ post_ 72 w47 w0.heap.size (fun k_ => (P0_ k_ ∨ w.heap.size ≤ k_)) (.slice (some ⟨go34, oo34, none⟩) x0_3.length co11) y164 := (by rw [hw, Ny164.out]; exact HP46.1); clear HP46; replace HB := Aside0.mk ((by rw [hw]; exact below_set (HB.out) GB34.out : Below w0.heap.size w0 w47)); replace HK := Aside0.mk (Kept.of_grown (S := (fun k_ => P0_ k_)) hg (by repeat (first | (with_reducible first | exact HK.out | apply Kept.alloc | apply Kept.drewN | apply Kept.drew) | exact HK.out)) (fun k_ e_ => (HO_0.out.1 k_ e_))); replace HO_0 := Aside0.mk (hp_); clear hg hw hp_))
           repeat (go_quiet (first | (go_at_call 66; (with_reducible refine (bits_Add32.calls (rd x0_3 x132_3) (rd l1 x132_3) x14_3 t162 t163 _ A44.out).mono ?_); rintro e w' ⟨rfl, ⟨nd, rfl⟩⟩; (try exact dw); have p45 : 0 ≤ (x132_3 : Int) := oa; have q45 : (x132_3 : Int) < ((x0_3.length : Int) : Int) := oa; obtain ⟨hx45_0, hf45_0⟩ := Kd.Wn_cell 0 HO_0.out (x132_3 : Int) p45 q45; replace p45 := eq_true p45; replace q45 := eq_true q45; obtain ⟨hy46_, hz46_⟩ := Kd.Wn_cell 0 HO_0.out (x132_3 : Int) oa oa; have HP46 := Kd.Wn_putg HO_0.out (x132_3 : Int) oa (by have h_ : (x132_3 : Int) < ((x0_3.length : Int) : Int) := oa; first | exact h_ | (have e_ := (Kd.Wn_reads' HO_0.out).1; omega) | simpa using h_) t162) | ((with_reducible refine gate_store (t := 72) (p := 149) rfl ?_); (try (rw [drewN_self wr]; generalize hq_ : World.drewN wr _ = wr; have n0_ := Aside0.mk (Kd.Wn_at hq_ HO_0.out); have n1_ := Aside0.mk (kept_at hq_ HK.out); have n2_ := Aside0.mk (below_at hq_ HB.out); clear hq_ HO_0 HK HB; have HO_0 := n0_; have HK := n1_; have HB := n2_; clear n0_ n1_ n2_; (try (obtain ⟨hy46_, hz46_⟩ := Kd.Wn_cell 0 HO_0.out (x132_3 : Int) oa oa)); (try (have HP46 := Kd.Wn_putg HO_0.out (x132_3 : Int) oa (by have h_ : (x132_3 : Int) < ((x0_3.length : Int) : Int) := oa; first | exact h_ | (have e_ := (Kd.Wn_reads' HO_0.out).1; omega) | simpa using h_) t162)))); refine se 72 149 (w1 := (wr.setCell ⟨go34, oo34 + (x132_3 : Int).toNat, none⟩ (.int .u32 t162))) ?_; intro w47 hw; have hg : wr.grownBy w47 (some go34) := (by rw [hw]; exact HP46.2); have hp_ : Kd.Wn pre_ post_ 72 w47 w0.heap.size (fun k_ => (P0_ k_ ∨ w.heap.size ≤ k_)) (.slice (some ⟨go34, oo34, none⟩) x0_3.length co11) y164 := (by rw [hw, Ny164.out]; exact HP46.1); clear HP46; replace HB := Aside0.mk ((by rw [hw]; exact below_set (HB.out) GB34.out : Below w0.heap.size w0 w47)); replace HK := Aside0.mk (Kept.of_grown (S := (fun k_ => P0_ k_)) hg (by repeat (first | (with_reducible first | exact HK.out | apply Kept.alloc | apply Kept.drewN | apply Kept.drew) | exact HK.out)) (fun k_ e_ => (HO_0.out.1 k_ e_))); replace HO_0 := Aside0.mk (hp_); clear hg hw hp_)); try go_wp2_with (first | (go_at_call 66; (with_reducible refine (bits_Add32.calls (rd x0_3 x132_3) (rd l1 x132_3) x14_3 t162 t163 _ A44.out).mono ?_); rintro e w' ⟨rfl, ⟨nd, rfl⟩⟩; (try exact dw); have p45 : 0 ≤ (x132_3 : Int) := oa; have q45 : (x132_3 : Int) < ((x0_3.length : Int) : Int) := oa; obtain ⟨hx45_0, hf45_0⟩ := Kd.Wn_cell 0 HO_0.out (x132_3 : Int) p45 q45; replace p45 := eq_true p45; replace q45 := eq_true q45; obtain ⟨hy46_, hz46_⟩ := Kd.Wn_cell 0 HO_0.out (x132_3 : Int) oa oa; have HP46 := Kd.Wn_putg HO_0.out (x132_3 : Int) oa (by have h_ : (x132_3 : Int) < ((x0_3.length : Int) : Int) := oa; first | exact h_ | (have e_ := (Kd.Wn_reads' HO_0.out).1; omega) | simpa using h_) t162) | ((with_reducible refine gate_store (t := 72) (p := 149) rfl ?_); (try (rw [drewN_self wr]; generalize hq_ : World.drewN wr _ = wr; have n0_ := Aside0.mk (Kd.Wn_at hq_ HO_0.out); have n1_ := Aside0.mk (kept_at hq_ HK.out); have n2_ := Aside0.mk (below_at hq_ HB.out); clear hq_ HO_0 HK HB; have HO_0 := n0_; have HK := n1_; have HB := n2_; clear n0_ n1_ n2_; (try (obtain ⟨hy46_, hz46_⟩ := Kd.Wn_cell 0 HO_0.out (x132_3 : Int) oa oa)); (try (have HP46 := Kd.Wn_putg HO_0.out (x132_3 : Int) oa (by have h_ : (x132_3 : Int) < ((x0_3.length : Int) : Int) := oa; first | exact h_ | (have e_ := (Kd.Wn_reads' HO_0.out).1; omega) | simpa using h_) t162)))); refine se 72 149 (w1 := (wr.setCell ⟨go34, oo34 + (x132_3 : Int).toNat, none⟩ (.int .u32 t162))) ?_; intro w47 hw; have hg : wr.grownBy w47 (some go34) := (by rw [hw]; exact HP46.2); have hp_ : Kd.Wn pre_ post_ 72 w47 w0.heap.size (fun k_ => (P0_ k_ ∨ w.heap.size ≤ k_)) (.slice (some ⟨go34, oo34, none⟩) x0_3.length co11) y164 := (by rw [hw, Ny164.out]; exact HP46.1); clear HP46; replace HB := Aside0.mk ((by rw [hw]; exact below_set (HB.out) GB34.out : Below w0.heap.size w0 w47)); replace HK := Aside0.mk (Kept.of_grown (S := (fun k_ => P0_ k_)) hg (by repeat (first | (with_reducible first | exact HK.out | apply Kept.alloc | apply Kept.drewN | apply Kept.drew) | exact HK.out)) (fun k_ e_ => (HO_0.out.1 k_ e_))); replace HO_0 := Aside0.mk (hp_); clear hg hw hp_)))
           (try simp only [← hl0_3])
           (try simp only [add_at] at *)
           go_roundg k3
           case measure => have := HJ9.out; have := HK2.out; have := HK3.out; omega
           case rel => exact ⟨(y164), (t163), (wrap64 (x132_3 + 1)), fs, fs, H', ⟨by have := HJ9.out; have := HK2.out; have := HK3.out; omega⟩, ⟨by (try simp only [hl0_2]); (try simp only [hl0_3]); (with_reducible repeat (first | apply Kd.Wn_alloc | apply Kd.Wn_drewN | apply Kd.Wn_drew)); exact HO_0.out⟩, ⟨by repeat (first | (with_reducible first | exact HK.out | apply Kept.alloc | apply Kept.drewN | apply Kept.drew) | exact HK.out)⟩, ⟨bz HB.out⟩⟩
          ·rw [if_neg c40] at H
           have c40b0 : decide (x132_3 < (l1.length : Int)) = false := decide_eq_false c40
           (try (have c40b0_hl0_2 := c40b0; rw [hl0_2] at c40b0_hl0_2))
           (try (have c40b0_hl0_3 := c40b0; rw [hl0_3] at c40b0_hl0_3))
           clear c40
           obtain ⟨c48, H⟩ := iN H
           have c48b0 : decide (0 ≤ (l1.length : Int)) = true := decide_eq_true c48
           (try (have c48b0_hl0_2 := c48b0; rw [hl0_2] at c48b0_hl0_2))
           (try (have c48b0_hl0_3 := c48b0; rw [hl0_3] at c48b0_hl0_3))
           have c48b1 : decide (0 ≤ l1.length) = true := decide_eq_true (by omega)
           (try (have c48b1_hl0_2 := c48b1; rw [hl0_2] at c48b1_hl0_2))
           (try (have c48b1_hl0_3 := c48b1; rw [hl0_3] at c48b1_hl0_3))
           clear c48
           obtain ⟨c49, H⟩ := iN H
           have c49b0 : decide ((l1.length : Int) < (x0_3.length : Int)) = true := decide_eq_true c49
           (try (have c49b0_hl0_2 := c49b0; rw [hl0_2] at c49b0_hl0_2))
           (try (have c49b0_hl0_3 := c49b0; rw [hl0_3] at c49b0_hl0_3))
           have c49b1 : decide (l1.length < x0_3.length) = true := decide_eq_true (Int.ofNat_lt.mp c49)
           (try (have c49b1_hl0_2 := c49b1; rw [hl0_2] at c49b1_hl0_2))
           (try (have c49b1_hl0_3 := c49b1; rw [hl0_3] at c49b1_hl0_3))
           clear c49
           obtain ⟨y166, hy166⟩ : ∃ y_ : List Int, y_ = (x0_3.set ((l1.length : Int) : Int).toNat (((rd x0_3 (l1.length : Int)) + x14_3) % 4294967296)) := ⟨_, rfl⟩
           (try first | rw [← hy166] at H | (dsimp only at H; rw [← hy166] at H)); (try rw [Option.bind_some] at H)
           have Ny166 := Aside0.mk hy166
           clear hy166
           simp only [Option.some.injEq, Prod.mk.injEq] at H
           obtain ⟨rfl, rfl⟩ := H
           have p165 : 0 ≤ ((l1.length : Int) : Int) := oa
           have q165 : (l1.length : Int) < (x0_3.length : Int) := oa
           obtain ⟨ad165, e165, hx165_0⟩ := Kd.at_int (Kd.Wn_reads' HO_0.out).2.2 (l1.length : Int) p165 q165
           obtain rfl : (⟨go34, oo34, none⟩ : Addr) = ad165 := (by injection e165)
           (first | simp only [add_plain] at hx165_0 | simp only [add_at] at hx165_0 | simp only [Addr.add, Nat.zero_add] at hx165_0 | skip)
           (try simp only [Go.IntWalk.toNatUp] at hx165_0)
           (try simp only [hl0_2, hl0_3] at p165)
           (try simp only [hl0_2, hl0_3] at q165)
           (try simp only [hl0_2, hl0_3] at hx165_0)
           replace p165 := eq_true p165
           replace q165 := eq_true q165
           have p50 : 0 ≤ ((l1.length : Int) : Int) := oa
           have q50 : ((l1.length : Int) : Int) < ((x0_3.length : Int) : Int) := oa
           obtain ⟨hx50_0, hf50_0⟩ := Kd.Wn_cell 0 HO_0.out ((l1.length : Int) : Int) p50 q50
           (try simp only [Int.toNat_natCast] at hx50_0); (try simp only [Int.toNat_natCast] at hf50_0)
           replace p50 := eq_true p50
           replace q50 := eq_true q50
           have HP51 := Kd.Wn_putg HO_0.out ((l1.length : Int) : Int) oa (by have h_ : ((l1.length : Int) : Int) < ((x0_3.length : Int) : Int) := oa; first | exact h_ | (have e_ := (Kd.Wn_reads' HO_0.out).1; omega) | simpa using h_) (((rd x0_3 (l1.length : Int)) + x14_3) % 4294967296)
           go_wp2_with (first | ((with_reducible refine gate_store (t := 72) (p := 157) rfl ?_); (try (rw [drewN_self wr]; generalize hq_ : World.drewN wr _ = wr; have n0_ := Aside0.mk (Kd.Wn_at hq_ HO_0.out); have n1_ := Aside0.mk (kept_at hq_ HK.out); have n2_ := Aside0.mk (below_at hq_ HB.out); clear hq_ HO_0 HK HB; have HO_0 := n0_; have HK := n1_; have HB := n2_; clear n0_ n1_ n2_; (try (have HP51 := Kd.Wn_putg HO_0.out ((l1.length : Int) : Int) oa (by have h_ : ((l1.length : Int) : Int) < ((x0_3.length : Int) : Int) := oa; first | exact h_ | (have e_ := (Kd.Wn_reads' HO_0.out).1; omega) | simpa using h_) (((rd x0_3 (l1.length : Int)) + x14_3) % 4294967296))))); refine se 72 157 (w1 := (wr.setCell ⟨go34, oo34 + ((l1.length : Int) : Int).toNat, none⟩ (.int .u32 (((rd x0_3 (l1.length : Int)) + x14_3) % 4294967296)))) ?_; intro w52 hw; have hg : wr.grownBy w52 (some go34) := (by rw [hw]; exact HP51.2); have hp_ : Kd.Wn pre_ post_ 72 w52 w0.heap.size (fun k_ => (P0_ k_ ∨ w.heap.size ≤ k_)) (.slice (some ⟨go34, oo34, none⟩) x0_3.length co11) y166 := (by rw [hw, Ny166.out]; exact HP51.1); clear HP51; replace HB := Aside0.mk ((by rw [hw]; exact below_set (HB.out) GB34.out : Below w0.heap.size w0 w52)); replace HK := Aside0.mk (Kept.of_grown (S := (fun k_ => P0_ k_)) hg (by repeat (first | (with_reducible first | exact HK.out | apply Kept.alloc | apply Kept.drewN | apply Kept.drew) | exact HK.out)) (fun k_ e_ => (HO_0.out.1 k_ e_))); replace HO_0 := Aside0.mk (hp_); clear hg hw hp_))
           repeat (go_quiet (first | ((with_reducible refine gate_store (t := 72) (p := 157) rfl ?_); (try (rw [drewN_self wr]; generalize hq_ : World.drewN wr _ = wr; have n0_ := Aside0.mk (Kd.Wn_at hq_ HO_0.out); have n1_ := Aside0.mk (kept_at hq_ HK.out); have n2_ := Aside0.mk (below_at hq_ HB.out); clear hq_ HO_0 HK HB; have HO_0 := n0_; have HK := n1_; have HB := n2_; clear n0_ n1_ n2_; (try (have HP51 := Kd.Wn_putg HO_0.out ((l1.length : Int) : Int) oa (by have h_ : ((l1.length : Int) : Int) < ((x0_3.length : Int) : Int) := oa; first | exact h_ | (have e_ := (Kd.Wn_reads' HO_0.out).1; omega) | simpa using h_) (((rd x0_3 (l1.length : Int)) + x14_3) % 4294967296))))); refine se 72 157 (w1 := (wr.setCell ⟨go34, oo34 + ((l1.length : Int) : Int).toNat, none⟩ (.int .u32 (((rd x0_3 (l1.length : Int)) + x14_3) % 4294967296)))) ?_; intro w52 hw; have hg : wr.grownBy w52 (some go34) := (by rw [hw]; exact HP51.2); have hp_ : Kd.Wn pre_ post_ 72 w52 w0.heap.size (fun k_ => (P0_ k_ ∨ w.heap.size ≤ k_)) (.slice (some ⟨go34, oo34, none⟩) x0_3.length co11) y166 := (by rw [hw, Ny166.out]; exact HP51.1); clear HP51; replace HB := Aside0.mk ((by rw [hw]; exact below_set (HB.out) GB34.out : Below w0.heap.size w0 w52)); replace HK := Aside0.mk (Kept.of_grown (S := (fun k_ => P0_ k_)) hg (by repeat (first | (with_reducible first | exact HK.out | apply Kept.alloc | apply Kept.drewN | apply Kept.drew) | exact HK.out)) (fun k_ e_ => (HO_0.out.1 k_ e_))); replace HO_0 := Aside0.mk (hp_); clear hg hw hp_)); try go_wp2_with (first | ((with_reducible refine gate_store (t := 72) (p := 157) rfl ?_); (try (rw [drewN_self wr]; generalize hq_ : World.drewN wr _ = wr; have n0_ := Aside0.mk (Kd.Wn_at hq_ HO_0.out); have n1_ := Aside0.mk (kept_at hq_ HK.out); have n2_ := Aside0.mk (below_at hq_ HB.out); clear hq_ HO_0 HK HB; have HO_0 := n0_; have HK := n1_; have HB := n2_; clear n0_ n1_ n2_; (try (have HP51 := Kd.Wn_putg HO_0.out ((l1.length : Int) : Int) oa (by have h_ : ((l1.length : Int) : Int) < ((x0_3.length : Int) : Int) := oa; first | exact h_ | (have e_ := (Kd.Wn_reads' HO_0.out).1; omega) | simpa using h_) (((rd x0_3 (l1.length : Int)) + x14_3) % 4294967296))))); refine se 72 157 (w1 := (wr.setCell ⟨go34, oo34 + ((l1.length : Int) : Int).toNat, none⟩ (.int .u32 (((rd x0_3 (l1.length : Int)) + x14_3) % 4294967296)))) ?_; intro w52 hw; have hg : wr.grownBy w52 (some go34) := (by rw [hw]; exact HP51.2); have hp_ : Kd.Wn pre_ post_ 72 w52 w0.heap.size (fun k_ => (P0_ k_ ∨ w.heap.size ≤ k_)) (.slice (some ⟨go34, oo34, none⟩) x0_3.length co11) y166 := (by rw [hw, Ny166.out]; exact HP51.1); clear HP51; replace HB := Aside0.mk ((by rw [hw]; exact below_set (HB.out) GB34.out : Below w0.heap.size w0 w52)); replace HK := Aside0.mk (Kept.of_grown (S := (fun k_ => P0_ k_)) hg (by repeat (first | (with_reducible first | exact HK.out | apply Kept.alloc | apply Kept.drewN | apply Kept.drew) | exact HK.out)) (fun k_ e_ => (HO_0.out.1 k_ e_))); replace HO_0 := Aside0.mk (hp_); clear hg hw hp_)))
           go_ret
           exact ⟨by first | rfl | (simp [errW_none, errW_some] <;> rfl) | (simp only [← hji5]; first | rfl | (simp [errW_none, errW_some] <;> rfl)) | (simp [*, errW_none, errW_some] <;> rfl), (by first | exact (vs HO_0.out) | (simp only [hl0_2, hl0_3]; exact (vs HO_0.out))), bz HB.out, by repeat (first | (with_reducible first | exact HK.out | apply Kept.alloc | apply Kept.drewN | apply Kept.drew) | exact HK.out)⟩

/-! ### natural_unshift: function 85 -/
def natural_unshift.l0 : Nat → List Int → Int → List Int → Int → Int → Option (List Int)
 | 0, _, _, _, _, _ => none
 | k + 1, x0, x1, x5, x12, x13 => if x13 < x12 then (if 0 ≤ x13 then (if x13 < (x0.length : Int) then (if (wrap64 (x13 + 1)) < (x0.length : Int) then (if 0 ≤ (wrap64 (x13 + 1)) then (if 0 ≤ x1 then (if x13 < (x5.length : Int) then (natural_unshift.l0 k x0 x1 (x5.set (x13 : Int).toNat ((shr .u64 (Go.bits .or .u64 (IntKind.u64.wrap (rd x0 x13)) (IntKind.u64.wrap ((IntKind.u64.wrap (rd x0 (wrap64 (x13 + 1)))) * 4294967296))) x1) % 4294967296)) x12 (wrap64 (x13 + 1))) else (none)) else (none)) else (none)) else (if 0 ≤ x1 then (if x13 < (x5.length : Int) then (natural_unshift.l0 k x0 x1 (x5.set (x13 : Int).toNat ((shr .u64 (IntKind.u64.wrap (rd x0 x13)) x1) % 4294967296)) x12 (wrap64 (x13 + 1))) else (none)) else (none))) else (none)) else (none)) else ((natural_limbs_trim.f k x5).bind fun t174 => (some t174))
def natural_unshift.f (k : Nat) (l0 : List Int) (a1 : Int) : Option (List Int) := if 0 ≤ (l0.length : Int) then (if ((l0.length : Int) : Int).toNat ≤ 70368744177664 then (natural_unshift.l0 k l0 a1 (List.replicate ((l0.length : Int) : Int).toNat 0) (l0.length : Int) 0) else (none)) else (none)
theorem natural_unshift.mono_l : ∀ k, (∀ y0 y1 y2 y3 y4, LeO (natural_unshift.l0 k y0 y1 y2 y3 y4) (natural_unshift.l0 (k + 1) y0 y1 y2 y3 y4))
 | 0 => fun _ _ _ _ _ r h => by simp [natural_unshift.l0] at h
 | k + 1 => by
  have ih0 := natural_unshift.mono_l k
  ·intro y0 y1 y2 y3 y4
   unfold natural_unshift.l0
   repeat' with_reducible first | exact ih0 _ _ _ _ _ | exact natural_limbs_trim.mono _ _ | exact LeO.refl _ | exact LeO.none _ | refine LeO.ite ?_ ?_ | refine LeO.bind ?_ (fun _ => ?_)
theorem natural_unshift.mono : ∀ a0 a1 k, LeO (natural_unshift.f k a0 a1) (natural_unshift.f (k + 1) a0 a1) := by
 intro a0 a1 k
 have ih0 := natural_unshift.mono_l k
 unfold natural_unshift.f
 repeat' with_reducible first | exact ih0 _ _ _ _ _ | exact natural_limbs_trim.mono _ _ | exact LeO.refl _ | exact LeO.none _ | refine LeO.ite ?_ ?_ | refine LeO.bind ?_ (fun _ => ?_)
set_option maxHeartbeats 8000000 in
set_option maxRecDepth 100000 in
theorem natural_unshift.calls (k : Nat) (A0 : Option Addr) (c0 : Nat) (l0 : List Int) (a1 : Int) (r : List Int) (w : World) (hr0 : Kd.C (Kd.int .u32) w A0 l0.length l0) (hc0 : l0.length ≤ c0) (h : natural_unshift.f k l0 a1 = some r) :
  Calls Tryd.prog 85 #[.slice A0 l0.length c0, .int .u64 a1] w fun e w' => ∃ v0_ : Value, e = .returned (v0_) ∧ Kd.V (Kd.int .u32) 72 w' w.heap.size (fun k_ => (w.heap.size ≤ k_)) v0_ r ∧ Below w.heap.size w w' := by
 have HR0 := Aside0.mk hr0
 have HC0 := Aside0.mk hc0
 clear hr0 hc0
 have HB := Aside0.mk (Below.refl w.heap.size w)
 have H := h
 clear h
 unfold natural_unshift.f at H
 obtain ⟨c3, H⟩ := iN H
 have c3b0 := eq_true c3
 have c3b1 : decide (0 ≤ (l0.length : Int)) = true := decide_eq_true c3
 clear c3
 obtain ⟨c4, H⟩ := iN H
 have c4b0 := eq_true c4
 have c4b1 : decide (((l0.length : Int) : Int).toNat ≤ 70368744177664) = true := decide_eq_true c4
 clear c4
 obtain ⟨y167, hy167⟩ : ∃ y_ : List Int, y_ = (List.replicate ((l0.length : Int) : Int).toNat 0) := ⟨_, rfl⟩
 (try first | rw [← hy167] at H | (dsimp only at H; rw [← hy167] at H)); (try rw [Option.bind_some] at H)
 have Ny167 := Aside0.mk hy167
 clear hy167
 have H' := Aside0.mk H
 clear H
 go_enter Tryd.func85, Tryd.ntmps85
 go_wp2_with (first | ((with_reducible refine gd 10 rfl ?_); refine Kd.R_make (Kd.int .u32) _ 72 rfl (N := 10) rfl 65 _ _ rfl (l0.length : Int) rfl rfl Tryd.underlying65 (.int .u32 0) 4 info72 rfl (by decide) (by omega) 0 (ok := fun _ => True) (okp := fun _ => True) rfl (fun _ hk => hk) trivial oa (Nat.le_trans (Nat.mul_le_mul_right _ (oa : (l0.length : Int).toNat ≤ 70368744177664)) (by omega)) (Below.refl _ _) (Nat.le_refl _) ?_; intro v168 w5 ho6 hb hg_ hnew_; clear hg_ hnew_; (first | rw [← Ny167.out] at ho6 | (simp only [Int.reduceToNat] at ho6; rw [← Ny167.out] at ho6)); have HO169 := Aside0.mk (Kd.R_lower (Kd.R_newM (M := fun k_ => (w.heap.size ≤ k_)) ho6 (sz HB.out) (fun k_ h_ => h_)) (sz HB.out)); replace HB := Aside0.mk (bs HB.out hb); clear hb ho6))
 go_loopg [13] k (fun kq v13 w' => ∃ (x5_1 : List Int) (x13_1 : Int), v13 = .int .i64 x13_1 ∧ Aside0 (natural_unshift.l0 kq l0 a1 x5_1 (l0.length : Int) x13_1 = some r) ∧ Aside0 (kq ≤ k) ∧ Aside0 (Kd.R (Kd.int .u32) 72 w' w.heap.size (fun k_ => (w.heap.size ≤ k_)) v168 x5_1) ∧ Aside0 (Below w.heap.size w w'))
 case atStart => exact ⟨(y167), (0), fs, H', ⟨Nat.le_refl _⟩, ⟨rm HO169.out (fun _ hk => hk.1)⟩, ⟨bz HB.out⟩⟩
 case round =>
  clear H'
  (try clear c3b0); (try clear c3b1); (try clear c4b0); (try clear c4b1)
  obtain ⟨x5_1, x13_1, rfl, HA, HK1, HO_5, HB⟩ := hrel
  cases gk with
  | zero => exact absurd HA.out (by simp [natural_unshift.l0])
  | succ k1 =>
   have H := HA.out
   clear HA
   simp only [natural_unshift.l0] at H
   by_cases c7 : x13_1 < (l0.length : Int)
   ·rw [if_pos c7] at H
    have c7b0 : decide (x13_1 < (l0.length : Int)) = true := decide_eq_true c7
    clear c7
    obtain ⟨c8, H⟩ := iN H
    have c8b0 : decide (0 ≤ x13_1) = true := decide_eq_true c8
    clear c8
    obtain ⟨c9, H⟩ := iN H
    have c9b0 : decide (x13_1 < (l0.length : Int)) = true := decide_eq_true c9
    clear c9
    by_cases c10 : (wrap64 (x13_1 + 1)) < (l0.length : Int)
    ·rw [if_pos c10] at H
     have c10b0 : decide ((wrap64 (x13_1 + 1)) < (l0.length : Int)) = true := decide_eq_true c10
     clear c10
     obtain ⟨ji11, hji11⟩ : ∃ j_ : Int, (wrap64 (x13_1 + 1)) = j_ := ⟨_, rfl⟩
     first | rw [hji11] at H | simp only [hji11] at H
     (try rw [hji11] at c10b0)
     have hji11w : (IntKind.i64.wrap (x13_1 + 1)) = ji11 := (i64_w _).trans hji11
     obtain ⟨c12, H⟩ := iN H
     have c12b0 : decide (0 ≤ (ji11)) = true := decide_eq_true c12
     clear c12
     obtain ⟨c13, H⟩ := iN H
     have c13b0 := eq_true c13
     have c13b1 : decide (0 ≤ a1) = true := decide_eq_true c13
     clear c13
     obtain ⟨ji14, hji14⟩ : ∃ j_ : Int, (shr .u64 (Go.bits .or .u64 (IntKind.u64.wrap (rd l0 x13_1)) (IntKind.u64.wrap ((IntKind.u64.wrap (rd l0 (ji11))) * 4294967296))) a1) = j_ := ⟨_, rfl⟩
     first | rw [hji14] at H | simp only [hji14] at H
     have hji14_ : ((Go.bits .or .u64 (IntKind.u64.wrap (rd l0 x13_1)) (IntKind.u64.wrap ((IntKind.u64.wrap (rd l0 (ji11))) * 4294967296))) / 2 ^ min a1.toNat 64) = ji14 := hji14
     have hji14z : a1 ≤ 64 → ((Go.bits .or .u64 (IntKind.u64.wrap (rd l0 x13_1)) (IntKind.u64.wrap ((IntKind.u64.wrap (rd l0 (ji11))) * 4294967296))) / 2 ^ a1.toNat) = ji14 := shr_small hji14
     obtain ⟨c15, H⟩ := iN H
     have c15b0 : decide (x13_1 < (x5_1.length : Int)) = true := decide_eq_true c15
     clear c15
     obtain ⟨y172, hy172⟩ : ∃ y_ : List Int, y_ = (x5_1.set (x13_1 : Int).toNat ((ji14) % 4294967296)) := ⟨_, rfl⟩
     (try first | rw [← hy172] at H | (dsimp only at H; rw [← hy172] at H)); (try rw [Option.bind_some] at H)
     have Ny172 := Aside0.mk hy172
     clear hy172
     have H' := Aside0.mk H
     clear H
     have p170 : 0 ≤ (x13_1 : Int) := oa
     have q170 : x13_1 < (l0.length : Int) := oa
     obtain ⟨ad170, e170, hx170_0⟩ := Kd.at_int HR0.out x13_1 p170 q170
     cases e170
     try replace hx170_0 := (HB.out.cell (World.block_lt_of_cell? w _ hx170_0)).trans hx170_0
     replace p170 := eq_true p170
     replace q170 := eq_true q170
     have p171 : 0 ≤ ((ji11) : Int) := oa
     have q171 : (ji11) < (l0.length : Int) := oa
     obtain ⟨ad171, e171, hx171_0⟩ := Kd.at_int HR0.out (ji11) p171 q171
     obtain rfl : ad170 = ad171 := (by injection e171)
     try replace hx171_0 := (HB.out.cell (World.block_lt_of_cell? w _ hx171_0)).trans hx171_0
     replace p171 := eq_true p171
     replace q171 := eq_true q171
     have p16 : 0 ≤ (x13_1 : Int) := oa
     have q16 : (x13_1 : Int) < ((x5_1.length : Int) : Int) := oa
     obtain ⟨go16, co16, eo16, gb16, gl16, cl16, HG16⟩ := Kd.R_form HO_5.out (by omega)
     (first | cases eo16 | (injection eo16 with ea_ en_ ec_; (first | subst ea_ | (injection ea_ with ea_; subst ea_)); subst ec_; clear en_))
     have GB16 := Aside0.mk gb16
     have GG16 := Aside0.mk HG16
     clear gb16 gl16 HG16
     obtain ⟨hx16_0, hf16_0⟩ := Kd.R_celln 0 HO_5.out (x13_1 : Int) p16 q16
     replace p16 := eq_true p16
     replace q16 := eq_true q16
     have HP17 := Kd.R_putg HO_5.out (x13_1 : Int) ((ji14) % 4294967296)
     go_wp2_with (first | ((with_reducible refine gate_store (t := 72) (p := 41) rfl ?_); refine se 72 41 (w1 := (wr.setCell ⟨go16, (x13_1 : Int).toNat, none⟩ (.int .u32 ((ji14) % 4294967296)))) ?_; intro w18 hw; have hg : wr.grownBy w18 (some go16) := (by rw [hw]; exact HP17.2); have hp_ : Kd.R (Kd.int .u32) 72 w18 w.heap.size (fun k_ => (w.heap.size ≤ k_)) (.slice (some ⟨go16, 0, none⟩) x5_1.length co16) y172 := (by rw [hw, Ny172.out]; exact HP17.1); clear HP17; replace HO_5 := Aside0.mk (hp_); replace HB := Aside0.mk ((by rw [hw]; exact below_set (HB.out) GB16.out : Below w.heap.size w w18)); clear hg hw hp_))
     go_roundg k1
     case measure => have := HK1.out; omega
     case rel => exact ⟨(y172), (ji11), (by first | rfl | (simp; done) | (simp only [← hji11] <;> (first | rfl | simp)) | (simp [*]; done)), H', ⟨by have := HK1.out; omega⟩, ⟨vs HO_5.out⟩, ⟨bz HB.out⟩⟩
    ·rw [if_neg c10] at H
     have c10b0 : decide ((wrap64 (x13_1 + 1)) < (l0.length : Int)) = false := decide_eq_false c10
     clear c10
     obtain ⟨c19, H⟩ := iN H
     have c19b0 := eq_true c19
     have c19b1 : decide (0 ≤ a1) = true := decide_eq_true c19
     clear c19
     obtain ⟨ji20, hji20⟩ : ∃ j_ : Int, (shr .u64 (IntKind.u64.wrap (rd l0 x13_1)) a1) = j_ := ⟨_, rfl⟩
     first | rw [hji20] at H | simp only [hji20] at H
     have hji20_ : ((IntKind.u64.wrap (rd l0 x13_1)) / 2 ^ min a1.toNat 64) = ji20 := hji20
     have hji20z : a1 ≤ 64 → ((IntKind.u64.wrap (rd l0 x13_1)) / 2 ^ a1.toNat) = ji20 := shr_small hji20
     obtain ⟨c21, H⟩ := iN H
     have c21b0 : decide (x13_1 < (x5_1.length : Int)) = true := decide_eq_true c21
     clear c21
     obtain ⟨y173, hy173⟩ : ∃ y_ : List Int, y_ = (x5_1.set (x13_1 : Int).toNat ((ji20) % 4294967296)) := ⟨_, rfl⟩
     (try first | rw [← hy173] at H | (dsimp only at H; rw [← hy173] at H)); (try rw [Option.bind_some] at H)
     have Ny173 := Aside0.mk hy173
     clear hy173
     have H' := Aside0.mk H
     clear H
     have p170 : 0 ≤ (x13_1 : Int) := oa
     have q170 : x13_1 < (l0.length : Int) := oa
     obtain ⟨ad170, e170, hx170_0⟩ := Kd.at_int HR0.out x13_1 p170 q170
     cases e170
     try replace hx170_0 := (HB.out.cell (World.block_lt_of_cell? w _ hx170_0)).trans hx170_0
     replace p170 := eq_true p170
     replace q170 := eq_true q170
     have p22 : 0 ≤ (x13_1 : Int) := oa
     have q22 : (x13_1 : Int) < ((x5_1.length : Int) : Int) := oa
     obtain ⟨go22, co22, eo22, gb22, gl22, cl22, HG22⟩ := Kd.R_form HO_5.out (by omega)
     (first | cases eo22 | (injection eo22 with ea_ en_ ec_; (first | subst ea_ | (injection ea_ with ea_; subst ea_)); subst ec_; clear en_))
     have GB22 := Aside0.mk gb22
     have GG22 := Aside0.mk HG22
     clear gb22 gl22 HG22
     obtain ⟨hx22_0, hf22_0⟩ := Kd.R_celln 0 HO_5.out (x13_1 : Int) p22 q22
     replace p22 := eq_true p22
     replace q22 := eq_true q22
     have HP23 := Kd.R_putg HO_5.out (x13_1 : Int) ((ji20) % 4294967296)
     go_wp2_with (first | ((with_reducible refine gate_store (t := 72) (p := 41) rfl ?_); refine se 72 41 (w1 := (wr.setCell ⟨go22, (x13_1 : Int).toNat, none⟩ (.int .u32 ((ji20) % 4294967296)))) ?_; intro w24 hw; have hg : wr.grownBy w24 (some go22) := (by rw [hw]; exact HP23.2); have hp_ : Kd.R (Kd.int .u32) 72 w24 w.heap.size (fun k_ => (w.heap.size ≤ k_)) (.slice (some ⟨go22, 0, none⟩) x5_1.length co22) y173 := (by rw [hw, Ny173.out]; exact HP23.1); clear HP23; replace HO_5 := Aside0.mk (hp_); replace HB := Aside0.mk ((by rw [hw]; exact below_set (HB.out) GB22.out : Below w.heap.size w w24)); clear hg hw hp_))
     go_roundg k1
     case measure => have := HK1.out; omega
     case rel => exact ⟨(y173), (wrap64 (x13_1 + 1)), fs, H', ⟨by have := HK1.out; omega⟩, ⟨vs HO_5.out⟩, ⟨bz HB.out⟩⟩
   ·rw [if_neg c7] at H
    have c7b0 : decide (x13_1 < (l0.length : Int)) = false := decide_eq_false c7
    clear c7
    obtain ⟨t174, A25, H⟩ := bs1 H
    obtain rfl := Option.some.inj H
    obtain ⟨Ao26, co26, eo26⟩ := Kd.R_slice HO_5.out
    subst eo26
    go_wp2_with (first | ((with_reducible refine gc 80 rfl ?_); refine gl (some 44) Tryd.func80 #[.slice Ao26 x5_1.length co26] ?_; (with_reducible refine (natural_limbs_trim.calls k1 (fun k_ => some k_ = (.slice Ao26 x5_1.length co26 : Value).ownBlock) _ _ x5_1 t174 _ ?side1 A25.out).mono ?_); (case side1 => exact Kd.R_V (Kd.R_tight rfl (HO_5.out))); rintro e w27 ⟨v175, rfl, ho0, hb⟩; refine ⟨_, rfl, ?_⟩; have HO176 := Aside0.mk (Kd.V_lower (Kd.V_mono (ok' := fun k_ => (w.heap.size ≤ k_)) ho0 (fun k_ hk_ => Or.elim hk_ (fun hs_ => ((HO_5.out).1 k_ hs_.symm)) (fun hn_ => (Nat.le_trans (sz HB.out) hn_)))) (sz HB.out)); replace HO_5 := Aside0.mk (rb HO_5.out hb); replace HB := Aside0.mk (bs HB.out hb); (try clear hb ho0)))
    go_ret
    exact ⟨_, fe, vs HO176.out, bz HB.out⟩

/-! ### natural_stepw: a call of step with a window of a row (by hand) -/
def natural_stepw.f (k : Nat) (l0 : List Int) (lo : Int) (hi : Int) (l1 : List Int) : Option (Int × List Int) := if 0 ≤ lo ∧ lo < hi ∧ hi ≤ (l0.length : Int) then (natural_step.f k ((l0.take hi.toNat).drop lo.toNat) l1).bind fun z => some (z.1, l0.take lo.toNat ++ z.2 ++ l0.drop hi.toNat) else none
theorem natural_stepw.mono : ∀ a0 a1 a2 a3 k, LeO (natural_stepw.f k a0 a1 a2 a3) (natural_stepw.f (k + 1) a0 a1 a2 a3) := by
 intro a0 a1 a2 a3 k
 unfold natural_stepw.f
 exact LeO.ite (LeO.bind (natural_step.mono _ _ _) (fun _ => LeO.refl _)) (LeO.refl _)
theorem natural_stepw.calls (k : Nat) (P0_ : Nat → Prop) (u9000_ : Value) (l0 : List Int) (lo hi : Int) (A1 : Option Addr) (c1 : Nat) (l1 : List Int) (r1 : Int) (r2 : List Int) (w0 w : World) (hB : Below w0.heap.size w0 w) (ho0 : Kd.R (Kd.int .u32) 72 w w0.heap.size P0_ u9000_ l0) (hr1 : ∀ W_, Kept w W_ (fun k_ => P0_ k_) → Kd.C (Kd.int .u32) W_ A1 l1.length l1) (hc1 : l1.length ≤ c1) (h : natural_stepw.f k l0 lo hi l1 = some (r1, r2))
  {Au Aw : Option Addr} {cu nw cw : Nat} (hu : u9000_ = .slice Au l0.length cu) (hAw : Aw = if cu = lo.toNat then Au else Au.map (·.add (lo.toNat * 1))) (hnw : nw = hi.toNat - lo.toNat) (hcw : cw = cu - lo.toNat) :
  Calls Tryd.prog 84 #[.slice Aw nw cw, .slice A1 l1.length c1] w fun e w' => e = .returned (.int .u32 r1) ∧ Kd.R (Kd.int .u32) 72 w' w0.heap.size (fun k_ => (P0_ k_ ∨ w.heap.size ≤ k_)) u9000_ r2 ∧ Below w0.heap.size w0 w' ∧ Kept w w' (fun k_ => P0_ k_) := by
 subst hu
 unfold natural_stepw.f at h
 split at h
 ·rename_i hc
  obtain ⟨z, hz, h⟩ := Option.bind_eq_some_iff.mp h
  simp only [Option.some.injEq, Prod.mk.injEq] at h
  obtain ⟨rfl, rfl⟩ := h
  have hcu := (Kd.R_reads' ho0).2.1
  have hlo : lo.toNat < hi.toNat := by omega
  have hhi : hi.toNat ≤ l0.length := by omega
  obtain ⟨g, cap, hv, _⟩ := Kd.R_form ho0 (by omega)
  injection hv with hg _ _
  have hw := Kd.Wn_of_R ho0 hlo hhi hAw hnw hcw
  refine (natural_step.calls (l0.take lo.toNat) (l0.drop hi.toNat) k P0_ _ _ A1 c1 l1 z.1 z.2 w0 w hB hw hr1 hc1 hz).mono ?_
  rintro e w' ⟨rfl, hq, hb, hk⟩
  exact ⟨rfl, Kd.R_of_Wn rfl hq hlo hhi g hg hcu hAw hnw hcw, hb, hk⟩
 ·cases h
end Go.Proofs.YtgepdnoaemeofaaDoor.M
