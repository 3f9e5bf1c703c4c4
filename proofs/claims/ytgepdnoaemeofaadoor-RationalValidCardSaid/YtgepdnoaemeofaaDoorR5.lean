/- Printed by a program of this session (wip/tools) out of the translation: plain functions and the proofs that the code comes to their answers. -/
import Derived.Test.YtgepdnoaemeofaaDoorK
import Derived.Test.YtgepdnoaemeofaaDoorR0
import Derived.Test.YtgepdnoaemeofaaDoorR4
namespace Go.Proofs.YtgepdnoaemeofaaDoor.R
open Go.RowKit Go.Proofs.YtgepdnoaemeofaaDoorW.PrintWords Go.Proofs.YtgepdnoaemeofaaDoorW.PrintLast Go.Proofs.YtgepdnoaemeofaaDoorW.PrintMore Go.Proofs.YtgepdnoaemeofaaDoorW.PK
attribute [local go_sem] max2_int min2_int max_two min_two max_three min_three max_four min_four   -- for this text's walks alone
set_option linter.unusedVariables false
set_option linter.unusedSimpArgs false

/-! ### natural_step: function 84 -/
mutual
def natural_step.j2 : Nat → List Int → List Int → Int → Int → Option (Int × List Int)
 | 0, _, _, _, _ => none
 | k + 1, x0, x1, x5, x7 => natural_step.l1 k x0 x1 x5 x7 0 0 x1 (x1.length : Int) 0
def natural_step.l1 : Nat → List Int → List Int → Int → Int → Int → Int → List Int → Int → Int → Option (Int × List Int)
 | 0, _, _, _, _, _, _, _, _, _ => none
 | k + 1, x0, x1, x5, x7, x9, x10, x82, x83, x84 => if x84 < x83 then (if 0 ≤ x84 then (if x84 < (x82.length : Int) then (if x84 < (x0.length : Int) then ((bits_Sub32.f (rd x0 x84) ((IntKind.u64.wrap ((IntKind.u64.wrap (x7 * (IntKind.u64.wrap (rd x82 x84)))) + x9)) % 4294967296) x10).bind fun bt158 => (natural_step.l1 k (x0.set (x84 : Int).toNat bt158.1) x1 x5 x7 ((IntKind.u64.wrap ((IntKind.u64.wrap (x7 * (IntKind.u64.wrap (rd x82 x84)))) + x9)) / 4294967296) bt158.2 x82 x83 (wrap64 (x84 + 1)))) else (none)) else (none)) else (none)) else (if 0 ≤ x5 then (if x5 < (x0.length : Int) then ((bits_Sub32.f (rd x0 x5) ((x9) % 4294967296) x10).bind fun bt162 => ((some (x0.set (x5 : Int).toNat bt162.1 : List Int)).bind fun y164 => (if bt162.2 = 0 then (some ((x7) % 4294967296, y164)) else (natural_step.l2 k y164 x5 x7 0 x1 (x1.length : Int) 0)))) else (none)) else (none))
def natural_step.l2 : Nat → List Int → Int → Int → Int → List Int → Int → Int → Option (Int × List Int)
 | 0, _, _, _, _, _, _, _ => none
 | k + 1, x0, x5, x7, x14, x130, x131, x132 => if x132 < x131 then (if 0 ≤ x132 then (if x132 < (x130.length : Int) then (if x132 < (x0.length : Int) then ((bits_Add32.f (rd x0 x132) (rd x130 x132) x14).bind fun bt167 => (natural_step.l2 k (x0.set (x132 : Int).toNat bt167.1) x5 x7 bt167.2 x130 x131 (wrap64 (x132 + 1)))) else (none)) else (none)) else (none)) else (if 0 ≤ x5 then (if x5 < (x0.length : Int) then (some ((IntKind.u64.wrap (x7 - 1)) % 4294967296, (x0.set (x5 : Int).toNat (((rd x0 x5) + x14) % 4294967296)))) else (none)) else (none))
def natural_step.l0 : Nat → List Int → List Int → Int → Int → Int → Option (Int × List Int)
 | 0, _, _, _, _, _ => none
 | k + 1, x0, x1, x5, x7, x8 => if x7 ≥ 4294967296 then (natural_step.j1 k x0 x1 x5 x7 x8 true) else (if 0 ≤ (wrap64 (x5 - 2)) then (if (wrap64 (x5 - 2)) < (x1.length : Int) then (if (wrap64 (x5 - 2)) < (x0.length : Int) then (natural_step.j1 k x0 x1 x5 x7 x8 (decide ((IntKind.u64.wrap (x7 * (IntKind.u64.wrap (rd x1 (wrap64 (x5 - 2)))))) > (Go.bits .or .u64 (IntKind.u64.wrap (x8 * 4294967296)) (IntKind.u64.wrap (rd x0 (wrap64 (x5 - 2)))))))) else (none)) else (none)) else (none))
def natural_step.j1 : Nat → List Int → List Int → Int → Int → Int → Bool → Option (Int × List Int)
 | 0, _, _, _, _, _, _ => none
 | k + 1, x0, x1, x5, x7, x8, x69 => if x69 = true then (if 0 ≤ (wrap64 (x5 - 1)) then (if (wrap64 (x5 - 1)) < (x1.length : Int) then (if (IntKind.u64.wrap (x8 + (IntKind.u64.wrap (rd x1 (wrap64 (x5 - 1)))))) ≥ 4294967296 then (natural_step.j2 k x0 x1 x5 (IntKind.u64.wrap (x7 - 1))) else (natural_step.l0 k x0 x1 x5 (IntKind.u64.wrap (x7 - 1)) (IntKind.u64.wrap (x8 + (IntKind.u64.wrap (rd x1 (wrap64 (x5 - 1)))))))) else (none)) else (none)) else (natural_step.j2 k x0 x1 x5 x7)
end
def natural_step.f (k : Nat) (l0 : List Int) (l1 : List Int) : Option (Int × List Int) := if 0 ≤ (l1.length : Int) then (if (l1.length : Int) < (l0.length : Int) then (if 0 ≤ (wrap64 ((l1.length : Int) - 1)) then (if (wrap64 ((l1.length : Int) - 1)) < (l0.length : Int) then (if (wrap64 ((l1.length : Int) - 1)) < (l1.length : Int) then (if (IntKind.u64.wrap (rd l1 (wrap64 ((l1.length : Int) - 1)))) = 0 then (none) else (natural_step.l0 k l0 l1 (l1.length : Int) (IntKind.u64.wrap (Int.tdiv (Go.bits .or .u64 (IntKind.u64.wrap ((IntKind.u64.wrap (rd l0 (l1.length : Int))) * 4294967296)) (IntKind.u64.wrap (rd l0 (wrap64 ((l1.length : Int) - 1))))) (IntKind.u64.wrap (rd l1 (wrap64 ((l1.length : Int) - 1)))))) (Int.tmod (Go.bits .or .u64 (IntKind.u64.wrap ((IntKind.u64.wrap (rd l0 (l1.length : Int))) * 4294967296)) (IntKind.u64.wrap (rd l0 (wrap64 ((l1.length : Int) - 1))))) (IntKind.u64.wrap (rd l1 (wrap64 ((l1.length : Int) - 1))))))) else (none)) else (none)) else (none)) else (none)) else (none)
theorem natural_step.mono_l : ∀ k, (∀ y0 y1 y2 y3, LeO (natural_step.j2 k y0 y1 y2 y3) (natural_step.j2 (k + 1) y0 y1 y2 y3)) ∧ (∀ y0 y1 y2 y3 y4 y5 y6 y7 y8, LeO (natural_step.l1 k y0 y1 y2 y3 y4 y5 y6 y7 y8) (natural_step.l1 (k + 1) y0 y1 y2 y3 y4 y5 y6 y7 y8)) ∧ (∀ y0 y1 y2 y3 y4 y5 y6, LeO (natural_step.l2 k y0 y1 y2 y3 y4 y5 y6) (natural_step.l2 (k + 1) y0 y1 y2 y3 y4 y5 y6)) ∧ (∀ y0 y1 y2 y3 y4, LeO (natural_step.l0 k y0 y1 y2 y3 y4) (natural_step.l0 (k + 1) y0 y1 y2 y3 y4)) ∧ (∀ y0 y1 y2 y3 y4 y5, LeO (natural_step.j1 k y0 y1 y2 y3 y4 y5) (natural_step.j1 (k + 1) y0 y1 y2 y3 y4 y5))
 | 0 => ⟨fun _ _ _ _ r h => by simp [natural_step.j2] at h, fun _ _ _ _ _ _ _ _ _ r h => by simp [natural_step.l1] at h, fun _ _ _ _ _ _ _ r h => by simp [natural_step.l2] at h, fun _ _ _ _ _ r h => by simp [natural_step.l0] at h, fun _ _ _ _ _ _ r h => by simp [natural_step.j1] at h⟩
 | k + 1 => by
  obtain ⟨ih0, ih1, ih2, ih3, ih4⟩ := natural_step.mono_l k
  refine ⟨?_, ?_, ?_, ?_, ?_⟩
  ·intro y0 y1 y2 y3
   unfold natural_step.j2
   repeat' with_reducible first | exact ih0 _ _ _ _ | exact ih1 _ _ _ _ _ _ _ _ _ | exact ih2 _ _ _ _ _ _ _ | exact ih3 _ _ _ _ _ | exact ih4 _ _ _ _ _ _ | exact LeO.refl _ | exact LeO.none _ | refine LeO.ite ?_ ?_ | refine LeO.bind ?_ (fun _ => ?_)
  ·intro y0 y1 y2 y3 y4 y5 y6 y7 y8
   unfold natural_step.l1
   repeat' with_reducible first | exact ih0 _ _ _ _ | exact ih1 _ _ _ _ _ _ _ _ _ | exact ih2 _ _ _ _ _ _ _ | exact ih3 _ _ _ _ _ | exact ih4 _ _ _ _ _ _ | exact LeO.refl _ | exact LeO.none _ | refine LeO.ite ?_ ?_ | refine LeO.bind ?_ (fun _ => ?_)
  ·intro y0 y1 y2 y3 y4 y5 y6
   unfold natural_step.l2
   repeat' with_reducible first | exact ih0 _ _ _ _ | exact ih1 _ _ _ _ _ _ _ _ _ | exact ih2 _ _ _ _ _ _ _ | exact ih3 _ _ _ _ _ | exact ih4 _ _ _ _ _ _ | exact LeO.refl _ | exact LeO.none _ | refine LeO.ite ?_ ?_ | refine LeO.bind ?_ (fun _ => ?_)
  ·intro y0 y1 y2 y3 y4
   unfold natural_step.l0
   repeat' with_reducible first | exact ih0 _ _ _ _ | exact ih1 _ _ _ _ _ _ _ _ _ | exact ih2 _ _ _ _ _ _ _ | exact ih3 _ _ _ _ _ | exact ih4 _ _ _ _ _ _ | exact LeO.refl _ | exact LeO.none _ | refine LeO.ite ?_ ?_ | refine LeO.bind ?_ (fun _ => ?_)
  ·intro y0 y1 y2 y3 y4 y5
   unfold natural_step.j1
   repeat' with_reducible first | exact ih0 _ _ _ _ | exact ih1 _ _ _ _ _ _ _ _ _ | exact ih2 _ _ _ _ _ _ _ | exact ih3 _ _ _ _ _ | exact ih4 _ _ _ _ _ _ | exact LeO.refl _ | exact LeO.none _ | refine LeO.ite ?_ ?_ | refine LeO.bind ?_ (fun _ => ?_)
theorem natural_step.mono : ∀ a0 a1 k, LeO (natural_step.f k a0 a1) (natural_step.f (k + 1) a0 a1) := by
 intro a0 a1 k
 obtain ⟨ih0, ih1, ih2, ih3, ih4⟩ := natural_step.mono_l k
 unfold natural_step.f
 repeat' with_reducible first | exact ih0 _ _ _ _ | exact ih1 _ _ _ _ _ _ _ _ _ | exact ih2 _ _ _ _ _ _ _ | exact ih3 _ _ _ _ _ | exact ih4 _ _ _ _ _ _ | exact LeO.refl _ | exact LeO.none _ | refine LeO.ite ?_ ?_ | refine LeO.bind ?_ (fun _ => ?_)
set_option maxHeartbeats 8000000 in
set_option maxRecDepth 100000 in
theorem natural_step.calls (pre_ post_ : List Int) (k : Nat) (P0_ : Nat → Prop) (u9000_ : Value) (l0 : List Int) (A1 : Option Addr) (c1 : Nat) (l1 : List Int) (r1 : Int) (r2 : List Int) (w0 w : World) (hB : Below w0.heap.size w0 w) (ho0 : Kd.Wn pre_ post_ 72 w w0.heap.size P0_ u9000_ l0) (hr1 : ∀ W_, Kept w W_ (fun k_ => P0_ k_) → Kd.C (Kd.int .u32) W_ A1 l1.length l1) (hc1 : l1.length ≤ c1) (h : natural_step.f k l0 l1 = some (r1, r2)) :
  Calls Tryd.prog 84 #[u9000_, .slice A1 l1.length c1] w fun e w' => e = .returned (.int .u32 r1) ∧ Kd.Wn pre_ post_ 72 w' w0.heap.size (fun k_ => (P0_ k_ ∨ w.heap.size ≤ k_)) u9000_ r2 ∧ Below w0.heap.size w0 w' ∧ Kept w w' (fun k_ => P0_ k_) := by
 have HO0 := Aside0.mk (show Kd.Wn pre_ post_ 72 w w0.heap.size (fun k_ => (P0_ k_ ∨ w.heap.size ≤ k_)) u9000_ l0 from Kd.Wn_mono ho0 (fun k_ hk => (.inl hk)))
 have HR1 := Aside0.mk hr1
 have HC1 := Aside0.mk hc1
 clear hr1 hc1
 have HK := Aside0.mk (Kept.refl w (fun k_ => P0_ k_))
 have HW0 := Aside0.mk hB.size
 have HB := Aside0.mk hB
 clear hB
 have H := h
 clear h
 unfold natural_step.f at H
 obtain ⟨c3, H⟩ := iN H
 have c3b0 : decide (0 ≤ (l1.length : Int)) = true := decide_eq_true c3
 have c3b1 : decide (0 ≤ l1.length) = true := decide_eq_true (by omega)
 clear c3
 obtain ⟨c4, H⟩ := iN H
 have c4b0 : decide ((l1.length : Int) < (l0.length : Int)) = true := decide_eq_true c4
 have c4b1 : decide (l1.length < l0.length) = true := decide_eq_true (Int.ofNat_lt.mp c4)
 clear c4
 obtain ⟨ji5, hji5⟩ : ∃ j_ : Int, (wrap64 ((l1.length : Int) - 1)) = j_ := ⟨_, rfl⟩
 first | rw [hji5] at H | simp only [hji5] at H
 have hji5w : (IntKind.i64.wrap ((l1.length : Int) - 1)) = ji5 := (i64_w _).trans hji5
 obtain ⟨c6, H⟩ := iN H
 have c6b0 : decide (0 ≤ (ji5)) = true := decide_eq_true c6
 clear c6
 obtain ⟨c7, H⟩ := iN H
 have c7b0 : decide ((ji5) < (l0.length : Int)) = true := decide_eq_true c7
 clear c7
 obtain ⟨c8, H⟩ := iN H
 have c8b0 : decide ((ji5) < (l1.length : Int)) = true := decide_eq_true c8
 clear c8
 by_cases c9 : (IntKind.u64.wrap (rd l1 (ji5))) = 0
 ·rw [if_pos c9] at H
  exact absurd H (by simp)
 ·rw [if_neg c9] at H
  have c9b0 := beq_eq_false_iff_ne.mpr c9
  have c9b1 := bne_iff_ne.mpr c9
  have HC10 := Aside0.mk H
  clear H
  obtain ⟨Ao11, co11, eo11, _⟩ := Kd.Wn_slice HO0.out
  subst eo11
  have p149 : 0 ≤ ((l1.length : Int) : Int) := oa
  have q149 : (l1.length : Int) < (l0.length : Int) := oa
  obtain ⟨ad149, e149, hx149_0⟩ := Kd.at_int (Kd.Wn_reads' HO0.out).2.2 (l1.length : Int) p149 q149
  cases e149
  (try simp only [Go.IntWalk.toNatUp] at hx149_0)
  replace p149 := eq_true p149
  replace q149 := eq_true q149
  have p150 : 0 ≤ ((ji5) : Int) := oa
  have q150 : (ji5) < (l0.length : Int) := oa
  obtain ⟨ad150, e150, hx150_0⟩ := Kd.at_int (Kd.Wn_reads' HO0.out).2.2 (ji5) p150 q150
  obtain rfl : ad149 = ad150 := (by injection e150)
  replace p150 := eq_true p150
  replace q150 := eq_true q150
  have p151 : 0 ≤ ((ji5) : Int) := oa
  have q151 : (ji5) < (l1.length : Int) := oa
  obtain ⟨ad151, e151, hx151_0⟩ := Kd.at_int (Kd.C_kept_now HR1.out HK.out) (ji5) p151 q151
  cases e151
  replace p151 := eq_true p151
  replace q151 := eq_true q151
  have p152 : 0 ≤ ((ji5) : Int) := oa
  have q152 : (ji5) < (l1.length : Int) := oa
  obtain ⟨ad152, e152, hx152_0⟩ := Kd.at_int (Kd.C_kept_now HR1.out HK.out) (ji5) p152 q152
  obtain rfl : ad151 = ad152 := (by injection e152)
  replace p152 := eq_true p152
  replace q152 := eq_true q152
  go_enter Tryd.func84, Tryd.ntmps84
  (try (simp only [Exit.then]; refine (by assumption : ∀ (a : Act) (w : World), Code.wp _ _ _ a w → _) _ _ ?_))
  go_upto_block 0 with (fail)
  repeat (go_quiet (fail); go_upto_block 0 with (fail))
  go_cut [7] (fun v7 wc => ∃ (kq : Nat) (x7_9 : Int), v7 = .int .u64 x7_9 ∧ Aside0 (natural_step.j2 kq l0 l1 (l1.length : Int) x7_9 = some (r1, r2)) ∧ Aside0 (kq ≤ k) ∧ Aside0 (Kd.Wn pre_ post_ 72 wc w0.heap.size (fun k_ => (P0_ k_ ∨ w.heap.size ≤ k_)) (.slice (some ad149) l0.length co11) l0) ∧ Aside0 (Kept w wc (fun k_ => P0_ k_)) ∧ Aside0 (Below w0.heap.size w0 wc))
  case first =>
   have H := HC10.out
   clear HC10
   have H' := Aside0.mk H
   clear H
   go_wp2
   repeat (go_quiet (fail); try go_wp2)
   go_loopg [7, 8] k (fun kq v7 v8 w' => ∃ (x7_1 : Int) (x8_1 : Int), v7 = .int .u64 x7_1 ∧ v8 = .int .u64 x8_1 ∧ Aside0 (natural_step.l0 kq l0 l1 (l1.length : Int) x7_1 x8_1 = some (r1, r2)) ∧ Aside0 (kq ≤ k) ∧ Aside0 (Kd.Wn pre_ post_ 72 w' w0.heap.size (fun k_ => (P0_ k_ ∨ w.heap.size ≤ k_)) (.slice (some ad149) l0.length co11) l0) ∧ Aside0 (Kept w w' (fun k_ => P0_ k_)) ∧ Aside0 (Below w0.heap.size w0 w'))
   case atStart => exact ⟨(IntKind.u64.wrap (Int.tdiv (Go.bits .or .u64 (IntKind.u64.wrap ((IntKind.u64.wrap (rd l0 (l1.length : Int))) * 4294967296)) (IntKind.u64.wrap (rd l0 (ji5)))) (IntKind.u64.wrap (rd l1 (ji5))))), (Int.tmod (Go.bits .or .u64 (IntKind.u64.wrap ((IntKind.u64.wrap (rd l0 (l1.length : Int))) * 4294967296)) (IntKind.u64.wrap (rd l0 (ji5)))) (IntKind.u64.wrap (rd l1 (ji5)))), (by first | rfl | (simp; done) | (simp only [← hji5] <;> (first | rfl | simp)) | (simp [*]; done)), (by first | rfl | (simp; done) | (simp only [← hji5] <;> (first | rfl | simp)) | (simp [*]; done)), H', ⟨Nat.le_refl _⟩, ⟨vs HO0.out⟩, ⟨by repeat (first | (with_reducible first | exact HK.out | apply Kept.alloc | apply Kept.drewN | apply Kept.drew) | exact HK.out)⟩, ⟨bz HB.out⟩⟩
   case round =>
    clear H'
    (try clear c1); (try clear c3b0); (try clear c3b1); (try clear c4b0); (try clear c4b1); (try clear c6b0); (try clear c7b0); (try clear c8b0); (try clear c9); (try clear c9b0); (try clear c9b1); (try clear hx149_0); (try clear hx150_0); (try clear hx151_0); (try clear hx152_0); (try clear p149); (try clear p150); (try clear p151); (try clear p152); (try clear q149); (try clear q150); (try clear q151); (try clear q152)
    obtain ⟨x7_1, x8_1, rfl, rfl, HA, HK1, HO_0, HK, HB⟩ := hrel
    cases gk with
    | zero => exact absurd HA.out (by simp [natural_step.l0])
    | succ k1 =>
     have H := HA.out
     clear HA
     simp only [natural_step.l0] at H
     have HC12 := Aside0.mk H
     clear H
     (try (simp only [Exit.then]; refine (by assumption : ∀ (a : Act) (w : World), Code.wp _ _ _ a w → _) _ _ ?_))
     go_upto_region 4 with (fail)
     repeat (go_quiet (fail); go_upto_region 4 with (fail))
     go_cut [69] (fun v69 wc => ∃ (kq : Nat) (x69_11 : Bool), v69 = .bool x69_11 ∧ Aside0 (natural_step.j1 kq l0 l1 (l1.length : Int) x7_1 x8_1 x69_11 = some (r1, r2)) ∧ Aside0 (kq ≤ k1) ∧ Aside0 (Kd.Wn pre_ post_ 72 wc w0.heap.size (fun k_ => (P0_ k_ ∨ w.heap.size ≤ k_)) (.slice (some ad149) l0.length co11) l0) ∧ Aside0 (Kept w wc (fun k_ => P0_ k_)) ∧ Aside0 (Below w0.heap.size w0 wc))
     case first =>
      have H := HC12.out
      clear HC12
      by_cases c13 : x7_1 ≥ 4294967296
      ·rw [if_pos c13] at H
       have c13b0 : decide (4294967296 ≤ x7_1) = true := decide_eq_true c13
       clear c13
       (first | rw [c13b0] | (simp only [i64_w, i32_w]; rw [c13b0]) | skip)
       have H' := Aside0.mk H
       clear H
       go_wp2
       repeat (go_quiet (fail); try go_wp2)
       (try simp only [add_at] at *)
       go_meet
       case rel => exact ⟨_, (true), fs, H', ⟨by have := HK1.out; first | omega | exact Nat.le_refl _⟩, ⟨vs HO_0.out⟩, ⟨by repeat (first | (with_reducible first | exact HK.out | apply Kept.alloc | apply Kept.drewN | apply Kept.drew) | exact HK.out)⟩, ⟨bz HB.out⟩⟩
      ·rw [if_neg c13] at H
       have c13b0 : decide (4294967296 ≤ x7_1) = false := decide_eq_false c13
       clear c13
       (first | rw [c13b0] | (simp only [i64_w, i32_w]; rw [c13b0]) | skip)
       obtain ⟨ji14, hji14⟩ : ∃ j_ : Int, (wrap64 ((l1.length : Int) - 2)) = j_ := ⟨_, rfl⟩
       first | rw [hji14] at H | simp only [hji14] at H
       have hji14w : (IntKind.i64.wrap ((l1.length : Int) - 2)) = ji14 := (i64_w _).trans hji14
       obtain ⟨c15, H⟩ := iN H
       have c15b0 : decide (0 ≤ (ji14)) = true := decide_eq_true c15
       clear c15
       obtain ⟨c16, H⟩ := iN H
       have c16b0 : decide ((ji14) < (l1.length : Int)) = true := decide_eq_true c16
       clear c16
       obtain ⟨c17, H⟩ := iN H
       have c17b0 : decide ((ji14) < (l0.length : Int)) = true := decide_eq_true c17
       clear c17
       have H' := Aside0.mk H
       clear H
       have p153 : 0 ≤ ((ji14) : Int) := oa
       have q153 : (ji14) < (l1.length : Int) := oa
       obtain ⟨ad153, e153, hx153_0⟩ := Kd.at_int (Kd.C_kept_now HR1.out HK.out) (ji14) p153 q153
       obtain rfl : ad151 = ad153 := (by injection e153)
       replace p153 := eq_true p153
       replace q153 := eq_true q153
       have p154 : 0 ≤ ((ji14) : Int) := oa
       have q154 : (ji14) < (l0.length : Int) := oa
       obtain ⟨ad154, e154, hx154_0⟩ := Kd.at_int (Kd.Wn_reads' HO_0.out).2.2 (ji14) p154 q154
       obtain rfl : ad149 = ad154 := (by injection e154)
       replace p154 := eq_true p154
       replace q154 := eq_true q154
       go_wp2
       repeat (go_quiet (fail); try go_wp2)
       (try simp only [add_at] at *)
       go_meet
       case rel => exact ⟨_, (decide ((IntKind.u64.wrap (x7_1 * (IntKind.u64.wrap (rd l1 (ji14))))) > (Go.bits .or .u64 (IntKind.u64.wrap (x8_1 * 4294967296)) (IntKind.u64.wrap (rd l0 (ji14)))))), (by first | rfl | (simp; done) | (simp only [← hji14] <;> (first | rfl | simp)) | (simp [*]; done)), H', ⟨by have := HK1.out; first | omega | exact Nat.le_refl _⟩, ⟨vs HO_0.out⟩, ⟨by repeat (first | (with_reducible first | exact HK.out | apply Kept.alloc | apply Kept.drewN | apply Kept.drew) | exact HK.out)⟩, ⟨bz HB.out⟩⟩
     case rest =>
      clear HC12
      (try clear c1); (try clear c3b0); (try clear c3b1); (try clear c4b0); (try clear c4b1); (try clear c6b0); (try clear c7b0); (try clear c8b0); (try clear c9); (try clear c9b0); (try clear c9b1); (try clear c13b0); (try clear c15b0); (try clear c16b0); (try clear c17b0); (try clear hx149_0); (try clear hx150_0); (try clear hx151_0); (try clear hx152_0); (try clear hx153_0); (try clear hx154_0); (try clear p149); (try clear p150); (try clear p151); (try clear p152); (try clear p153); (try clear p154); (try clear q149); (try clear q150); (try clear q151); (try clear q152); (try clear q153); (try clear q154)
      obtain ⟨kq, x69_11, rfl, HA, HJ11, HO_0, HK, HB⟩ := hcut
      cases kq with
      | zero => exact absurd HA.out (by simp [natural_step.j1])
      | succ kj11 =>
       have H := HA.out
       clear HA
       simp only [natural_step.j1] at H
       by_cases c18 : x69_11 = true
       ·subst c18
        have H1 : (if 0 ≤ (wrap64 ((l1.length : Int) - 1)) then (if (wrap64 ((l1.length : Int) - 1)) < (l1.length : Int) then (if (IntKind.u64.wrap (x8_1 + (IntKind.u64.wrap (rd l1 (wrap64 ((l1.length : Int) - 1)))))) ≥ 4294967296 then (natural_step.j2 kj11 l0 l1 (l1.length : Int) (IntKind.u64.wrap (x7_1 - 1))) else (natural_step.l0 kj11 l0 l1 (l1.length : Int) (IntKind.u64.wrap (x7_1 - 1)) (IntKind.u64.wrap (x8_1 + (IntKind.u64.wrap (rd l1 (wrap64 ((l1.length : Int) - 1)))))))) else (none)) else (none)) = some (r1, r2) := by rw [if_pos rfl] at H; exact H
        clear H
        have H := H1
        clear H1
        (try clear hji5w); (try clear hji5)
        obtain ⟨ji19, hji19⟩ : ∃ j_ : Int, (wrap64 ((l1.length : Int) - 1)) = j_ := ⟨_, rfl⟩
        first | rw [hji19] at H | simp only [hji19] at H
        have hji19w : (IntKind.i64.wrap ((l1.length : Int) - 1)) = ji19 := (i64_w _).trans hji19
        obtain ⟨c20, H⟩ := iN H
        have c20b0 : decide (0 ≤ (ji19)) = true := decide_eq_true c20
        clear c20
        obtain ⟨c21, H⟩ := iN H
        have c21b0 : decide ((ji19) < (l1.length : Int)) = true := decide_eq_true c21
        clear c21
        by_cases c22 : (IntKind.u64.wrap (x8_1 + (IntKind.u64.wrap (rd l1 (ji19))))) ≥ 4294967296
        ·rw [if_pos c22] at H
         have c22b0 : decide (4294967296 ≤ (IntKind.u64.wrap (x8_1 + (IntKind.u64.wrap (rd l1 (ji19)))))) = true := decide_eq_true c22
         clear c22
         have H' := Aside0.mk H
         clear H
         have p155 : 0 ≤ ((ji19) : Int) := oa
         have q155 : (ji19) < (l1.length : Int) := oa
         obtain ⟨ad155, e155, hx155_0⟩ := Kd.at_int (Kd.C_kept_now HR1.out HK.out) (ji19) p155 q155
         obtain rfl : ad151 = ad155 := (by injection e155)
         replace p155 := eq_true p155
         replace q155 := eq_true q155
         go_wp2
         repeat (go_quiet (fail); try go_wp2)
         (try simp only [add_at] at *)
         go_meet
         case rel => exact ⟨_, (IntKind.u64.wrap (x7_1 - 1)), fs, H', ⟨by have := HK1.out; have := HJ11.out; first | omega | exact Nat.le_refl _⟩, ⟨vs HO_0.out⟩, ⟨by repeat (first | (with_reducible first | exact HK.out | apply Kept.alloc | apply Kept.drewN | apply Kept.drew) | exact HK.out)⟩, ⟨bz HB.out⟩⟩
        ·rw [if_neg c22] at H
         have c22b0 : decide (4294967296 ≤ (IntKind.u64.wrap (x8_1 + (IntKind.u64.wrap (rd l1 (ji19)))))) = false := decide_eq_false c22
         clear c22
         have H' := Aside0.mk H
         clear H
         have p155 : 0 ≤ ((ji19) : Int) := oa
         have q155 : (ji19) < (l1.length : Int) := oa
         obtain ⟨ad155, e155, hx155_0⟩ := Kd.at_int (Kd.C_kept_now HR1.out HK.out) (ji19) p155 q155
         obtain rfl : ad151 = ad155 := (by injection e155)
         replace p155 := eq_true p155
         replace q155 := eq_true q155
         go_wp2
         repeat (go_quiet (fail); try go_wp2)
         (try simp only [add_at] at *)
         go_roundg kj11
         case measure => have := HK1.out; have := HJ11.out; omega
         case rel => exact ⟨(IntKind.u64.wrap (x7_1 - 1)), (IntKind.u64.wrap (x8_1 + (IntKind.u64.wrap (rd l1 (ji19))))), fs, (by first | rfl | (simp; done) | (simp only [← hji19] <;> (first | rfl | simp)) | (simp [*]; done)), H', ⟨by have := HK1.out; have := HJ11.out; omega⟩, ⟨vs HO_0.out⟩, ⟨by repeat (first | (with_reducible first | exact HK.out | apply Kept.alloc | apply Kept.drewN | apply Kept.drew) | exact HK.out)⟩, ⟨bz HB.out⟩⟩
       ·replace c18 := Bool.eq_false_iff.mpr c18
        subst c18
        have H1 : (natural_step.j2 kj11 l0 l1 (l1.length : Int) x7_1) = some (r1, r2) := by rw [if_neg (show ¬ (false = true) by decide)] at H; exact H
        clear H
        have H := H1
        clear H1
        have H' := Aside0.mk H
        clear H
        go_wp2
        repeat (go_quiet (fail); try go_wp2)
        (try simp only [add_at] at *)
        go_meet
        case rel => exact ⟨_, (x7_1), fs, H', ⟨by have := HK1.out; have := HJ11.out; first | omega | exact Nat.le_refl _⟩, ⟨vs HO_0.out⟩, ⟨by repeat (first | (with_reducible first | exact HK.out | apply Kept.alloc | apply Kept.drewN | apply Kept.drew) | exact HK.out)⟩, ⟨bz HB.out⟩⟩
  case rest =>
   clear HC10
   (try clear c1); (try clear c3b0); (try clear c3b1); (try clear c4b0); (try clear c4b1); (try clear c6b0); (try clear c7b0); (try clear c8b0); (try clear c9); (try clear c9b0); (try clear c9b1); (try clear c13b0); (try clear c15b0); (try clear c16b0); (try clear c17b0); (try clear c18); (try clear c20b0); (try clear c21b0); (try clear c22b0); (try clear hx149_0); (try clear hx150_0); (try clear hx151_0); (try clear hx152_0); (try clear hx153_0); (try clear hx154_0); (try clear hx155_0); (try clear p149); (try clear p150); (try clear p151); (try clear p152); (try clear p153); (try clear p154); (try clear p155); (try clear q149); (try clear q150); (try clear q151); (try clear q152); (try clear q153); (try clear q154); (try clear q155)
   obtain ⟨kq, x7_9, rfl, HA, HJ9, HO_0, HK, HB⟩ := hcut
   cases kq with
   | zero => exact absurd HA.out (by simp [natural_step.j2])
   | succ kj9 =>
    have H := HA.out
    clear HA
    simp only [natural_step.j2] at H
    have H' := Aside0.mk H
    clear H
    go_wp2
    repeat (go_quiet (fail); try go_wp2)
    go_loopg [9, 10, 84] kj9 (fun kq v9 v10 v84 w' => ∃ (x0_2 : List Int) (x9_2 : Int) (x10_2 : Int) (x84_2 : Int), v9 = .int .u64 x9_2 ∧ v10 = .int .u32 x10_2 ∧ v84 = .int .i64 x84_2 ∧ Aside0 (natural_step.l1 kq x0_2 l1 (l1.length : Int) x7_9 x9_2 x10_2 l1 (l1.length : Int) x84_2 = some (r1, r2)) ∧ Aside0 (kq ≤ kj9) ∧ Aside0 (Kd.Wn pre_ post_ 72 w' w0.heap.size (fun k_ => (P0_ k_ ∨ w.heap.size ≤ k_)) (.slice (some ad149) l0.length co11) x0_2) ∧ Aside0 (Kept w w' (fun k_ => P0_ k_)) ∧ Aside0 (Below w0.heap.size w0 w'))
    case atStart => exact ⟨(l0), (0), (0), (0), fs, fs, fs, H', ⟨Nat.le_refl _⟩, ⟨vs HO_0.out⟩, ⟨by repeat (first | (with_reducible first | exact HK.out | apply Kept.alloc | apply Kept.drewN | apply Kept.drew) | exact HK.out)⟩, ⟨bz HB.out⟩⟩
    case round =>
     clear H'
     (try clear c1); (try clear c3b0); (try clear c3b1); (try clear c4b0); (try clear c4b1); (try clear c6b0); (try clear c7b0); (try clear c8b0); (try clear c9); (try clear c9b0); (try clear c9b1); (try clear c13b0); (try clear c15b0); (try clear c16b0); (try clear c17b0); (try clear c18); (try clear c20b0); (try clear c21b0); (try clear c22b0); (try clear hx149_0); (try clear hx150_0); (try clear hx151_0); (try clear hx152_0); (try clear hx153_0); (try clear hx154_0); (try clear hx155_0); (try clear p149); (try clear p150); (try clear p151); (try clear p152); (try clear p153); (try clear p154); (try clear p155); (try clear q149); (try clear q150); (try clear q151); (try clear q152); (try clear q153); (try clear q154); (try clear q155)
     obtain ⟨x0_2, x9_2, x10_2, x84_2, rfl, rfl, rfl, HA, HK2, HO_0, HK, HB⟩ := hrel
     have hl0_2 := (Kd.Wn_reads' HO_0.out).1
     rw [hl0_2] at HO_0
     (try simp only [hl0_2])
     cases gk with
     | zero => exact absurd HA.out (by simp [natural_step.l1])
     | succ k2 =>
      have H := HA.out
      clear HA
      simp only [natural_step.l1] at H
      by_cases c23 : x84_2 < (l1.length : Int)
      ·rw [if_pos c23] at H
       have c23b0 : decide (x84_2 < (l1.length : Int)) = true := decide_eq_true c23
       (try (have c23b0_hl0_2 := c23b0; rw [hl0_2] at c23b0_hl0_2))
       clear c23
       obtain ⟨c24, H⟩ := iN H
       have c24b0 : decide (0 ≤ x84_2) = true := decide_eq_true c24
       clear c24
       obtain ⟨c25, H⟩ := iN H
       have c25b0 : decide (x84_2 < (l1.length : Int)) = true := decide_eq_true c25
       (try (have c25b0_hl0_2 := c25b0; rw [hl0_2] at c25b0_hl0_2))
       clear c25
       obtain ⟨c26, H⟩ := iN H
       have c26b0 : decide (x84_2 < (x0_2.length : Int)) = true := decide_eq_true c26
       (try (have c26b0_hl0_2 := c26b0; rw [hl0_2] at c26b0_hl0_2))
       clear c26
       obtain ⟨⟨t158, t159⟩, A27, H⟩ := bs1 H; dsimp only at H
       obtain ⟨y160, hy160⟩ : ∃ y_ : List Int, y_ = (x0_2.set (x84_2 : Int).toNat t158) := ⟨_, rfl⟩
       (try first | rw [← hy160] at H | (dsimp only at H; rw [← hy160] at H)); (try rw [Option.bind_some] at H)
       have Ny160 := Aside0.mk hy160
       clear hy160
       have H' := Aside0.mk H
       clear H
       have p156 : 0 ≤ (x84_2 : Int) := oa
       have q156 : x84_2 < (l1.length : Int) := oa
       obtain ⟨ad156, e156, hx156_0⟩ := Kd.at_int (Kd.C_kept_now HR1.out HK.out) x84_2 p156 q156
       obtain rfl : ad151 = ad156 := (by injection e156)
       replace p156 := eq_true p156
       replace q156 := eq_true q156
       have p157 : 0 ≤ (x84_2 : Int) := oa
       have q157 : x84_2 < (x0_2.length : Int) := oa
       obtain ⟨ad157, e157, hx157_0⟩ := Kd.at_int (Kd.Wn_reads' HO_0.out).2.2 x84_2 p157 q157
       obtain rfl : ad149 = ad157 := (by injection e157)
       replace p157 := eq_true p157
       replace q157 := eq_true q157
       go_wp2_with (first | (go_at_call 104; (with_reducible refine (bits_Sub32.calls (rd x0_2 x84_2) ((IntKind.u64.wrap ((IntKind.u64.wrap (x7_9 * (IntKind.u64.wrap (rd l1 x84_2)))) + x9_2)) % 4294967296) x10_2 t158 t159 _ A27.out).mono ?_); rintro e w' ⟨rfl, ⟨nd, rfl⟩⟩; (try exact dw); have p28 : 0 ≤ (x84_2 : Int) := oa; have q28 : (x84_2 : Int) < ((x0_2.length : Int) : Int) := oa; obtain ⟨go28, oo28, co28, eo28, gb28, gl28, cl28, HG28⟩ := Kd.Wn_form HO_0.out (by omega); (first | cases eo28 | (injection eo28 with ea_ en_ ec_; (first | subst ea_ | (injection ea_ with ea_; subst ea_)); subst ec_; clear en_)); have GB28 := Aside0.mk gb28; have GG28 := Aside0.mk HG28; clear gb28 gl28 HG28; have HMgo28 := Aside0.mk (show (P0_ go28 ∨ w.heap.size ≤ go28) from (HO_0.out.1 _ rfl)); (first | simp only [add_at] at hx149_0 | skip); (first | simp only [add_at] at hx150_0 | skip); (first | simp only [add_at] at hx154_0 | skip); (first | simp only [add_at] at hx157_0 | skip); obtain ⟨hx28_0, hf28_0⟩ := Kd.Wn_cell 0 HO_0.out (x84_2 : Int) p28 q28; replace p28 := eq_true p28; replace q28 := eq_true q28; obtain ⟨hy29_, hz29_⟩ := Kd.Wn_cell 0 HO_0.out (x84_2 : Int) oa oa; have HP29 := Kd.Wn_putg HO_0.out (x84_2 : Int) oa (by have h_ : (x84_2 : Int) < ((x0_2.length : Int) : Int) := oa; first | exact h_ | (have e_ := (Kd.Wn_reads' HO_0.out).1; omega) | simpa using h_) t158) | ((with_reducible refine gate_store (t := 72) (p := 110) rfl ?_); (try (rw [drewN_self wr]; generalize hq_ : World.drewN wr _ = wr; have n0_ := Aside0.mk (Kd.Wn_at hq_ HO_0.out); have n1_ := Aside0.mk (kept_at hq_ HK.out); have n2_ := Aside0.mk (below_at hq_ HB.out); clear hq_ HO_0 HK HB; have HO_0 := n0_; have HK := n1_; have HB := n2_; clear n0_ n1_ n2_; (try (obtain ⟨hy29_, hz29_⟩ := Kd.Wn_cell 0 HO_0.out (x84_2 : Int) oa oa)); (try (have HP29 := Kd.Wn_putg HO_0.out (x84_2 : Int) oa (by have h_ : (x84_2 : Int) < ((x0_2.length : Int) : Int) := oa; first | exact h_ | (have e_ := (Kd.Wn_reads' HO_0.out).1; omega) | simpa using h_) t158)))); refine se 72 110 (w1 := (wr.setCell ⟨go28, oo28 + (x84_2 : Int).toNat, none⟩ (.int .u32 t158))) ?_; intro w30 hw; have hg : wr.grownBy w30 (some go28) := (by rw [hw]; exact HP29.2); have hp_ : Kd.Wn pre_ post_ 72 w30 w0.heap.size (fun k_ => (P0_ k_ ∨ w.heap.size ≤ k_)) (.slice (some ⟨go28, oo28, none⟩) x0_2.length co11) y160 := (by rw [hw, Ny160.out]; exact HP29.1); clear HP29; replace HB := Aside0.mk ((by rw [hw]; exact below_set (HB.out) GB28.out : Below w0.heap.size w0 w30)); replace HK := Aside0.mk (Kept.of_grown (S := (fun k_ => P0_ k_)) hg (by repeat (first | (with_reducible first | exact HK.out | apply Kept.alloc | apply Kept.drewN | apply Kept.drew) | exact HK.out)) (fun k_ e_ => (HO_0.out.1 k_ e_))); replace HO_0 := Aside0.mk (hp_); clear hg hw hp_))
       repeat (go_quiet (first | (go_at_call 104; (with_reducible refine (bits_Sub32.calls (rd x0_2 x84_2) ((IntKind.u64.wrap ((IntKind.u64.wrap (x7_9 * (IntKind.u64.wrap (rd l1 x84_2)))) + x9_2)) % 4294967296) x10_2 t158 t159 _ A27.out).mono ?_); rintro e w' ⟨rfl, ⟨nd, rfl⟩⟩; (try exact dw); have p28 : 0 ≤ (x84_2 : Int) := oa; have q28 : (x84_2 : Int) < ((x0_2.length : Int) : Int) := oa; obtain ⟨go28, oo28, co28, eo28, gb28, gl28, cl28, HG28⟩ := Kd.Wn_form HO_0.out (by omega); (first | cases eo28 | (injection eo28 with ea_ en_ ec_; (first | subst ea_ | (injection ea_ with ea_; subst ea_)); subst ec_; clear en_)); have GB28 := Aside0.mk gb28; have GG28 := Aside0.mk HG28; clear gb28 gl28 HG28; have HMgo28 := Aside0.mk (show (P0_ go28 ∨ w.heap.size ≤ go28) from (HO_0.out.1 _ rfl)); (first | simp only [add_at] at hx149_0 | skip); (first | simp only [add_at] at hx150_0 | skip); (first | simp only [add_at] at hx154_0 | skip); (first | simp only [add_at] at hx157_0 | skip); obtain ⟨hx28_0, hf28_0⟩ := Kd.Wn_cell 0 HO_0.out (x84_2 : Int) p28 q28; replace p28 := eq_true p28; replace q28 := eq_true q28; obtain ⟨hy29_, hz29_⟩ := Kd.Wn_cell 0 HO_0.out (x84_2 : Int) oa oa; have HP29 := Kd.Wn_putg HO_0.out (x84_2 : Int) oa (by have h_ : (x84_2 : Int) < ((x0_2.length : Int) : Int) := oa; first | exact h_ | (have e_ := (Kd.Wn_reads' HO_0.out).1; omega) | simpa using h_) t158) | ((with_reducible refine gate_store (t := 72) (p := 110) rfl ?_); (try (rw [drewN_self wr]; generalize hq_ : World.drewN wr _ = wr; have n0_ := Aside0.mk (Kd.Wn_at hq_ HO_0.out); have n1_ := Aside0.mk (kept_at hq_ HK.out); have n2_ := Aside0.mk (below_at hq_ HB.out); clear hq_ HO_0 HK HB; have HO_0 := n0_; have HK := n1_; have HB := n2_; clear n0_ n1_ n2_; (try (obtain ⟨hy29_, hz29_⟩ := Kd.Wn_cell 0 HO_0.out (x84_2 : Int) oa oa)); (try (have HP29 := Kd.Wn_putg HO_0.out (x84_2 : Int) oa (by have h_ : (x84_2 : Int) < ((x0_2.length : Int) : Int) := oa; first | exact h_ | (have e_ := (Kd.Wn_reads' HO_0.out).1; omega) | simpa using h_) t158)))); refine se 72 110 (w1 := (wr.setCell ⟨go28, oo28 + (x84_2 : Int).toNat, none⟩ (.int .u32 t158))) ?_; intro w30 hw; have hg : wr.grownBy w30 (some go28) := (by rw [hw]; exact HP29.2); have hp_ : Kd.Wn pre_ post_ 72 w30 w0.heap.size (fun k_ => (P0_ k_ ∨ w.heap.size ≤ k_)) (.slice (some ⟨go28, oo28, none⟩) x0_2.length co11) y160 := (by rw [hw, Ny160.out]; exact HP29.1); clear HP29; replace HB := Aside0.mk ((by rw [hw]; exact below_set (HB.out) GB28.out : Below w0.heap.size w0 w30)); replace HK := Aside0.mk (Kept.of_grown (S := (fun k_ => P0_ k_)) hg (by repeat (first | (with_reducible first | exact HK.out | apply Kept.alloc | apply Kept.drewN | apply Kept.drew) | exact HK.out)) (fun k_ e_ => (HO_0.out.1 k_ e_))); replace HO_0 := Aside0.mk (hp_); clear hg hw hp_)); try go_wp2_with (first | (go_at_call 104; (with_reducible refine (bits_Sub32.calls (rd x0_2 x84_2) ((IntKind.u64.wrap ((IntKind.u64.wrap (x7_9 * (IntKind.u64.wrap (rd l1 x84_2)))) + x9_2)) % 4294967296) x10_2 t158 t159 _ A27.out).mono ?_); rintro e w' ⟨rfl, ⟨nd, rfl⟩⟩; (try exact dw); have p28 : 0 ≤ (x84_2 : Int) := oa; have q28 : (x84_2 : Int) < ((x0_2.length : Int) : Int) := oa; obtain ⟨go28, oo28, co28, eo28, gb28, gl28, cl28, HG28⟩ := Kd.Wn_form HO_0.out (by omega); (first | cases eo28 | (injection eo28 with ea_ en_ ec_; (first | subst ea_ | (injection ea_ with ea_; subst ea_)); subst ec_; clear en_)); have GB28 := Aside0.mk gb28; have GG28 := Aside0.mk HG28; clear gb28 gl28 HG28; have HMgo28 := Aside0.mk (show (P0_ go28 ∨ w.heap.size ≤ go28) from (HO_0.out.1 _ rfl)); (first | simp only [add_at] at hx149_0 | skip); (first | simp only [add_at] at hx150_0 | skip); (first | simp only [add_at] at hx154_0 | skip); (first | simp only [add_at] at hx157_0 | skip); obtain ⟨hx28_0, hf28_0⟩ := Kd.Wn_cell 0 HO_0.out (x84_2 : Int) p28 q28; replace p28 := eq_true p28; replace q28 := eq_true q28; obtain ⟨hy29_, hz29_⟩ := Kd.Wn_cell 0 HO_0.out (x84_2 : Int) oa oa; have HP29 := Kd.Wn_putg HO_0.out (x84_2 : Int) oa (by have h_ : (x84_2 : Int) < ((x0_2.length : Int) : Int) := oa; first | exact h_ | (have e_ := (Kd.Wn_reads' HO_0.out).1; omega) | simpa using h_) t158) | ((with_reducible refine gate_store (t := 72) (p := 110) rfl ?_); (try (rw [drewN_self wr]; generalize hq_ : World.drewN wr _ = wr; have n0_ := Aside0.mk (Kd.Wn_at hq_ HO_0.out); have n1_ := Aside0.mk (kept_at hq_ HK.out); have n2_ := Aside0.mk (below_at hq_ HB.out); clear hq_ HO_0 HK HB; have HO_0 := n0_; have HK := n1_; have HB := n2_; clear n0_ n1_ n2_; (try (obtain ⟨hy29_, hz29_⟩ := Kd.Wn_cell 0 HO_0.out (x84_2 : Int) oa oa)); (try (have HP29 := Kd.Wn_putg HO_0.out (x84_2 : Int) oa (by have h_ : (x84_2 : Int) < ((x0_2.length : Int) : Int) := oa; first | exact h_ | (have e_ := (Kd.Wn_reads' HO_0.out).1; omega) | simpa using h_) t158)))); refine se 72 110 (w1 := (wr.setCell ⟨go28, oo28 + (x84_2 : Int).toNat, none⟩ (.int .u32 t158))) ?_; intro w30 hw; have hg : wr.grownBy w30 (some go28) := (by rw [hw]; exact HP29.2); have hp_ : Kd.Wn pre_ post_ 72 w30 w0.heap.size (fun k_ => (P0_ k_ ∨ w.heap.size ≤ k_)) (.slice (some ⟨go28, oo28, none⟩) x0_2.length co11) y160 := (by rw [hw, Ny160.out]; exact HP29.1); clear HP29; replace HB := Aside0.mk ((by rw [hw]; exact below_set (HB.out) GB28.out : Below w0.heap.size w0 w30)); replace HK := Aside0.mk (Kept.of_grown (S := (fun k_ => P0_ k_)) hg (by repeat (first | (with_reducible first | exact HK.out | apply Kept.alloc | apply Kept.drewN | apply Kept.drew) | exact HK.out)) (fun k_ e_ => (HO_0.out.1 k_ e_))); replace HO_0 := Aside0.mk (hp_); clear hg hw hp_)))
       (try simp only [← hl0_2])
       (try simp only [add_at] at *)
       go_roundg k2
       case measure => have := HJ9.out; have := HK2.out; omega
       case rel => exact ⟨(y160), ((IntKind.u64.wrap ((IntKind.u64.wrap (x7_9 * (IntKind.u64.wrap (rd l1 x84_2)))) + x9_2)) / 4294967296), (t159), (wrap64 (x84_2 + 1)), fs, fs, fs, H', ⟨by have := HJ9.out; have := HK2.out; omega⟩, ⟨by (try simp only [hl0_2]); (with_reducible repeat (first | apply Kd.Wn_alloc | apply Kd.Wn_drewN | apply Kd.Wn_drew)); exact HO_0.out⟩, ⟨by repeat (first | (with_reducible first | exact HK.out | apply Kept.alloc | apply Kept.drewN | apply Kept.drew) | exact HK.out)⟩, ⟨bz HB.out⟩⟩
      ·rw [if_neg c23] at H
       have c23b0 : decide (x84_2 < (l1.length : Int)) = false := decide_eq_false c23
       (try (have c23b0_hl0_2 := c23b0; rw [hl0_2] at c23b0_hl0_2))
       clear c23
       obtain ⟨c31, H⟩ := iN H
       have c31b0 : decide (0 ≤ (l1.length : Int)) = true := decide_eq_true c31
       (try (have c31b0_hl0_2 := c31b0; rw [hl0_2] at c31b0_hl0_2))
       have c31b1 : decide (0 ≤ l1.length) = true := decide_eq_true (by omega)
       (try (have c31b1_hl0_2 := c31b1; rw [hl0_2] at c31b1_hl0_2))
       clear c31
       obtain ⟨c32, H⟩ := iN H
       have c32b0 : decide ((l1.length : Int) < (x0_2.length : Int)) = true := decide_eq_true c32
       (try (have c32b0_hl0_2 := c32b0; rw [hl0_2] at c32b0_hl0_2))
       have c32b1 : decide (l1.length < x0_2.length) = true := decide_eq_true (Int.ofNat_lt.mp c32)
       (try (have c32b1_hl0_2 := c32b1; rw [hl0_2] at c32b1_hl0_2))
       clear c32
       obtain ⟨⟨t162, t163⟩, A33, H⟩ := bs1 H; dsimp only at H
       obtain ⟨y164, hy164⟩ : ∃ y_ : List Int, y_ = (x0_2.set ((l1.length : Int) : Int).toNat t162) := ⟨_, rfl⟩
       (try first | rw [← hy164] at H | (dsimp only at H; rw [← hy164] at H)); (try rw [Option.bind_some] at H)
       have Ny164 := Aside0.mk hy164
       clear hy164
       by_cases c35 : t163 = 0
       ·rw [if_pos c35] at H
        have c35b0 := beq_iff_eq.mpr c35
        have c35b1 := bne_eq_false_iff_eq.mpr c35
        clear c35
        simp only [Option.some.injEq, Prod.mk.injEq] at H
        obtain ⟨rfl, rfl⟩ := H
        have p161 : 0 ≤ ((l1.length : Int) : Int) := oa
        have q161 : (l1.length : Int) < (x0_2.length : Int) := oa
        obtain ⟨ad161, e161, hx161_0⟩ := Kd.at_int (Kd.Wn_reads' HO_0.out).2.2 (l1.length : Int) p161 q161
        obtain rfl : ad149 = ad161 := (by injection e161)
        (try simp only [Go.IntWalk.toNatUp] at hx161_0)
        (try simp only [hl0_2] at p161)
        (try simp only [hl0_2] at q161)
        (try simp only [hl0_2] at hx161_0)
        replace p161 := eq_true p161
        replace q161 := eq_true q161
        go_wp2_with (first | (go_at_call 104; (with_reducible refine (bits_Sub32.calls (rd x0_2 (l1.length : Int)) ((x9_2) % 4294967296) x10_2 t162 t163 _ A33.out).mono ?_); rintro e w' ⟨rfl, ⟨nd, rfl⟩⟩; (try exact dw); have p34 : 0 ≤ ((l1.length : Int) : Int) := oa; have q34 : ((l1.length : Int) : Int) < ((x0_2.length : Int) : Int) := oa; obtain ⟨go34, oo34, co34, eo34, gb34, gl34, cl34, HG34⟩ := Kd.Wn_form HO_0.out (by omega); (first | cases eo34 | (injection eo34 with ea_ en_ ec_; (first | subst ea_ | (injection ea_ with ea_; subst ea_)); subst ec_; clear en_)); have GB34 := Aside0.mk gb34; have GG34 := Aside0.mk HG34; clear gb34 gl34 HG34; have HMgo34 := Aside0.mk (show (P0_ go34 ∨ w.heap.size ≤ go34) from (HO_0.out.1 _ rfl)); (first | simp only [add_at] at hx161_0 | skip); obtain ⟨hx34_0, hf34_0⟩ := Kd.Wn_cell 0 HO_0.out ((l1.length : Int) : Int) p34 q34; replace p34 := eq_true p34; replace q34 := eq_true q34; obtain ⟨hy36_, hz36_⟩ := Kd.Wn_cell 0 HO_0.out ((l1.length : Int) : Int) oa oa; (try simp only [Go.IntWalk.toNatUp] at hy36_ hz36_); have HP36 := Kd.Wn_putg HO_0.out ((l1.length : Int) : Int) oa (by have h_ : ((l1.length : Int) : Int) < ((x0_2.length : Int) : Int) := oa; first | exact h_ | (have e_ := (Kd.Wn_reads' HO_0.out).1; omega) | simpa using h_) t162) | ((with_reducible refine gate_store (t := 72) (p := 125) rfl ?_); (try (rw [drewN_self wr]; generalize hq_ : World.drewN wr _ = wr; have n0_ := Aside0.mk (Kd.Wn_at hq_ HO_0.out); have n1_ := Aside0.mk (kept_at hq_ HK.out); have n2_ := Aside0.mk (below_at hq_ HB.out); clear hq_ HO_0 HK HB; have HO_0 := n0_; have HK := n1_; have HB := n2_; clear n0_ n1_ n2_; (try (obtain ⟨hy36_, hz36_⟩ := Kd.Wn_cell 0 HO_0.out ((l1.length : Int) : Int) oa oa)); (try (try simp only [Go.IntWalk.toNatUp] at hy36_ hz36_)); (try (have HP36 := Kd.Wn_putg HO_0.out ((l1.length : Int) : Int) oa (by have h_ : ((l1.length : Int) : Int) < ((x0_2.length : Int) : Int) := oa; first | exact h_ | (have e_ := (Kd.Wn_reads' HO_0.out).1; omega) | simpa using h_) t162)))); refine se 72 125 (w1 := (wr.setCell ⟨go34, oo34 + ((l1.length : Int) : Int).toNat, none⟩ (.int .u32 t162))) ?_; intro w37 hw; have hg : wr.grownBy w37 (some go34) := (by rw [hw]; exact HP36.2); have hp_ : Kd.Wn pre_ post_ 72 w37 w0.heap.size (fun k_ => (P0_ k_ ∨ w.heap.size ≤ k_)) (.slice (some ⟨go34, oo34, none⟩) x0_2.length co11) y164 := (by rw [hw, Ny164.out]; exact HP36.1); clear HP36; replace HB := Aside0.mk ((by rw [hw]; exact below_set (HB.out) GB34.out : Below w0.heap.size w0 w37)); replace HK := Aside0.mk (Kept.of_grown (S := (fun k_ => P0_ k_)) hg (by repeat (first | (with_reducible first | exact HK.out | apply Kept.alloc | apply Kept.drewN | apply Kept.drew) | exact HK.out)) (fun k_ e_ => (HO_0.out.1 k_ e_))); replace HO_0 := Aside0.mk (hp_); clear hg hw hp_))
        repeat (go_quiet (first | (go_at_call 104; (with_reducible refine (bits_Sub32.calls (rd x0_2 (l1.length : Int)) ((x9_2) % 4294967296) x10_2 t162 t163 _ A33.out).mono ?_); rintro e w' ⟨rfl, ⟨nd, rfl⟩⟩; (try exact dw); have p34 : 0 ≤ ((l1.length : Int) : Int) := oa; have q34 : ((l1.length : Int) : Int) < ((x0_2.length : Int) : Int) := oa; obtain ⟨go34, oo34, co34, eo34, gb34, gl34, cl34, HG34⟩ := Kd.Wn_form HO_0.out (by omega); (first | cases eo34 | (injection eo34 with ea_ en_ ec_; (first | subst ea_ | (injection ea_ with ea_; subst ea_)); subst ec_; clear en_)); have GB34 := Aside0.mk gb34; have GG34 := Aside0.mk HG34; clear gb34 gl34 HG34; have HMgo34 := Aside0.mk (show (P0_ go34 ∨ w.heap.size ≤ go34) from (HO_0.out.1 _ rfl)); (first | simp only [add_at] at hx161_0 | skip); obtain ⟨hx34_0, hf34_0⟩ := Kd.Wn_cell 0 HO_0.out ((l1.length : Int) : Int) p34 q34; replace p34 := eq_true p34; replace q34 := eq_true q34; obtain ⟨hy36_, hz36_⟩ := Kd.Wn_cell 0 HO_0.out ((l1.length : Int) : Int) oa oa; (try simp only [Go.IntWalk.toNatUp] at hy36_ hz36_); have HP36 := Kd.Wn_putg HO_0.out ((l1.length : Int) : Int) oa (by have h_ : ((l1.length : Int) : Int) < ((x0_2.length : Int) : Int) := oa; first | exact h_ | (have e_ := (Kd.Wn_reads' HO_0.out).1; omega) | simpa using h_) t162) | ((with_reducible refine gate_store (t := 72) (p := 125) rfl ?_); (try (rw [drewN_self wr]; generalize hq_ : World.drewN wr _ = wr; have n0_ := Aside0.mk (Kd.Wn_at hq_ HO_0.out); have n1_ := Aside0.mk (kept_at hq_ HK.out); have n2_ := Aside0.mk (below_at hq_ HB.out); clear hq_ HO_0 HK HB; have HO_0 := n0_; have HK := n1_; have HB := n2_; clear n0_ n1_ n2_; (try (obtain ⟨hy36_, hz36_⟩ := Kd.Wn_cell 0 HO_0.out ((l1.length : Int) : Int) oa oa)); (try (try simp only [Go.IntWalk.toNatUp] at hy36_ hz36_)); (try (have HP36 := Kd.Wn_putg HO_0.out ((l1.length : Int) : Int) oa (by have h_ : ((l1.length : Int) : Int) < ((x0_2.length : Int) : Int) := oa; first | exact h_ | (have e_ := (Kd.Wn_reads' HO_0.out).1; omega) | simpa using h_) t162)))); refine se 72 125 (w1 := (wr.setCell ⟨go34, oo34 + ((l1.length : Int) : Int).toNat, none⟩ (.int .u32 t162))) ?_; intro w37 hw; have hg : wr.grownBy w37 (some go34) := (by rw [hw]; exact HP36.2); have hp_ : Kd.Wn pre_ post_ 72 w37 w0.heap.size (fun k_ => (P0_ k_ ∨ w.heap.size ≤ k_)) (.slice (some ⟨go34, oo34, none⟩) x0_2.length co11) y164 := (by rw [hw, Ny164.out]; exact HP36.1); clear HP36; replace HB := Aside0.mk ((by rw [hw]; exact below_set (HB.out) GB34.out : Below w0.heap.size w0 w37)); replace HK := Aside0.mk (Kept.of_grown (S := (fun k_ => P0_ k_)) hg (by repeat (first | (with_reducible first | exact HK.out | apply Kept.alloc | apply Kept.drewN | apply Kept.drew) | exact HK.out)) (fun k_ e_ => (HO_0.out.1 k_ e_))); replace HO_0 := Aside0.mk (hp_); clear hg hw hp_)); try go_wp2_with (first | (go_at_call 104; (with_reducible refine (bits_Sub32.calls (rd x0_2 (l1.length : Int)) ((x9_2) % 4294967296) x10_2 t162 t163 _ A33.out).mono ?_); rintro e w' ⟨rfl, ⟨nd, rfl⟩⟩; (try exact dw); have p34 : 0 ≤ ((l1.length : Int) : Int) := oa; have q34 : ((l1.length : Int) : Int) < ((x0_2.length : Int) : Int) := oa; obtain ⟨go34, oo34, co34, eo34, gb34, gl34, cl34, HG34⟩ := Kd.Wn_form HO_0.out (by omega); (first | cases eo34 | (injection eo34 with ea_ en_ ec_; (first | subst ea_ | (injection ea_ with ea_; subst ea_)); subst ec_; clear en_)); have GB34 := Aside0.mk gb34; have GG34 := Aside0.mk HG34; clear gb34 gl34 HG34; have HMgo34 := Aside0.mk (show (P0_ go34 ∨ w.heap.size ≤ go34) from (HO_0.out.1 _ rfl)); (first | simp only [add_at] at hx161_0 | skip); obtain ⟨hx34_0, hf34_0⟩ := Kd.Wn_cell 0 HO_0.out ((l1.length : Int) : Int) p34 q34; replace p34 := eq_true p34; replace q34 := eq_true q34; obtain ⟨hy36_, hz36_⟩ := Kd.Wn_cell 0 HO_0.out ((l1.length : Int) : Int) oa oa; (try simp only [Go.IntWalk.toNatUp] at hy36_ hz36_); have HP36 := Kd.Wn_putg HO_0.out ((l1.length : Int) : Int) oa (by have h_ : ((l1.length : Int) : Int) < ((x0_2.length : Int) : Int) := oa; first | exact h_ | (have e_ := (Kd.Wn_reads' HO_0.out).1; omega) | simpa using h_) t162) | ((with_reducible refine gate_store (t := 72) (p := 125) rfl ?_); (try (rw [drewN_self wr]; generalize hq_ : World.drewN wr _ = wr; have n0_ := Aside0.mk (Kd.Wn_at hq_ HO_0.out); have n1_ := Aside0.mk (kept_at hq_ HK.out); have n2_ := Aside0.mk (below_at hq_ HB.out); clear hq_ HO_0 HK HB; have HO_0 := n0_; have HK := n1_; have HB := n2_; clear n0_ n1_ n2_; (try (obtain ⟨hy36_, hz36_⟩ := Kd.Wn_cell 0 HO_0.out ((l1.length : Int) : Int) oa oa)); (try (try simp only [Go.IntWalk.toNatUp] at hy36_ hz36_)); (try (have HP36 := Kd.Wn_putg HO_0.out ((l1.length : Int) : Int) oa (by have h_ : ((l1.length : Int) : Int) < ((x0_2.length : Int) : Int) := oa; first | exact h_ | (have e_ := (Kd.Wn_reads' HO_0.out).1; omega) | simpa using h_) t162)))); refine se 72 125 (w1 := (wr.setCell ⟨go34, oo34 + ((l1.length : Int) : Int).toNat, none⟩ (.int .u32 t162))) ?_; intro w37 hw; have hg : wr.grownBy w37 (some go34) := (by rw [hw]; exact HP36.2); have hp_ : Kd.Wn pre_ post_ 72 w37 w0.heap.size (fun k_ => (P0_ k_ ∨ w.heap.size ≤ k_)) (.slice (some ⟨go34, oo34, none⟩) x0_2.length co11) y164 := (by rw [hw, Ny164.out]; exact HP36.1); clear HP36; replace HB := Aside0.mk ((by rw [hw]; exact below_set (HB.out) GB34.out : Below w0.heap.size w0 w37)); replace HK := Aside0.mk (Kept.of_grown (S := (fun k_ => P0_ k_)) hg (by repeat (first | (with_reducible first | exact HK.out | apply Kept.alloc | apply Kept.drewN | apply Kept.drew) | exact HK.out)) (fun k_ e_ => (HO_0.out.1 k_ e_))); replace HO_0 := Aside0.mk (hp_); clear hg hw hp_)))
        go_ret
        exact ⟨by first | rfl | (simp [errW_none, errW_some] <;> rfl) | (simp only [← hji5]; first | rfl | (simp [errW_none, errW_some] <;> rfl)) | (simp [*, errW_none, errW_some] <;> rfl), (by first | exact (vs HO_0.out) | (simp only [hl0_2]; exact (vs HO_0.out))), bz HB.out, by repeat (first | (with_reducible first | exact HK.out | apply Kept.alloc | apply Kept.drewN | apply Kept.drew) | exact HK.out)⟩
       ·rw [if_neg c35] at H
        have c35b0 := beq_eq_false_iff_ne.mpr c35
        have c35b1 := bne_iff_ne.mpr c35
        have H' := Aside0.mk H
        clear H
        have p161 : 0 ≤ ((l1.length : Int) : Int) := oa
        have q161 : (l1.length : Int) < (x0_2.length : Int) := oa
        obtain ⟨ad161, e161, hx161_0⟩ := Kd.at_int (Kd.Wn_reads' HO_0.out).2.2 (l1.length : Int) p161 q161
        obtain rfl : ad149 = ad161 := (by injection e161)
        (try simp only [Go.IntWalk.toNatUp] at hx161_0)
        (try simp only [hl0_2] at p161)
        (try simp only [hl0_2] at q161)
        (try simp only [hl0_2] at hx161_0)
        replace p161 := eq_true p161
        replace q161 := eq_true q161
        go_wp2_with (first | (go_at_call 104; (with_reducible refine (bits_Sub32.calls (rd x0_2 (l1.length : Int)) ((x9_2) % 4294967296) x10_2 t162 t163 _ A33.out).mono ?_); rintro e w' ⟨rfl, ⟨nd, rfl⟩⟩; (try exact dw); have p34 : 0 ≤ ((l1.length : Int) : Int) := oa; have q34 : ((l1.length : Int) : Int) < ((x0_2.length : Int) : Int) := oa; obtain ⟨go34, oo34, co34, eo34, gb34, gl34, cl34, HG34⟩ := Kd.Wn_form HO_0.out (by omega); (first | cases eo34 | (injection eo34 with ea_ en_ ec_; (first | subst ea_ | (injection ea_ with ea_; subst ea_)); subst ec_; clear en_)); have GB34 := Aside0.mk gb34; have GG34 := Aside0.mk HG34; clear gb34 gl34 HG34; have HMgo34 := Aside0.mk (show (P0_ go34 ∨ w.heap.size ≤ go34) from (HO_0.out.1 _ rfl)); (first | simp only [add_at] at hx161_0 | skip); obtain ⟨hx34_0, hf34_0⟩ := Kd.Wn_cell 0 HO_0.out ((l1.length : Int) : Int) p34 q34; replace p34 := eq_true p34; replace q34 := eq_true q34; obtain ⟨hy38_, hz38_⟩ := Kd.Wn_cell 0 HO_0.out ((l1.length : Int) : Int) oa oa; (try simp only [Go.IntWalk.toNatUp] at hy38_ hz38_); have HP38 := Kd.Wn_putg HO_0.out ((l1.length : Int) : Int) oa (by have h_ : ((l1.length : Int) : Int) < ((x0_2.length : Int) : Int) := oa; first | exact h_ | (have e_ := (Kd.Wn_reads' HO_0.out).1; omega) | simpa using h_) t162) | ((with_reducible refine gate_store (t := 72) (p := 125) rfl ?_); (try (rw [drewN_self wr]; generalize hq_ : World.drewN wr _ = wr; have n0_ := Aside0.mk (Kd.Wn_at hq_ HO_0.out); have n1_ := Aside0.mk (kept_at hq_ HK.out); have n2_ := Aside0.mk (below_at hq_ HB.out); clear hq_ HO_0 HK HB; have HO_0 := n0_; have HK := n1_; have HB := n2_; clear n0_ n1_ n2_; (try (obtain ⟨hy38_, hz38_⟩ := Kd.Wn_cell 0 HO_0.out ((l1.length : Int) : Int) oa oa)); (try (try simp only [Go.IntWalk.toNatUp] at hy38_ hz38_)); (try (have HP38 := Kd.Wn_putg HO_0.out ((l1.length : Int) : Int) oa (by have h_ : ((l1.length : Int) : Int) < ((x0_2.length : Int) : Int) := oa; first | exact h_ | (have e_ := (Kd.Wn_reads' HO_0.out).1; omega) | simpa using h_) t162)))); refine se 72 125 (w1 := (wr.setCell ⟨go34, oo34 + ((l1.length : Int) : Int).toNat, none⟩ (.int .u32 t162))) ?_; intro w39 hw; have hg : wr.grownBy w39 (some go34) := (by rw [hw]; exact HP38.2); have hp_ : Kd.Wn pre_ post_ 72 w39 w0.heap.size (fun k_ => (P0_ k_ ∨ w.heap.size ≤ k_)) (.slice (some ⟨go34, oo34, none⟩) x0_2.length co11) y164 := (by rw [hw, Ny164.out]; exact HP38.1); clear HP38; replace HB := Aside0.mk ((by rw [hw]; exact below_set (HB.out) GB34.out : Below w0.heap.size w0 w39)); replace HK := Aside0.mk (Kept.of_grown (S := (fun k_ => P0_ k_)) hg (by repeat (first | (with_reducible first | exact HK.out | apply Kept.alloc | apply Kept.drewN | apply Kept.drew) | exact HK.out)) (fun k_ e_ => (HO_0.out.1 k_ e_))); replace HO_0 := Aside0.mk (hp_); clear hg hw hp_))
        repeat (go_quiet (first | (go_at_call 104; (with_reducible refine (bits_Sub32.calls (rd x0_2 (l1.length : Int)) ((x9_2) % 4294967296) x10_2 t162 t163 _ A33.out).mono ?_); rintro e w' ⟨rfl, ⟨nd, rfl⟩⟩; (try exact dw); have p34 : 0 ≤ ((l1.length : Int) : Int) := oa; have q34 : ((l1.length : Int) : Int) < ((x0_2.length : Int) : Int) := oa; obtain ⟨go34, oo34, co34, eo34, gb34, gl34, cl34, HG34⟩ := Kd.Wn_form HO_0.out (by omega); (first | cases eo34 | (injection eo34 with ea_ en_ ec_; (first | subst ea_ | (injection ea_ with ea_; subst ea_)); subst ec_; clear en_)); have GB34 := Aside0.mk gb34; have GG34 := Aside0.mk HG34; clear gb34 gl34 HG34; have HMgo34 := Aside0.mk (show (P0_ go34 ∨ w.heap.size ≤ go34) from (HO_0.out.1 _ rfl)); (first | simp only [add_at] at hx161_0 | skip); obtain ⟨hx34_0, hf34_0⟩ := Kd.Wn_cell 0 HO_0.out ((l1.length : Int) : Int) p34 q34; replace p34 := eq_true p34; replace q34 := eq_true q34; obtain ⟨hy38_, hz38_⟩ := Kd.Wn_cell 0 HO_0.out ((l1.length : Int) : Int) oa oa; (try simp only [Go.IntWalk.toNatUp] at hy38_ hz38_); have HP38 := Kd.Wn_putg HO_0.out ((l1.length : Int) : Int) oa (by have h_ : ((l1.length : Int) : Int) < ((x0_2.length : Int) : Int) := oa; first | exact h_ | (have e_ := (Kd.Wn_reads' HO_0.out).1; omega) | simpa using h_) t162) | ((with_reducible refine gate_store (t := 72) (p := 125) rfl ?_); (try (rw [drewN_self wr]; generalize hq_ : World.drewN wr _ = wr; have n0_ := Aside0.mk (Kd.Wn_at hq_ HO_0.out); have n1_ := Aside0.mk (kept_at hq_ HK.out); have n2_ := Aside0.mk (below_at hq_ HB.out); clear hq_ HO_0 HK HB; have HO_0 := n0_; have HK := n1_; have HB := n2_; clear n0_ n1_ n2_; (try (obtain ⟨hy38_, hz38_⟩ := Kd.Wn_cell 0 HO_0.out ((l1.length : Int) : Int) oa oa)); (try (try simp only [Go.IntWalk.toNatUp] at hy38_ hz38_)); (try (have HP38 := Kd.Wn_putg HO_0.out ((l1.length : Int) : Int) oa (by have h_ : ((l1.length : Int) : Int) < ((x0_2.length : Int) : Int) := oa; first | exact h_ | (have e_ := (Kd.Wn_reads' HO_0.out).1; omega) | simpa using h_) t162)))); refine se 72 125 (w1 := (wr.setCell ⟨go34, oo34 + ((l1.length : Int) : Int).toNat, none⟩ (.int .u32 t162))) ?_; intro w39 hw; have hg : wr.grownBy w39 (some go34) := (by rw [hw]; exact HP38.2); have hp_ : Kd.Wn pre_ post_ 72 w39 w0.heap.size (fun k_ => (P0_ k_ ∨ w.heap.size ≤ k_)) (.slice (some ⟨go34, oo34, none⟩) x0_2.length co11) y164 := (by rw [hw, Ny164.out]; exact HP38.1); clear HP38; replace HB := Aside0.mk ((by rw [hw]; exact below_set (HB.out) GB34.out : Below w0.heap.size w0 w39)); replace HK := Aside0.mk (Kept.of_grown (S := (fun k_ => P0_ k_)) hg (by repeat (first | (with_reducible first | exact HK.out | apply Kept.alloc | apply Kept.drewN | apply Kept.drew) | exact HK.out)) (fun k_ e_ => (HO_0.out.1 k_ e_))); replace HO_0 := Aside0.mk (hp_); clear hg hw hp_)); try go_wp2_with (first | (go_at_call 104; (with_reducible refine (bits_Sub32.calls (rd x0_2 (l1.length : Int)) ((x9_2) % 4294967296) x10_2 t162 t163 _ A33.out).mono ?_); rintro e w' ⟨rfl, ⟨nd, rfl⟩⟩; (try exact dw); have p34 : 0 ≤ ((l1.length : Int) : Int) := oa; have q34 : ((l1.length : Int) : Int) < ((x0_2.length : Int) : Int) := oa; obtain ⟨go34, oo34, co34, eo34, gb34, gl34, cl34, HG34⟩ := Kd.Wn_form HO_0.out (by omega); (first | cases eo34 | (injection eo34 with ea_ en_ ec_; (first | subst ea_ | (injection ea_ with ea_; subst ea_)); subst ec_; clear en_)); have GB34 := Aside0.mk gb34; have GG34 := Aside0.mk HG34; clear gb34 gl34 HG34; have HMgo34 := Aside0.mk (show (P0_ go34 ∨ w.heap.size ≤ go34) from (HO_0.out.1 _ rfl)); (first | simp only [add_at] at hx161_0 | skip); obtain ⟨hx34_0, hf34_0⟩ := Kd.Wn_cell 0 HO_0.out ((l1.length : Int) : Int) p34 q34; replace p34 := eq_true p34; replace q34 := eq_true q34; obtain ⟨hy38_, hz38_⟩ := Kd.Wn_cell 0 HO_0.out ((l1.length : Int) : Int) oa oa; (try simp only [Go.IntWalk.toNatUp] at hy38_ hz38_); have HP38 := Kd.Wn_putg HO_0.out ((l1.length : Int) : Int) oa (by have h_ : ((l1.length : Int) : Int) < ((x0_2.length : Int) : Int) := oa; first | exact h_ | (have e_ := (Kd.Wn_reads' HO_0.out).1; omega) | simpa using h_) t162) | ((with_reducible refine gate_store (t := 72) (p := 125) rfl ?_); (try (rw [drewN_self wr]; generalize hq_ : World.drewN wr _ = wr; have n0_ := Aside0.mk (Kd.Wn_at hq_ HO_0.out); have n1_ := Aside0.mk (kept_at hq_ HK.out); have n2_ := Aside0.mk (below_at hq_ HB.out); clear hq_ HO_0 HK HB; have HO_0 := n0_; have HK := n1_; have HB := n2_; clear n0_ n1_ n2_; (try (obtain ⟨hy38_, hz38_⟩ := Kd.Wn_cell 0 HO_0.out ((l1.length : Int) : Int) oa oa)); (try (try simp only [Go.IntWalk.toNatUp] at hy38_ hz38_)); (try (have HP38 := Kd.Wn_putg HO_0.out ((l1.length : Int) : Int) oa (by have h_ : ((l1.length : Int) : Int) < ((x0_2.length : Int) : Int) := oa; first | exact h_ | (have e_ := (Kd.Wn_reads' HO_0.out).1; omega) | simpa using h_) t162)))); refine se 72 125 (w1 := (wr.setCell ⟨go34, oo34 + ((l1.length : Int) : Int).toNat, none⟩ (.int .u32 t162))) ?_; intro w39 hw; have hg : wr.grownBy w39 (some go34) := (by rw [hw]; exact HP38.2); have hp_ : Kd.Wn pre_ post_ 72 w39 w0.heap.size (fun k_ => (P0_ k_ ∨ w.heap.size ≤ k_)) (.slice (some ⟨go34, oo34, none⟩) x0_2.length co11) y164 := (by rw [hw, Ny164.out]; exact HP38.1); clear HP38; replace HB := Aside0.mk ((by rw [hw]; exact below_set (HB.out) GB34.out : Below w0.heap.size w0 w39)); replace HK := Aside0.mk (Kept.of_grown (S := (fun k_ => P0_ k_)) hg (by repeat (first | (with_reducible first | exact HK.out | apply Kept.alloc | apply Kept.drewN | apply Kept.drew) | exact HK.out)) (fun k_ e_ => (HO_0.out.1 k_ e_))); replace HO_0 := Aside0.mk (hp_); clear hg hw hp_)))
        go_loopg [14, 132] k2 (fun kq v14 v132 w' => ∃ (x0_3 : List Int) (x14_3 : Int) (x132_3 : Int), v14 = .int .u32 x14_3 ∧ v132 = .int .i64 x132_3 ∧ Aside0 (natural_step.l2 kq x0_3 (l1.length : Int) x7_9 x14_3 l1 (l1.length : Int) x132_3 = some (r1, r2)) ∧ Aside0 (kq ≤ k2) ∧ Aside0 (Kd.Wn pre_ post_ 72 w' w0.heap.size (fun k_ => (P0_ k_ ∨ w.heap.size ≤ k_)) (.slice (some ⟨go34, oo34, none⟩) x0_2.length co11) x0_3) ∧ Aside0 (Kept w w' (fun k_ => P0_ k_)) ∧ Aside0 (Below w0.heap.size w0 w'))
        case atStart => exact ⟨(y164), (0), (0), fs, fs, H', ⟨Nat.le_refl _⟩, ⟨by (try simp only [hl0_2]); (with_reducible repeat (first | apply Kd.Wn_alloc | apply Kd.Wn_drewN | apply Kd.Wn_drew)); exact HO_0.out⟩, ⟨by repeat (first | (with_reducible first | exact HK.out | apply Kept.alloc | apply Kept.drewN | apply Kept.drew) | exact HK.out)⟩, ⟨bz HB.out⟩⟩
        case round =>
         clear H'
         (try clear c1); (try clear c3b0); (try clear c3b1); (try clear c4b0); (try clear c4b1); (try clear c6b0); (try clear c7b0); (try clear c8b0); (try clear c9); (try clear c9b0); (try clear c9b1); (try clear c13b0); (try clear c15b0); (try clear c16b0); (try clear c17b0); (try clear c18); (try clear c20b0); (try clear c21b0); (try clear c22b0); (try clear c23b0); (try clear c24b0); (try clear c25b0); (try clear c26b0); (try clear p28); (try clear q28); (try clear c31b0); (try clear c31b1); (try clear c32b0); (try clear c32b1); (try clear p34); (try clear q34); (try clear c35b0); (try clear c35b1); (try clear hx149_0); (try clear hx150_0); (try clear hx151_0); (try clear hx152_0); (try clear hx153_0); (try clear hx154_0); (try clear hx155_0); (try clear hx156_0); (try clear hx157_0); (try clear hx161_0); (try clear hx28_0); (try clear hx34_0); (try clear p149); (try clear p150); (try clear p151); (try clear p152); (try clear p153); (try clear p154); (try clear p155); (try clear p156); (try clear p157); (try clear p161); (try clear p28); (try clear p34); (try clear q149); (try clear q150); (try clear q151); (try clear q152); (try clear q153); (try clear q154); (try clear q155); (try clear q156); (try clear q157); (try clear q161); (try clear q28); (try clear q34)
         obtain ⟨x0_3, x14_3, x132_3, rfl, rfl, HA, HK3, HO_0, HK, HB⟩ := hrel
         have hl0_3 := (Kd.Wn_reads' HO_0.out).1
         rw [hl0_3] at HO_0
         (try simp only [hl0_3])
         cases gk with
         | zero => exact absurd HA.out (by simp [natural_step.l2])
         | succ k3 =>
          have H := HA.out
          clear HA
          simp only [natural_step.l2] at H
          by_cases c40 : x132_3 < (l1.length : Int)
          ·rw [if_pos c40] at H
           have c40b0 : decide (x132_3 < (l1.length : Int)) = true := decide_eq_true c40
           (try (have c40b0_hl0_2 := c40b0; rw [hl0_2] at c40b0_hl0_2))
           (try (have c40b0_hl0_3 := c40b0; rw [hl0_3] at c40b0_hl0_3))
           clear c40
           obtain ⟨c41, H⟩ := iN H
           have c41b0 : decide (0 ≤ x132_3) = true := decide_eq_true c41
           clear c41
           obtain ⟨c42, H⟩ := iN H
           have c42b0 : decide (x132_3 < (l1.length : Int)) = true := decide_eq_true c42
           (try (have c42b0_hl0_2 := c42b0; rw [hl0_2] at c42b0_hl0_2))
           (try (have c42b0_hl0_3 := c42b0; rw [hl0_3] at c42b0_hl0_3))
           clear c42
           obtain ⟨c43, H⟩ := iN H
           have c43b0 : decide (x132_3 < (x0_3.length : Int)) = true := decide_eq_true c43
           (try (have c43b0_hl0_2 := c43b0; rw [hl0_2] at c43b0_hl0_2))
           (try (have c43b0_hl0_3 := c43b0; rw [hl0_3] at c43b0_hl0_3))
           clear c43
           obtain ⟨⟨t167, t168⟩, A44, H⟩ := bs1 H; dsimp only at H
           obtain ⟨y169, hy169⟩ : ∃ y_ : List Int, y_ = (x0_3.set (x132_3 : Int).toNat t167) := ⟨_, rfl⟩
           (try first | rw [← hy169] at H | (dsimp only at H; rw [← hy169] at H)); (try rw [Option.bind_some] at H)
           have Ny169 := Aside0.mk hy169
           clear hy169
           have H' := Aside0.mk H
           clear H
           have p165 : 0 ≤ (x132_3 : Int) := oa
           have q165 : x132_3 < (l1.length : Int) := oa
           obtain ⟨ad165, e165, hx165_0⟩ := Kd.at_int (Kd.C_kept_now HR1.out HK.out) x132_3 p165 q165
           obtain rfl : ad151 = ad165 := (by injection e165)
           replace p165 := eq_true p165
           replace q165 := eq_true q165
           have p166 : 0 ≤ (x132_3 : Int) := oa
           have q166 : x132_3 < (x0_3.length : Int) := oa
           obtain ⟨ad166, e166, hx166_0⟩ := Kd.at_int (Kd.Wn_reads' HO_0.out).2.2 x132_3 p166 q166
           obtain rfl : (⟨go34, oo34, none⟩ : Addr) = ad166 := (by injection e166)
           (first | simp only [add_plain] at hx166_0 | simp only [add_at] at hx166_0 | simp only [Addr.add, Nat.zero_add] at hx166_0 | skip)
           replace p166 := eq_true p166
           replace q166 := eq_true q166
           go_wp2_with (first | (go_at_call 66; (with_reducible refine (bits_Add32.calls (rd x0_3 x132_3) (rd l1 x132_3) x14_3 t167 t168 _ A44.out).mono ?_); rintro e w' ⟨rfl, ⟨nd, rfl⟩⟩; (try exact dw); have p45 : 0 ≤ (x132_3 : Int) := oa; have q45 : (x132_3 : Int) < ((x0_3.length : Int) : Int) := oa; obtain ⟨hx45_0, hf45_0⟩ := Kd.Wn_cell 0 HO_0.out (x132_3 : Int) p45 q45; replace p45 := eq_true p45; replace q45 := eq_true q45; obtain ⟨hy46_, hz46_⟩ := Kd.Wn_cell 0 HO_0.out (x132_3 : Int) oa oa; have HP46 := Kd.Wn_putg HO_0.out (x132_3 : Int) oa (by have h_ : (x132_3 : Int) < ((x0_3.length : Int) : Int) := oa; first | exact h_ | (have e_ := (Kd.Wn_reads' HO_0.out).1; omega) | simpa using h_) t167) | ((with_reducible refine gate_store (t := 72) (p := 149) rfl ?_); (try (rw [drewN_self wr]; generalize hq_ : World.drewN wr _ = wr; have n0_ := Aside0.mk (Kd.Wn_at hq_ HO_0.out); have n1_ := Aside0.mk (kept_at hq_ HK.out); have n2_ := Aside0.mk (below_at hq_ HB.out); clear hq_ HO_0 HK HB; have HO_0 := n0_; have HK := n1_; have HB := n2_; clear n0_ n1_ n2_; (try (obtain ⟨hy46_, hz46_⟩ := Kd.Wn_cell 0 HO_0.out (x132_3 : Int) oa oa)); (try (have HP46 := Kd.Wn_putg HO_0.out (x132_3 : Int) oa (by have h_ : (x132_3 : Int) < ((x0_3.length : Int) : Int) := oa; first | exact h_ | (have e_ := (Kd.Wn_reads' HO_0.out).1; omega) | simpa using h_) t167)))); refine se 72 149 (w1 := (wr.setCell ⟨go34, oo34 + (x132_3 : Int).toNat, none⟩ (.int .u32 t167))) ?_; intro w47 hw; have hg : wr.grownBy w47 (some go34) := (by rw [hw]; exact HP46.2); have hp_ : Kd.Wn pre_ post_ 72 w47 w0.heap.size (fun k_ => (P0_ k_ ∨ w.heap.size ≤ k_)) (.slice (some ⟨go34, oo34, none⟩) x0_3.length co11) y169 := (by rw [hw, Ny169.out]; exact HP46.1); clear HP46; replace HB := Aside0.mk ((by rw [hw]; exact below_set (HB.out) GB34.out : Below w0.heap.size w0 w47)); replace HK := Aside0.mk (Kept.of_grown (S := (fun k_ => P0_ k_)) hg (by repeat (first | (with_reducible first | exact HK.out | apply Kept.alloc | apply Kept.drewN | apply Kept.drew) | exact HK.out)) (fun k_ e_ => (HO_0.out.1 k_ e_))); replace HO_0 := Aside0.mk (hp_); clear hg hw hp_))
           repeat (go_quiet (first | (go_at_call 66; (with_reducible refine (bits_Add32.calls (rd x0_3 x132_3) (rd l1 x132_3) x14_3 t167 t168 _ A44.out).mono ?_); rintro e w' ⟨rfl, ⟨nd, rfl⟩⟩; (try exact dw); have p45 : 0 ≤ (x132_3 : Int) := oa; have q45 : (x132_3 : Int) < ((x0_3.length : Int) : Int) := oa; obtain ⟨hx45_0, hf45_0⟩ := Kd.Wn_cell 0 HO_0.out (x132_3 : Int) p45 q45; replace p45 := eq_true p45; replace q45 := eq_true q45; obtain ⟨hy46_, hz46_⟩ := Kd.Wn_cell 0 HO_0.out (x132_3 : Int) oa oa; have HP46 := Kd.Wn_putg HO_0.out (x132_3 : Int) oa (by have h_ : (x132_3 : Int) < ((x0_3.length : Int) : Int) := oa; first | exact h_ | (have e_ := (Kd.Wn_reads' HO_0.out).1; omega) | simpa using h_) t167) | ((with_reducible refine gate_store (t := 72) (p := 149) rfl ?_); (try (rw [drewN_self wr]; generalize hq_ : World.drewN wr _ = wr; have n0_ := Aside0.mk (Kd.Wn_at hq_ HO_0.out); have n1_ := Aside0.mk (kept_at hq_ HK.out); have n2_ := Aside0.mk (below_at hq_ HB.out); clear hq_ HO_0 HK HB; have HO_0 := n0_; have HK := n1_; have HB := n2_; clear n0_ n1_ n2_; (try (obtain ⟨hy46_, hz46_⟩ := Kd.Wn_cell 0 HO_0.out (x132_3 : Int) oa oa)); (try (have HP46 := Kd.Wn_putg HO_0.out (x132_3 : Int) oa (by have h_ : (x132_3 : Int) < ((x0_3.length : Int) : Int) := oa; first | exact h_ | (have e_ := (Kd.Wn_reads' HO_0.out).1; omega) | simpa using h_) t167)))); refine se 72 149 (w1 := (wr.setCell ⟨go34, oo34 + (x132_3 : Int).toNat, none⟩ (.int .u32 t167))) ?_; intro w47 hw; have hg : wr.grownBy w47 (some go34) := (by rw [hw]; exact HP46.2); have hp_ : Kd.Wn pre_ post_ 72 w47 w0.heap.size (fun k_ => (P0_ k_ ∨ w.heap.size ≤ k_)) (.slice (some ⟨go34, oo34, none⟩) x0_3.length co11) y169 := (by rw [hw, Ny169.out]; exact HP46.1); clear HP46; replace HB := Aside0.mk ((by rw [hw]; exact below_set (HB.out) GB34.out : Below w0.heap.size w0 w47)); replace HK := Aside0.mk (Kept.of_grown (S := (fun k_ => P0_ k_)) hg (by repeat (first | (with_reducible first | exact HK.out | apply Kept.alloc | apply Kept.drewN | apply Kept.drew) | exact HK.out)) (fun k_ e_ => (HO_0.out.1 k_ e_))); replace HO_0 := Aside0.mk (hp_); clear hg hw hp_)); try go_wp2_with (first | (go_at_call 66; (with_reducible refine (bits_Add32.calls (rd x0_3 x132_3) (rd l1 x132_3) x14_3 t167 t168 _ A44.out).mono ?_); rintro e w' ⟨rfl, ⟨nd, rfl⟩⟩; (try exact dw); have p45 : 0 ≤ (x132_3 : Int) := oa; have q45 : (x132_3 : Int) < ((x0_3.length : Int) : Int) := oa; obtain ⟨hx45_0, hf45_0⟩ := Kd.Wn_cell 0 HO_0.out (x132_3 : Int) p45 q45; replace p45 := eq_true p45; replace q45 := eq_true q45; obtain ⟨hy46_, hz46_⟩ := Kd.Wn_cell 0 HO_0.out (x132_3 : Int) oa oa; have HP46 := Kd.Wn_putg HO_0.out (x132_3 : Int) oa (by have h_ : (x132_3 : Int) < ((x0_3.length : Int) : Int) := oa; first | exact h_ | (have e_ := (Kd.Wn_reads' HO_0.out).1; omega) | simpa using h_) t167) | ((with_reducible refine gate_store (t := 72) (p := 149) rfl ?_); (try (rw [drewN_self wr]; generalize hq_ : World.drewN wr _ = wr; have n0_ := Aside0.mk (Kd.Wn_at hq_ HO_0.out); have n1_ := Aside0.mk (kept_at hq_ HK.out); have n2_ := Aside0.mk (below_at hq_ HB.out); clear hq_ HO_0 HK HB; have HO_0 := n0_; have HK := n1_; have HB := n2_; clear n0_ n1_ n2_; (try (obtain ⟨hy46_, hz46_⟩ := Kd.Wn_cell 0 HO_0.out (x132_3 : Int) oa oa)); (try (have HP46 := Kd.Wn_putg HO_0.out (x132_3 : Int) oa (by have h_ : (x132_3 : Int) < ((x0_3.length : Int) : Int) := oa; first | exact h_ | (have e_ := (Kd.Wn_reads' HO_0.out).1; omega) | simpa using h_) t167)))); refine se 72 149 (w1 := (wr.setCell ⟨go34, oo34 + (x132_3 : Int).toNat, none⟩ (.int .u32 t167))) ?_; intro w47 hw; have hg : wr.grownBy w47 (some go34) := (by rw [hw]; exact HP46.2); have hp_ : Kd.Wn pre_ post_ 72 w47 w0.heap.size (fun k_ => (P0_ k_ ∨ w.heap.size ≤ k_)) (.slice (some ⟨go34, oo34, none⟩) x0_3.length co11) y169 := (by rw [hw, Ny169.out]; exact HP46.1); clear HP46; replace HB := Aside0.mk ((by rw [hw]; exact below_set (HB.out) GB34.out : Below w0.heap.size w0 w47)); replace HK := Aside0.mk (Kept.of_grown (S := (fun k_ => P0_ k_)) hg (by repeat (first | (with_reducible first | exact HK.out | apply Kept.alloc | apply Kept.drewN | apply Kept.drew) | exact HK.out)) (fun k_ e_ => (HO_0.out.1 k_ e_))); replace HO_0 := Aside0.mk (hp_); clear hg hw hp_)))
           (try simp only [← hl0_3])
           (try simp only [add_at] at *)
           go_roundg k3
           case measure => have := HJ9.out; have := HK2.out; have := HK3.out; omega
           case rel => exact ⟨(y169), (t168), (wrap64 (x132_3 + 1)), fs, fs, H', ⟨by have := HJ9.out; have := HK2.out; have := HK3.out; omega⟩, ⟨by (try simp only [hl0_2]); (try simp only [hl0_3]); (with_reducible repeat (first | apply Kd.Wn_alloc | apply Kd.Wn_drewN | apply Kd.Wn_drew)); exact HO_0.out⟩, ⟨by repeat (first | (with_reducible first | exact HK.out | apply Kept.alloc | apply Kept.drewN | apply Kept.drew) | exact HK.out)⟩, ⟨bz HB.out⟩⟩
          ·rw [if_neg c40] at H
           have c40b0 : decide (x132_3 < (l1.length : Int)) = false := decide_eq_false c40
           (try (have c40b0_hl0_2 := c40b0; rw [hl0_2] at c40b0_hl0_2))
           (try (have c40b0_hl0_3 := c40b0; rw [hl0_3] at c40b0_hl0_3))
           clear c40
           obtain ⟨c48, H⟩ := iN H
           have c48b0 : decide (0 ≤ (l1.length : Int)) = true := decide_eq_true c48
           (try (have c48b0_hl0_2 := c48b0; rw [hl0_2] at c48b0_hl0_2))
           (try (have c48b0_hl0_3 := c48b0; rw [hl0_3] at c48b0_hl0_3))
           have c48b1 : decide (0 ≤ l1.length) = true := decide_eq_true (by omega)
           (try (have c48b1_hl0_2 := c48b1; rw [hl0_2] at c48b1_hl0_2))
           (try (have c48b1_hl0_3 := c48b1; rw [hl0_3] at c48b1_hl0_3))
           clear c48
           obtain ⟨c49, H⟩ := iN H
           have c49b0 : decide ((l1.length : Int) < (x0_3.length : Int)) = true := decide_eq_true c49
           (try (have c49b0_hl0_2 := c49b0; rw [hl0_2] at c49b0_hl0_2))
           (try (have c49b0_hl0_3 := c49b0; rw [hl0_3] at c49b0_hl0_3))
           have c49b1 : decide (l1.length < x0_3.length) = true := decide_eq_true (Int.ofNat_lt.mp c49)
           (try (have c49b1_hl0_2 := c49b1; rw [hl0_2] at c49b1_hl0_2))
           (try (have c49b1_hl0_3 := c49b1; rw [hl0_3] at c49b1_hl0_3))
           clear c49
           obtain ⟨y171, hy171⟩ : ∃ y_ : List Int, y_ = (x0_3.set ((l1.length : Int) : Int).toNat (((rd x0_3 (l1.length : Int)) + x14_3) % 4294967296)) := ⟨_, rfl⟩
           (try first | rw [← hy171] at H | (dsimp only at H; rw [← hy171] at H)); (try rw [Option.bind_some] at H)
           have Ny171 := Aside0.mk hy171
           clear hy171
           simp only [Option.some.injEq, Prod.mk.injEq] at H
           obtain ⟨rfl, rfl⟩ := H
           have p170 : 0 ≤ ((l1.length : Int) : Int) := oa
           have q170 : (l1.length : Int) < (x0_3.length : Int) := oa
           obtain ⟨ad170, e170, hx170_0⟩ := Kd.at_int (Kd.Wn_reads' HO_0.out).2.2 (l1.length : Int) p170 q170
           obtain rfl : (⟨go34, oo34, none⟩ : Addr) = ad170 := (by injection e170)
           (first | simp only [add_plain] at hx170_0 | simp only [add_at] at hx170_0 | simp only [Addr.add, Nat.zero_add] at hx170_0 | skip)
           (try simp only [Go.IntWalk.toNatUp] at hx170_0)
           (try simp only [hl0_2, hl0_3] at p170)
           (try simp only [hl0_2, hl0_3] at q170)
           (try simp only [hl0_2, hl0_3] at hx170_0)
           replace p170 := eq_true p170
           replace q170 := eq_true q170
           have p50 : 0 ≤ ((l1.length : Int) : Int) := oa
           have q50 : ((l1.length : Int) : Int) < ((x0_3.length : Int) : Int) := oa
           obtain ⟨hx50_0, hf50_0⟩ := Kd.Wn_cell 0 HO_0.out ((l1.length : Int) : Int) p50 q50
           (try simp only [Int.toNat_natCast] at hx50_0); (try simp only [Int.toNat_natCast] at hf50_0)
           replace p50 := eq_true p50
           replace q50 := eq_true q50
           have HP51 := Kd.Wn_putg HO_0.out ((l1.length : Int) : Int) oa (by have h_ : ((l1.length : Int) : Int) < ((x0_3.length : Int) : Int) := oa; first | exact h_ | (have e_ := (Kd.Wn_reads' HO_0.out).1; omega) | simpa using h_) (((rd x0_3 (l1.length : Int)) + x14_3) % 4294967296)
           go_wp2_with (first | ((with_reducible refine gate_store (t := 72) (p := 157) rfl ?_); (try (rw [drewN_self wr]; generalize hq_ : World.drewN wr _ = wr; have n0_ := Aside0.mk (Kd.Wn_at hq_ HO_0.out); have n1_ := Aside0.mk (kept_at hq_ HK.out); have n2_ := Aside0.mk (below_at hq_ HB.out); clear hq_ HO_0 HK HB; have HO_0 := n0_; have HK := n1_; have HB := n2_; clear n0_ n1_ n2_; (try (have HP51 := Kd.Wn_putg HO_0.out ((l1.length : Int) : Int) oa (by have h_ : ((l1.length : Int) : Int) < ((x0_3.length : Int) : Int) := oa; first | exact h_ | (have e_ := (Kd.Wn_reads' HO_0.out).1; omega) | simpa using h_) (((rd x0_3 (l1.length : Int)) + x14_3) % 4294967296))))); refine se 72 157 (w1 := (wr.setCell ⟨go34, oo34 + ((l1.length : Int) : Int).toNat, none⟩ (.int .u32 (((rd x0_3 (l1.length : Int)) + x14_3) % 4294967296)))) ?_; intro w52 hw; have hg : wr.grownBy w52 (some go34) := (by rw [hw]; exact HP51.2); have hp_ : Kd.Wn pre_ post_ 72 w52 w0.heap.size (fun k_ => (P0_ k_ ∨ w.heap.size ≤ k_)) (.slice (some ⟨go34, oo34, none⟩) x0_3.length co11) y171 := (by rw [hw, Ny171.out]; exact HP51.1); clear HP51; replace HB := Aside0.mk ((by rw [hw]; exact below_set (HB.out) GB34.out : Below w0.heap.size w0 w52)); replace HK := Aside0.mk (Kept.of_grown (S := (fun k_ => P0_ k_)) hg (by repeat (first | (with_reducible first | exact HK.out | apply Kept.alloc | apply Kept.drewN | apply Kept.drew) | exact HK.out)) (fun k_ e_ => (HO_0.out.1 k_ e_))); replace HO_0 := Aside0.mk (hp_); clear hg hw hp_))
           repeat (go_quiet (first | ((with_reducible refine gate_store (t := 72) (p := 157) rfl ?_); (try (rw [drewN_self wr]; generalize hq_ : World.drewN wr _ = wr; have n0_ := Aside0.mk (Kd.Wn_at hq_ HO_0.out); have n1_ := Aside0.mk (kept_at hq_ HK.out); have n2_ := Aside0.mk (below_at hq_ HB.out); clear hq_ HO_0 HK HB; have HO_0 := n0_; have HK := n1_; have HB := n2_; clear n0_ n1_ n2_; (try (have HP51 := Kd.Wn_putg HO_0.out ((l1.length : Int) : Int) oa (by have h_ : ((l1.length : Int) : Int) < ((x0_3.length : Int) : Int) := oa; first | exact h_ | (have e_ := (Kd.Wn_reads' HO_0.out).1; omega) | simpa using h_) (((rd x0_3 (l1.length : Int)) + x14_3) % 4294967296))))); refine se 72 157 (w1 := (wr.setCell ⟨go34, oo34 + ((l1.length : Int) : Int).toNat, none⟩ (.int .u32 (((rd x0_3 (l1.length : Int)) + x14_3) % 4294967296)))) ?_; intro w52 hw; have hg : wr.grownBy w52 (some go34) := (by rw [hw]; exact HP51.2); have hp_ : Kd.Wn pre_ post_ 72 w52 w0.heap.size (fun k_ => (P0_ k_ ∨ w.heap.size ≤ k_)) (.slice (some ⟨go34, oo34, none⟩) x0_3.length co11) y171 := (by rw [hw, Ny171.out]; exact HP51.1); clear HP51; replace HB := Aside0.mk ((by rw [hw]; exact below_set (HB.out) GB34.out : Below w0.heap.size w0 w52)); replace HK := Aside0.mk (Kept.of_grown (S := (fun k_ => P0_ k_)) hg (by repeat (first | (with_reducible first | exact HK.out | apply Kept.alloc | apply Kept.drewN | apply Kept.drew) | exact HK.out)) (fun k_ e_ => (HO_0.out.1 k_ e_))); replace HO_0 := Aside0.mk (hp_); clear hg hw hp_)); try go_wp2_with (first | ((with_reducible refine gate_store (t := 72) (p := 157) rfl ?_); (try (rw [drewN_self wr]; generalize hq_ : World.drewN wr _ = wr; have n0_ := Aside0.mk (Kd.Wn_at hq_ HO_0.out); have n1_ := Aside0.mk (kept_at hq_ HK.out); have n2_ := Aside0.mk (below_at hq_ HB.out); clear hq_ HO_0 HK HB; have HO_0 := n0_; have HK := n1_; have HB := n2_; clear n0_ n1_ n2_; (try (have HP51 := Kd.Wn_putg HO_0.out ((l1.length : Int) : Int) oa (by have h_ : ((l1.length : Int) : Int) < ((x0_3.length : Int) : Int) := oa; first | exact h_ | (have e_ := (Kd.Wn_reads' HO_0.out).1; omega) | simpa using h_) (((rd x0_3 (l1.length : Int)) + x14_3) % 4294967296))))); refine se 72 157 (w1 := (wr.setCell ⟨go34, oo34 + ((l1.length : Int) : Int).toNat, none⟩ (.int .u32 (((rd x0_3 (l1.length : Int)) + x14_3) % 4294967296)))) ?_; intro w52 hw; have hg : wr.grownBy w52 (some go34) := (by rw [hw]; exact HP51.2); have hp_ : Kd.Wn pre_ post_ 72 w52 w0.heap.size (fun k_ => (P0_ k_ ∨ w.heap.size ≤ k_)) (.slice (some ⟨go34, oo34, none⟩) x0_3.length co11) y171 := (by rw [hw, Ny171.out]; exact HP51.1); clear HP51; replace HB := Aside0.mk ((by rw [hw]; exact below_set (HB.out) GB34.out : Below w0.heap.size w0 w52)); replace HK := Aside0.mk (Kept.of_grown (S := (fun k_ => P0_ k_)) hg (by repeat (first | (with_reducible first | exact HK.out | apply Kept.alloc | apply Kept.drewN | apply Kept.drew) | exact HK.out)) (fun k_ e_ => (HO_0.out.1 k_ e_))); replace HO_0 := Aside0.mk (hp_); clear hg hw hp_)))
           go_ret
           exact ⟨by first | rfl | (simp [errW_none, errW_some] <;> rfl) | (simp only [← hji5]; first | rfl | (simp [errW_none, errW_some] <;> rfl)) | (simp [*, errW_none, errW_some] <;> rfl), (by first | exact (vs HO_0.out) | (simp only [hl0_2, hl0_3]; exact (vs HO_0.out))), bz HB.out, by repeat (first | (with_reducible first | exact HK.out | apply Kept.alloc | apply Kept.drewN | apply Kept.drew) | exact HK.out)⟩

end Go.Proofs.YtgepdnoaemeofaaDoor.R
