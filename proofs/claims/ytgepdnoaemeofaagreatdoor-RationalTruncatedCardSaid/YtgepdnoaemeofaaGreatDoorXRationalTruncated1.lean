/- Printed by a program of this session (wip/tools) out of the translation: plain functions and the proofs that the code comes to their answers. -/
import Derived.Test.YtgepdnoaemeofaaGreatDoorXRationalTruncated0
namespace Go.Proofs.YtgepdnoaemeofaaGreatDoor.A
open Go.RowKit Go.Proofs.YtgepdnoaemeofaaGreatDoorW.PrintWords Go.Proofs.YtgepdnoaemeofaaGreatDoorW.PrintLast Go.Proofs.YtgepdnoaemeofaaGreatDoorW.PrintMore Go.Proofs.YtgepdnoaemeofaaGreatDoorW.PK
attribute [local go_sem] max2_int min2_int max_two min_two max_three min_three max_four min_four   -- for this text's walks alone
set_option linter.unusedVariables false
set_option linter.unusedSimpArgs false

/-! ### natural_step: function 147 -/
mutual
def natural_step.j2 : Nat → List Int → List Int → Int → Int → Option (Int × List Int)
 | 0, _, _, _, _ => none
 | k + 1, x0, x1, x5, x7 => natural_step.l1 k x0 x1 x5 x7 0 0 x1 (x1.length : Int) 0
def natural_step.l1 : Nat → List Int → List Int → Int → Int → Int → Int → List Int → Int → Int → Option (Int × List Int)
 | 0, _, _, _, _, _, _, _, _, _ => none
 | k + 1, x0, x1, x5, x7, x9, x10, x82, x83, x84 => if x84 < x83 then (if 0 ≤ x84 then (if x84 < (x82.length : Int) then (if x84 < (x0.length : Int) then ((bits_Sub32.f (rd x0 x84) ((IntKind.u64.wrap ((IntKind.u64.wrap (x7 * (IntKind.u64.wrap (rd x82 x84)))) + x9)) % 4294967296) x10).bind fun bt190 => (natural_step.l1 k (x0.set (x84 : Int).toNat bt190.1) x1 x5 x7 ((IntKind.u64.wrap ((IntKind.u64.wrap (x7 * (IntKind.u64.wrap (rd x82 x84)))) + x9)) / 4294967296) bt190.2 x82 x83 (wrap64 (x84 + 1)))) else (none)) else (none)) else (none)) else (if 0 ≤ x5 then (if x5 < (x0.length : Int) then ((bits_Sub32.f (rd x0 x5) ((x9) % 4294967296) x10).bind fun bt194 => ((some (x0.set (x5 : Int).toNat bt194.1 : List Int)).bind fun y196 => (if bt194.2 = 0 then (some ((x7) % 4294967296, y196)) else (natural_step.l2 k y196 x5 x7 0 x1 (x1.length : Int) 0)))) else (none)) else (none))
def natural_step.l2 : Nat → List Int → Int → Int → Int → List Int → Int → Int → Option (Int × List Int)
 | 0, _, _, _, _, _, _, _ => none
 | k + 1, x0, x5, x7, x14, x130, x131, x132 => if x132 < x131 then (if 0 ≤ x132 then (if x132 < (x130.length : Int) then (if x132 < (x0.length : Int) then ((bits_Add32.f (rd x0 x132) (rd x130 x132) x14).bind fun bt199 => (natural_step.l2 k (x0.set (x132 : Int).toNat bt199.1) x5 x7 bt199.2 x130 x131 (wrap64 (x132 + 1)))) else (none)) else (none)) else (none)) else (if 0 ≤ x5 then (if x5 < (x0.length : Int) then (some ((IntKind.u64.wrap (x7 - 1)) % 4294967296, (x0.set (x5 : Int).toNat (((rd x0 x5) + x14) % 4294967296)))) else (none)) else (none))
def natural_step.l0 : Nat → List Int → List Int → Int → Int → Int → Option (Int × List Int)
 | 0, _, _, _, _, _ => none
 | k + 1, x0, x1, x5, x7, x8 => if x7 ≥ 4294967296 then (natural_step.j1 k x0 x1 x5 x7 x8 true) else (if 0 ≤ (wrap64 (x5 - 2)) then (if (wrap64 (x5 - 2)) < (x1.length : Int) then (if (wrap64 (x5 - 2)) < (x0.length : Int) then (natural_step.j1 k x0 x1 x5 x7 x8 (decide ((IntKind.u64.wrap (x7 * (IntKind.u64.wrap (rd x1 (wrap64 (x5 - 2)))))) > (Go.bits .or .u64 (IntKind.u64.wrap (x8 * 4294967296)) (IntKind.u64.wrap (rd x0 (wrap64 (x5 - 2)))))))) else (none)) else (none)) else (none))
def natural_step.j1 : Nat → List Int → List Int → Int → Int → Int → Bool → Option (Int × List Int)
 | 0, _, _, _, _, _, _ => none
 | k + 1, x0, x1, x5, x7, x8, x69 => if x69 = true then (if 0 ≤ (wrap64 (x5 - 1)) then (if (wrap64 (x5 - 1)) < (x1.length : Int) then (if (IntKind.u64.wrap (x8 + (IntKind.u64.wrap (rd x1 (wrap64 (x5 - 1)))))) ≥ 4294967296 then (natural_step.j2 k x0 x1 x5 (IntKind.u64.wrap (x7 - 1))) else (natural_step.l0 k x0 x1 x5 (IntKind.u64.wrap (x7 - 1)) (IntKind.u64.wrap (x8 + (IntKind.u64.wrap (rd x1 (wrap64 (x5 - 1)))))))) else (none)) else (none)) else (natural_step.j2 k x0 x1 x5 x7)
end
def natural_step.f (k : Nat) (l0 : List Int) (l1 : List Int) : Option (Int × List Int) := if 0 ≤ (l1.length : Int) then (if (l1.length : Int) < (l0.length : Int) then (if 0 ≤ (wrap64 ((l1.length : Int) - 1)) then (if (wrap64 ((l1.length : Int) - 1)) < (l0.length : Int) then (if (wrap64 ((l1.length : Int) - 1)) < (l1.length : Int) then (if (IntKind.u64.wrap (rd l1 (wrap64 ((l1.length : Int) - 1)))) = 0 then (none) else (natural_step.l0 k l0 l1 (l1.length : Int) (IntKind.u64.wrap (Int.tdiv (Go.bits .or .u64 (IntKind.u64.wrap ((IntKind.u64.wrap (rd l0 (l1.length : Int))) * 4294967296)) (IntKind.u64.wrap (rd l0 (wrap64 ((l1.length : Int) - 1))))) (IntKind.u64.wrap (rd l1 (wrap64 ((l1.length : Int) - 1)))))) (Int.tmod (Go.bits .or .u64 (IntKind.u64.wrap ((IntKind.u64.wrap (rd l0 (l1.length : Int))) * 4294967296)) (IntKind.u64.wrap (rd l0 (wrap64 ((l1.length : Int) - 1))))) (IntKind.u64.wrap (rd l1 (wrap64 ((l1.length : Int) - 1))))))) else (none)) else (none)) else (none)) else (none)) else (none)
set_option maxHeartbeats 8000000 in
set_option maxRecDepth 100000 in
theorem natural_step.calls (pre_ post_ : List Int) (k : Nat) (P0_ : Nat → Prop) (u9000_ : Value) (l0 : List Int) (A1 : Option Addr) (c1 : Nat) (l1 : List Int) (r1 : Int) (r2 : List Int) (w0 w : World) (hB : Below w0.heap.size w0 w) (ho0 : Kd.Wn pre_ post_ 52 w w0.heap.size P0_ u9000_ l0) (hr1 : ∀ W_, Kept w W_ (fun k_ => P0_ k_) → Kd.C (Kd.int .u32) W_ A1 l1.length l1) (hc1 : l1.length ≤ c1) (h : natural_step.f k l0 l1 = some (r1, r2)) :
  Calls Tryz.prog 147 #[u9000_, .slice A1 l1.length c1] w fun e w' => e = .returned (.int .u32 r1) ∧ Kd.Wn pre_ post_ 52 w' w0.heap.size (fun k_ => (P0_ k_ ∨ w.heap.size ≤ k_)) u9000_ r2 ∧ Below w0.heap.size w0 w' ∧ Kept w w' (fun k_ => P0_ k_) := by
 have HO0 := Aside0.mk (show Kd.Wn pre_ post_ 52 w w0.heap.size (fun k_ => (P0_ k_ ∨ w.heap.size ≤ k_)) u9000_ l0 from Kd.Wn_mono ho0 (fun k_ hk => (.inl hk)))
 have HR1 := Aside0.mk hr1
 have HC1 := Aside0.mk hc1
 clear hr1 hc1
 have HK := Aside0.mk (Kept.refl w (fun k_ => P0_ k_))
 have HW0 := Aside0.mk hB.size
 have HB := Aside0.mk hB
 clear hB
 have H := h
 clear h
 unfold natural_step.f at H
 obtain ⟨c3, H⟩ := iN H
 have c3b0 : decide (0 ≤ (l1.length : Int)) = true := decide_eq_true c3
 have c3b1 : decide (0 ≤ l1.length) = true := decide_eq_true (by omega)
 clear c3
 obtain ⟨c4, H⟩ := iN H
 have c4b0 : decide ((l1.length : Int) < (l0.length : Int)) = true := decide_eq_true c4
 have c4b1 : decide (l1.length < l0.length) = true := decide_eq_true (Int.ofNat_lt.mp c4)
 clear c4
 obtain ⟨ji5, hji5⟩ : ∃ j_ : Int, (wrap64 ((l1.length : Int) - 1)) = j_ := ⟨_, rfl⟩
 first | rw [hji5] at H | simp only [hji5] at H
 have hji5w : (IntKind.i64.wrap ((l1.length : Int) - 1)) = ji5 := (i64_w _).trans hji5
 obtain ⟨c6, H⟩ := iN H
 have c6b0 : decide (0 ≤ (ji5)) = true := decide_eq_true c6
 clear c6
 obtain ⟨c7, H⟩ := iN H
 have c7b0 : decide ((ji5) < (l0.length : Int)) = true := decide_eq_true c7
 clear c7
 obtain ⟨c8, H⟩ := iN H
 have c8b0 : decide ((ji5) < (l1.length : Int)) = true := decide_eq_true c8
 clear c8
 by_cases c9 : (IntKind.u64.wrap (rd l1 (ji5))) = 0
 ·rw [if_pos c9] at H
  exact absurd H (by simp)
 ·rw [if_neg c9] at H
  have c9b0 := beq_eq_false_iff_ne.mpr c9
  have c9b1 := bne_iff_ne.mpr c9
  have HC10 := Aside0.mk H
  clear H
  obtain ⟨Ao11, co11, eo11, _⟩ := Kd.Wn_slice HO0.out
  subst eo11
  have p181 : 0 ≤ ((l1.length : Int) : Int) := oa
  have q181 : (l1.length : Int) < (l0.length : Int) := oa
  obtain ⟨ad181, e181, hx181_0⟩ := Kd.at_int (Kd.Wn_reads' HO0.out).2.2 (l1.length : Int) p181 q181
  cases e181
  (try simp only [Go.IntWalk.toNatUp] at hx181_0)
  replace p181 := eq_true p181
  replace q181 := eq_true q181
  have p182 : 0 ≤ ((ji5) : Int) := oa
  have q182 : (ji5) < (l0.length : Int) := oa
  obtain ⟨ad182, e182, hx182_0⟩ := Kd.at_int (Kd.Wn_reads' HO0.out).2.2 (ji5) p182 q182
  obtain rfl : ad181 = ad182 := (by injection e182)
  replace p182 := eq_true p182
  replace q182 := eq_true q182
  have p183 : 0 ≤ ((ji5) : Int) := oa
  have q183 : (ji5) < (l1.length : Int) := oa
  obtain ⟨ad183, e183, hx183_0⟩ := Kd.at_int (Kd.C_kept_now HR1.out HK.out) (ji5) p183 q183
  cases e183
  replace p183 := eq_true p183
  replace q183 := eq_true q183
  have p184 : 0 ≤ ((ji5) : Int) := oa
  have q184 : (ji5) < (l1.length : Int) := oa
  obtain ⟨ad184, e184, hx184_0⟩ := Kd.at_int (Kd.C_kept_now HR1.out HK.out) (ji5) p184 q184
  obtain rfl : ad183 = ad184 := (by injection e184)
  replace p184 := eq_true p184
  replace q184 := eq_true q184
  go_enter Tryz.func147, Tryz.ntmps147
  (try (simp only [Exit.then]; refine (by assumption : ∀ (a : Act) (w : World), Code.wp _ _ _ a w → _) _ _ ?_))
  go_upto_block 0 with (fail)
  repeat (go_quiet (fail); go_upto_block 0 with (fail))
  go_cut [7] (fun v7 wc => ∃ (kq : Nat) (x7_9 : Int), v7 = .int .u64 x7_9 ∧ Aside0 (natural_step.j2 kq l0 l1 (l1.length : Int) x7_9 = some (r1, r2)) ∧ Aside0 (kq ≤ k) ∧ Aside0 (Kd.Wn pre_ post_ 52 wc w0.heap.size (fun k_ => (P0_ k_ ∨ w.heap.size ≤ k_)) (.slice (some ad181) l0.length co11) l0) ∧ Aside0 (Kept w wc (fun k_ => P0_ k_)) ∧ Aside0 (Below w0.heap.size w0 wc))
  case first =>
   have H := HC10.out
   clear HC10
   have H' := Aside0.mk H
   clear H
   go_wp2
   repeat (go_quiet (fail); try go_wp2)
   go_loopg [7, 8] k (fun kq v7 v8 w' => ∃ (x7_1 : Int) (x8_1 : Int), v7 = .int .u64 x7_1 ∧ v8 = .int .u64 x8_1 ∧ Aside0 (natural_step.l0 kq l0 l1 (l1.length : Int) x7_1 x8_1 = some (r1, r2)) ∧ Aside0 (kq ≤ k) ∧ Aside0 (Kd.Wn pre_ post_ 52 w' w0.heap.size (fun k_ => (P0_ k_ ∨ w.heap.size ≤ k_)) (.slice (some ad181) l0.length co11) l0) ∧ Aside0 (Kept w w' (fun k_ => P0_ k_)) ∧ Aside0 (Below w0.heap.size w0 w'))
   case atStart => exact ⟨(IntKind.u64.wrap (Int.tdiv (Go.bits .or .u64 (IntKind.u64.wrap ((IntKind.u64.wrap (rd l0 (l1.length : Int))) * 4294967296)) (IntKind.u64.wrap (rd l0 (ji5)))) (IntKind.u64.wrap (rd l1 (ji5))))), (Int.tmod (Go.bits .or .u64 (IntKind.u64.wrap ((IntKind.u64.wrap (rd l0 (l1.length : Int))) * 4294967296)) (IntKind.u64.wrap (rd l0 (ji5)))) (IntKind.u64.wrap (rd l1 (ji5)))), (by first | rfl | (simp; done) | (simp only [← hji5] <;> (first | rfl | simp)) | (simp [*]; done)), (by first | rfl | (simp; done) | (simp only [← hji5] <;> (first | rfl | simp)) | (simp [*]; done)), H', ⟨Nat.le_refl _⟩, ⟨vs HO0.out⟩, ⟨by repeat (first | (with_reducible first | exact HK.out | apply Kept.alloc | apply Kept.drewN | apply Kept.drew) | exact HK.out)⟩, ⟨bz HB.out⟩⟩
   case round =>
    clear H'
    (try clear c1); (try clear c3b0); (try clear c3b1); (try clear c4b0); (try clear c4b1); (try clear c6b0); (try clear c7b0); (try clear c8b0); (try clear c9); (try clear c9b0); (try clear c9b1); (try clear hx181_0); (try clear hx182_0); (try clear hx183_0); (try clear hx184_0); (try clear p181); (try clear p182); (try clear p183); (try clear p184); (try clear q181); (try clear q182); (try clear q183); (try clear q184)
    obtain ⟨x7_1, x8_1, rfl, rfl, HA, HK1, HO_0, HK, HB⟩ := hrel
    cases gk with
    | zero => exact absurd HA.out (by simp [natural_step.l0])
    | succ k1 =>
     have H := HA.out
     clear HA
     simp only [natural_step.l0] at H
     have HC12 := Aside0.mk H
     clear H
     (try (simp only [Exit.then]; refine (by assumption : ∀ (a : Act) (w : World), Code.wp _ _ _ a w → _) _ _ ?_))
     go_upto_region 4 with (fail)
     repeat (go_quiet (fail); go_upto_region 4 with (fail))
     go_cut [69] (fun v69 wc => ∃ (kq : Nat) (x69_11 : Bool), v69 = .bool x69_11 ∧ Aside0 (natural_step.j1 kq l0 l1 (l1.length : Int) x7_1 x8_1 x69_11 = some (r1, r2)) ∧ Aside0 (kq ≤ k1) ∧ Aside0 (Kd.Wn pre_ post_ 52 wc w0.heap.size (fun k_ => (P0_ k_ ∨ w.heap.size ≤ k_)) (.slice (some ad181) l0.length co11) l0) ∧ Aside0 (Kept w wc (fun k_ => P0_ k_)) ∧ Aside0 (Below w0.heap.size w0 wc))
     case first =>
      have H := HC12.out
      clear HC12
      by_cases c13 : x7_1 ≥ 4294967296
      ·rw [if_pos c13] at H
       have c13b0 : decide (4294967296 ≤ x7_1) = true := decide_eq_true c13
       clear c13
       (first | rw [c13b0] | (simp only [i64_w, i32_w]; rw [c13b0]) | skip)
       have H' := Aside0.mk H
       clear H
       go_wp2
       repeat (go_quiet (fail); try go_wp2)
       (try simp only [add_at] at *)
       go_meet
       case rel => exact ⟨_, (true), fs, H', ⟨by have := HK1.out; first | omega | exact Nat.le_refl _⟩, ⟨vs HO_0.out⟩, ⟨by repeat (first | (with_reducible first | exact HK.out | apply Kept.alloc | apply Kept.drewN | apply Kept.drew) | exact HK.out)⟩, ⟨bz HB.out⟩⟩
      ·rw [if_neg c13] at H
       have c13b0 : decide (4294967296 ≤ x7_1) = false := decide_eq_false c13
       clear c13
       (first | rw [c13b0] | (simp only [i64_w, i32_w]; rw [c13b0]) | skip)
       obtain ⟨ji14, hji14⟩ : ∃ j_ : Int, (wrap64 ((l1.length : Int) - 2)) = j_ := ⟨_, rfl⟩
       first | rw [hji14] at H | simp only [hji14] at H
       have hji14w : (IntKind.i64.wrap ((l1.length : Int) - 2)) = ji14 := (i64_w _).trans hji14
       obtain ⟨c15, H⟩ := iN H
       have c15b0 : decide (0 ≤ (ji14)) = true := decide_eq_true c15
       clear c15
       obtain ⟨c16, H⟩ := iN H
       have c16b0 : decide ((ji14) < (l1.length : Int)) = true := decide_eq_true c16
       clear c16
       obtain ⟨c17, H⟩ := iN H
       have c17b0 : decide ((ji14) < (l0.length : Int)) = true := decide_eq_true c17
       clear c17
       have H' := Aside0.mk H
       clear H
       have p185 : 0 ≤ ((ji14) : Int) := oa
       have q185 : (ji14) < (l1.length : Int) := oa
       obtain ⟨ad185, e185, hx185_0⟩ := Kd.at_int (Kd.C_kept_now HR1.out HK.out) (ji14) p185 q185
       obtain rfl : ad183 = ad185 := (by injection e185)
       replace p185 := eq_true p185
       replace q185 := eq_true q185
       have p186 : 0 ≤ ((ji14) : Int) := oa
       have q186 : (ji14) < (l0.length : Int) := oa
       obtain ⟨ad186, e186, hx186_0⟩ := Kd.at_int (Kd.Wn_reads' HO_0.out).2.2 (ji14) p186 q186
       obtain rfl : ad181 = ad186 := (by injection e186)
       replace p186 := eq_true p186
       replace q186 := eq_true q186
       go_wp2
       repeat (go_quiet (fail); try go_wp2)
       (try simp only [add_at] at *)
       go_meet
       case rel => exact ⟨_, (decide ((IntKind.u64.wrap (x7_1 * (IntKind.u64.wrap (rd l1 (ji14))))) > (Go.bits .or .u64 (IntKind.u64.wrap (x8_1 * 4294967296)) (IntKind.u64.wrap (rd l0 (ji14)))))), (by first | rfl | (simp; done) | (simp only [← hji14] <;> (first | rfl | simp)) | (simp [*]; done)), H', ⟨by have := HK1.out; first | omega | exact Nat.le_refl _⟩, ⟨vs HO_0.out⟩, ⟨by repeat (first | (with_reducible first | exact HK.out | apply Kept.alloc | apply Kept.drewN | apply Kept.drew) | exact HK.out)⟩, ⟨bz HB.out⟩⟩
     case rest =>
      clear HC12
      (try clear c1); (try clear c3b0); (try clear c3b1); (try clear c4b0); (try clear c4b1); (try clear c6b0); (try clear c7b0); (try clear c8b0); (try clear c9); (try clear c9b0); (try clear c9b1); (try clear c13b0); (try clear c15b0); (try clear c16b0); (try clear c17b0); (try clear hx181_0); (try clear hx182_0); (try clear hx183_0); (try clear hx184_0); (try clear hx185_0); (try clear hx186_0); (try clear p181); (try clear p182); (try clear p183); (try clear p184); (try clear p185); (try clear p186); (try clear q181); (try clear q182); (try clear q183); (try clear q184); (try clear q185); (try clear q186)
      obtain ⟨kq, x69_11, rfl, HA, HJ11, HO_0, HK, HB⟩ := hcut
      cases kq with
      | zero => exact absurd HA.out (by simp [natural_step.j1])
      | succ kj11 =>
       have H := HA.out
       clear HA
       simp only [natural_step.j1] at H
       by_cases c18 : x69_11 = true
       ·subst c18
        have H1 : (if 0 ≤ (wrap64 ((l1.length : Int) - 1)) then (if (wrap64 ((l1.length : Int) - 1)) < (l1.length : Int) then (if (IntKind.u64.wrap (x8_1 + (IntKind.u64.wrap (rd l1 (wrap64 ((l1.length : Int) - 1)))))) ≥ 4294967296 then (natural_step.j2 kj11 l0 l1 (l1.length : Int) (IntKind.u64.wrap (x7_1 - 1))) else (natural_step.l0 kj11 l0 l1 (l1.length : Int) (IntKind.u64.wrap (x7_1 - 1)) (IntKind.u64.wrap (x8_1 + (IntKind.u64.wrap (rd l1 (wrap64 ((l1.length : Int) - 1)))))))) else (none)) else (none)) = some (r1, r2) := by rw [if_pos rfl] at H; exact H
        clear H
        have H := H1
        clear H1
        (try clear hji5w); (try clear hji5)
        obtain ⟨ji19, hji19⟩ : ∃ j_ : Int, (wrap64 ((l1.length : Int) - 1)) = j_ := ⟨_, rfl⟩
        first | rw [hji19] at H | simp only [hji19] at H
        have hji19w : (IntKind.i64.wrap ((l1.length : Int) - 1)) = ji19 := (i64_w _).trans hji19
        obtain ⟨c20, H⟩ := iN H
        have c20b0 : decide (0 ≤ (ji19)) = true := decide_eq_true c20
        clear c20
        obtain ⟨c21, H⟩ := iN H
        have c21b0 : decide ((ji19) < (l1.length : Int)) = true := decide_eq_true c21
        clear c21
        by_cases c22 : (IntKind.u64.wrap (x8_1 + (IntKind.u64.wrap (rd l1 (ji19))))) ≥ 4294967296
        ·rw [if_pos c22] at H
         have c22b0 : decide (4294967296 ≤ (IntKind.u64.wrap (x8_1 + (IntKind.u64.wrap (rd l1 (ji19)))))) = true := decide_eq_true c22
         clear c22
         have H' := Aside0.mk H
         clear H
         have p187 : 0 ≤ ((ji19) : Int) := oa
         have q187 : (ji19) < (l1.length : Int) := oa
         obtain ⟨ad187, e187, hx187_0⟩ := Kd.at_int (Kd.C_kept_now HR1.out HK.out) (ji19) p187 q187
         obtain rfl : ad183 = ad187 := (by injection e187)
         replace p187 := eq_true p187
         replace q187 := eq_true q187
         go_wp2
         repeat (go_quiet (fail); try go_wp2)
         (try simp only [add_at] at *)
         go_meet
         case rel => exact ⟨_, (IntKind.u64.wrap (x7_1 - 1)), fs, H', ⟨by have := HK1.out; have := HJ11.out; first | omega | exact Nat.le_refl _⟩, ⟨vs HO_0.out⟩, ⟨by repeat (first | (with_reducible first | exact HK.out | apply Kept.alloc | apply Kept.drewN | apply Kept.drew) | exact HK.out)⟩, ⟨bz HB.out⟩⟩
        ·rw [if_neg c22] at H
         have c22b0 : decide (4294967296 ≤ (IntKind.u64.wrap (x8_1 + (IntKind.u64.wrap (rd l1 (ji19)))))) = false := decide_eq_false c22
         clear c22
         have H' := Aside0.mk H
         clear H
         have p187 : 0 ≤ ((ji19) : Int) := oa
         have q187 : (ji19) < (l1.length : Int) := oa
         obtain ⟨ad187, e187, hx187_0⟩ := Kd.at_int (Kd.C_kept_now HR1.out HK.out) (ji19) p187 q187
         obtain rfl : ad183 = ad187 := (by injection e187)
         replace p187 := eq_true p187
         replace q187 := eq_true q187
         go_wp2
         repeat (go_quiet (fail); try go_wp2)
         (try simp only [add_at] at *)
         go_roundg kj11
         case measure => have := HK1.out; have := HJ11.out; omega
         case rel => exact ⟨(IntKind.u64.wrap (x7_1 - 1)), (IntKind.u64.wrap (x8_1 + (IntKind.u64.wrap (rd l1 (ji19))))), fs, (by first | rfl | (simp; done) | (simp only [← hji19] <;> (first | rfl | simp)) | (simp [*]; done)), H', ⟨by have := HK1.out; have := HJ11.out; omega⟩, ⟨vs HO_0.out⟩, ⟨by repeat (first | (with_reducible first | exact HK.out | apply Kept.alloc | apply Kept.drewN | apply Kept.drew) | exact HK.out)⟩, ⟨bz HB.out⟩⟩
       ·replace c18 := Bool.eq_false_iff.mpr c18
        subst c18
        have H1 : (natural_step.j2 kj11 l0 l1 (l1.length : Int) x7_1) = some (r1, r2) := by rw [if_neg (show ¬ (false = true) by decide)] at H; exact H
        clear H
        have H := H1
        clear H1
        have H' := Aside0.mk H
        clear H
        go_wp2
        repeat (go_quiet (fail); try go_wp2)
        (try simp only [add_at] at *)
        go_meet
        case rel => exact ⟨_, (x7_1), fs, H', ⟨by have := HK1.out; have := HJ11.out; first | omega | exact Nat.le_refl _⟩, ⟨vs HO_0.out⟩, ⟨by repeat (first | (with_reducible first | exact HK.out | apply Kept.alloc | apply Kept.drewN | apply Kept.drew) | exact HK.out)⟩, ⟨bz HB.out⟩⟩
  case rest =>
   clear HC10
   (try clear c1); (try clear c3b0); (try clear c3b1); (try clear c4b0); (try clear c4b1); (try clear c6b0); (try clear c7b0); (try clear c8b0); (try clear c9); (try clear c9b0); (try clear c9b1); (try clear c13b0); (try clear c15b0); (try clear c16b0); (try clear c17b0); (try clear c18); (try clear c20b0); (try clear c21b0); (try clear c22b0); (try clear hx181_0); (try clear hx182_0); (try clear hx183_0); (try clear hx184_0); (try clear hx185_0); (try clear hx186_0); (try clear hx187_0); (try clear p181); (try clear p182); (try clear p183); (try clear p184); (try clear p185); (try clear p186); (try clear p187); (try clear q181); (try clear q182); (try clear q183); (try clear q184); (try clear q185); (try clear q186); (try clear q187)
   obtain ⟨kq, x7_9, rfl, HA, HJ9, HO_0, HK, HB⟩ := hcut
   cases kq with
   | zero => exact absurd HA.out (by simp [natural_step.j2])
   | succ kj9 =>
    have H := HA.out
    clear HA
    simp only [natural_step.j2] at H
    have H' := Aside0.mk H
    clear H
    go_wp2
    repeat (go_quiet (fail); try go_wp2)
    go_loopg [9, 10, 84] kj9 (fun kq v9 v10 v84 w' => ∃ (x0_2 : List Int) (x9_2 : Int) (x10_2 : Int) (x84_2 : Int), v9 = .int .u64 x9_2 ∧ v10 = .int .u32 x10_2 ∧ v84 = .int .i64 x84_2 ∧ Aside0 (natural_step.l1 kq x0_2 l1 (l1.length : Int) x7_9 x9_2 x10_2 l1 (l1.length : Int) x84_2 = some (r1, r2)) ∧ Aside0 (kq ≤ kj9) ∧ Aside0 (Kd.Wn pre_ post_ 52 w' w0.heap.size (fun k_ => (P0_ k_ ∨ w.heap.size ≤ k_)) (.slice (some ad181) l0.length co11) x0_2) ∧ Aside0 (Kept w w' (fun k_ => P0_ k_)) ∧ Aside0 (Below w0.heap.size w0 w'))
    case atStart => exact ⟨(l0), (0), (0), (0), fs, fs, fs, H', ⟨Nat.le_refl _⟩, ⟨vs HO_0.out⟩, ⟨by repeat (first | (with_reducible first | exact HK.out | apply Kept.alloc | apply Kept.drewN | apply Kept.drew) | exact HK.out)⟩, ⟨bz HB.out⟩⟩
    case round =>
     clear H'
     (try clear c1); (try clear c3b0); (try clear c3b1); (try clear c4b0); (try clear c4b1); (try clear c6b0); (try clear c7b0); (try clear c8b0); (try clear c9); (try clear c9b0); (try clear c9b1); (try clear c13b0); (try clear c15b0); (try clear c16b0); (try clear c17b0); (try clear c18); (try clear c20b0); (try clear c21b0); (try clear c22b0); (try clear hx181_0); (try clear hx182_0); (try clear hx183_0); (try clear hx184_0); (try clear hx185_0); (try clear hx186_0); (try clear hx187_0); (try clear p181); (try clear p182); (try clear p183); (try clear p184); (try clear p185); (try clear p186); (try clear p187); (try clear q181); (try clear q182); (try clear q183); (try clear q184); (try clear q185); (try clear q186); (try clear q187)
     obtain ⟨x0_2, x9_2, x10_2, x84_2, rfl, rfl, rfl, HA, HK2, HO_0, HK, HB⟩ := hrel
     have hl0_2 := (Kd.Wn_reads' HO_0.out).1
     rw [hl0_2] at HO_0
     (try simp only [hl0_2])
     cases gk with
     | zero => exact absurd HA.out (by simp [natural_step.l1])
     | succ k2 =>
      have H := HA.out
      clear HA
      simp only [natural_step.l1] at H
      by_cases c23 : x84_2 < (l1.length : Int)
      ·rw [if_pos c23] at H
       have c23b0 : decide (x84_2 < (l1.length : Int)) = true := decide_eq_true c23
       (try (have c23b0_hl0_2 := c23b0; rw [hl0_2] at c23b0_hl0_2))
       clear c23
       obtain ⟨c24, H⟩ := iN H
       have c24b0 : decide (0 ≤ x84_2) = true := decide_eq_true c24
       clear c24
       obtain ⟨c25, H⟩ := iN H
       have c25b0 : decide (x84_2 < (l1.length : Int)) = true := decide_eq_true c25
       (try (have c25b0_hl0_2 := c25b0; rw [hl0_2] at c25b0_hl0_2))
       clear c25
       obtain ⟨c26, H⟩ := iN H
       have c26b0 : decide (x84_2 < (x0_2.length : Int)) = true := decide_eq_true c26
       (try (have c26b0_hl0_2 := c26b0; rw [hl0_2] at c26b0_hl0_2))
       clear c26
       obtain ⟨⟨t190, t191⟩, A27, H⟩ := bs1 H; dsimp only at H
       obtain ⟨y192, hy192⟩ : ∃ y_ : List Int, y_ = (x0_2.set (x84_2 : Int).toNat t190) := ⟨_, rfl⟩
       (try first | rw [← hy192] at H | (dsimp only at H; rw [← hy192] at H)); (try rw [Option.bind_some] at H)
       have Ny192 := Aside0.mk hy192
       clear hy192
       have H' := Aside0.mk H
       clear H
       have p188 : 0 ≤ (x84_2 : Int) := oa
       have q188 : x84_2 < (l1.length : Int) := oa
       obtain ⟨ad188, e188, hx188_0⟩ := Kd.at_int (Kd.C_kept_now HR1.out HK.out) x84_2 p188 q188
       obtain rfl : ad183 = ad188 := (by injection e188)
       replace p188 := eq_true p188
       replace q188 := eq_true q188
       have p189 : 0 ≤ (x84_2 : Int) := oa
       have q189 : x84_2 < (x0_2.length : Int) := oa
       obtain ⟨ad189, e189, hx189_0⟩ := Kd.at_int (Kd.Wn_reads' HO_0.out).2.2 x84_2 p189 q189
       obtain rfl : ad181 = ad189 := (by injection e189)
       replace p189 := eq_true p189
       replace q189 := eq_true q189
       go_wp2_with (first | (go_at_call 167; (with_reducible refine (bits_Sub32.calls (rd x0_2 x84_2) ((IntKind.u64.wrap ((IntKind.u64.wrap (x7_9 * (IntKind.u64.wrap (rd l1 x84_2)))) + x9_2)) % 4294967296) x10_2 t190 t191 _ A27.out).mono ?_); rintro e w' ⟨rfl, ⟨nd, rfl⟩⟩; (try exact dw); have p28 : 0 ≤ (x84_2 : Int) := oa; have q28 : (x84_2 : Int) < ((x0_2.length : Int) : Int) := oa; obtain ⟨go28, oo28, co28, eo28, gb28, gl28, cl28, HG28⟩ := Kd.Wn_form HO_0.out (by omega); (first | cases eo28 | (injection eo28 with ea_ en_ ec_; (first | subst ea_ | (injection ea_ with ea_; subst ea_)); subst ec_; clear en_)); have GB28 := Aside0.mk gb28; have GG28 := Aside0.mk HG28; clear gb28 gl28 HG28; have HMgo28 := Aside0.mk (show (P0_ go28 ∨ w.heap.size ≤ go28) from (HO_0.out.1 _ rfl)); (first | simp only [add_at] at hx181_0 | skip); (first | simp only [add_at] at hx182_0 | skip); (first | simp only [add_at] at hx186_0 | skip); (first | simp only [add_at] at hx189_0 | skip); obtain ⟨hx28_0, hf28_0⟩ := Kd.Wn_cell 0 HO_0.out (x84_2 : Int) p28 q28; replace p28 := eq_true p28; replace q28 := eq_true q28; obtain ⟨hy29_, hz29_⟩ := Kd.Wn_cell 0 HO_0.out (x84_2 : Int) oa oa; have HP29 := Kd.Wn_putg HO_0.out (x84_2 : Int) oa (by have h_ : (x84_2 : Int) < ((x0_2.length : Int) : Int) := oa; first | exact h_ | (have e_ := (Kd.Wn_reads' HO_0.out).1; omega) | simpa using h_) t190) | ((with_reducible refine gate_store (t := 52) (p := 110) rfl ?_); (try (rw [drewN_self wr]; generalize hq_ : World.drewN wr _ = wr; have n0_ := Aside0.mk (Kd.Wn_at hq_ HO_0.out); have n1_ := Aside0.mk (kept_at hq_ HK.out); have n2_ := Aside0.mk (below_at hq_ HB.out); clear hq_ HO_0 HK HB; have HO_0 := n0_; have HK := n1_; have HB := n2_; clear n0_ n1_ n2_; (try (obtain ⟨hy29_, hz29_⟩ := Kd.Wn_cell 0 HO_0.out (x84_2 : Int) oa oa)); (try (have HP29 := Kd.Wn_putg HO_0.out (x84_2 : Int) oa (by have h_ : (x84_2 : Int) < ((x0_2.length : Int) : Int) := oa; first | exact h_ | (have e_ := (Kd.Wn_reads' HO_0.out).1; omega) | simpa using h_) t190)))); refine se 52 110 (w1 := (wr.setCell ⟨go28, oo28 + (x84_2 : Int).toNat, none⟩ (.int .u32 t190))) ?_; intro w30 hw; have hg : wr.grownBy w30 (some go28) := (by rw [hw]; exact HP29.2); have hp_ : Kd.Wn pre_ post_ 52 w30 w0.heap.size (fun k_ => (P0_ k_ ∨ w.heap.size ≤ k_)) (.slice (some ⟨go28, oo28, none⟩) x0_2.length co11) y192 := (by rw [hw, Ny192.out]; exact HP29.1); clear HP29; replace HB := Aside0.mk ((by rw [hw]; exact below_set (HB.out) GB28.out : Below w0.heap.size w0 w30)); replace HK := Aside0.mk (Kept.of_grown (S := (fun k_ => P0_ k_)) hg (by repeat (first | (with_reducible first | exact HK.out | apply Kept.alloc | apply Kept.drewN | apply Kept.drew) | exact HK.out)) (fun k_ e_ => (HO_0.out.1 k_ e_))); replace HO_0 := Aside0.mk (hp_); clear hg hw hp_))
       repeat (go_quiet (first | (go_at_call 167; (with_reducible refine (bits_Sub32.calls (rd x0_2 x84_2) ((IntKind.u64.wrap ((IntKind.u64.wrap (x7_9 * (IntKind.u64.wrap (rd l1 x84_2)))) + x9_2)) % 4294967296) x10_2 t190 t191 _ A27.out).mono ?_); rintro e w' ⟨rfl, ⟨nd, rfl⟩⟩; (try exact dw); have p28 : 0 ≤ (x84_2 : Int) := oa; have q28 : (x84_2 : Int) < ((x0_2.length : Int) : Int) := oa; obtain ⟨go28, oo28, co28, eo28, gb28, gl28, cl28, HG28⟩ := Kd.Wn_form HO_0.out (by omega); (first | cases eo28 | (injection eo28 with ea_ en_ ec_; (first | subst ea_ | (injection ea_ with ea_; subst ea_)); subst ec_; clear en_)); have GB28 := Aside0.mk gb28; have GG28 := Aside0.mk HG28; clear gb28 gl28 HG28; have HMgo28 := Aside0.mk (show (P0_ go28 ∨ w.heap.size ≤ go28) from (HO_0.out.1 _ rfl)); (first | simp only [add_at] at hx181_0 | skip); (first | simp only [add_at] at hx182_0 | skip); (first | simp only [add_at] at hx186_0 | skip); (first | simp only [add_at] at hx189_0 | skip); obtain ⟨hx28_0, hf28_0⟩ := Kd.Wn_cell 0 HO_0.out (x84_2 : Int) p28 q28; replace p28 := eq_true p28; replace q28 := eq_true q28; obtain ⟨hy29_, hz29_⟩ := Kd.Wn_cell 0 HO_0.out (x84_2 : Int) oa oa; have HP29 := Kd.Wn_putg HO_0.out (x84_2 : Int) oa (by have h_ : (x84_2 : Int) < ((x0_2.length : Int) : Int) := oa; first | exact h_ | (have e_ := (Kd.Wn_reads' HO_0.out).1; omega) | simpa using h_) t190) | ((with_reducible refine gate_store (t := 52) (p := 110) rfl ?_); (try (rw [drewN_self wr]; generalize hq_ : World.drewN wr _ = wr; have n0_ := Aside0.mk (Kd.Wn_at hq_ HO_0.out); have n1_ := Aside0.mk (kept_at hq_ HK.out); have n2_ := Aside0.mk (below_at hq_ HB.out); clear hq_ HO_0 HK HB; have HO_0 := n0_; have HK := n1_; have HB := n2_; clear n0_ n1_ n2_; (try (obtain ⟨hy29_, hz29_⟩ := Kd.Wn_cell 0 HO_0.out (x84_2 : Int) oa oa)); (try (have HP29 := Kd.Wn_putg HO_0.out (x84_2 : Int) oa (by have h_ : (x84_2 : Int) < ((x0_2.length : Int) : Int) := oa; first | exact h_ | (have e_ := (Kd.Wn_reads' HO_0.out).1; omega) | simpa using h_) t190)))); refine se 52 110 (w1 := (wr.setCell ⟨go28, oo28 + (x84_2 : Int).toNat, none⟩ (.int .u32 t190))) ?_; intro w30 hw; have hg : wr.grownBy w30 (some go28) := (by rw [hw]; exact HP29.2); have hp_ : Kd.Wn pre_ post_ 52 w30 w0.heap.size (fun k_ => (P0_ k_ ∨ w.heap.size ≤ k_)) (.slice (some ⟨go28, oo28, none⟩) x0_2.length co11) y192 := (by rw [hw, Ny192.out]; exact HP29.1); clear HP29; replace HB := Aside0.mk ((by rw [hw]; exact below_set (HB.out) GB28.out : Below w0.heap.size w0 w30)); replace HK := Aside0.mk (Kept.of_grown (S := (fun k_ => P0_ k_)) hg (by repeat (first | (with_reducible first | exact HK.out | apply Kept.alloc | apply Kept.drewN | apply Kept.drew) | exact HK.out)) (fun k_ e_ => (HO_0.out.1 k_ e_))); replace HO_0 := Aside0.mk (hp_); clear hg hw hp_)); try go_wp2_with (first | (go_at_call 167; (with_reducible refine (bits_Sub32.calls (rd x0_2 x84_2) ((IntKind.u64.wrap ((IntKind.u64.wrap (x7_9 * (IntKind.u64.wrap (rd l1 x84_2)))) + x9_2)) % 4294967296) x10_2 t190 t191 _ A27.out).mono ?_); rintro e w' ⟨rfl, ⟨nd, rfl⟩⟩; (try exact dw); have p28 : 0 ≤ (x84_2 : Int) := oa; have q28 : (x84_2 : Int) < ((x0_2.length : Int) : Int) := oa; obtain ⟨go28, oo28, co28, eo28, gb28, gl28, cl28, HG28⟩ := Kd.Wn_form HO_0.out (by omega); (first | cases eo28 | (injection eo28 with ea_ en_ ec_; (first | subst ea_ | (injection ea_ with ea_; subst ea_)); subst ec_; clear en_)); have GB28 := Aside0.mk gb28; have GG28 := Aside0.mk HG28; clear gb28 gl28 HG28; have HMgo28 := Aside0.mk (show (P0_ go28 ∨ w.heap.size ≤ go28) from (HO_0.out.1 _ rfl)); (first | simp only [add_at] at hx181_0 | skip); (first | simp only [add_at] at hx182_0 | skip); (first | simp only [add_at] at hx186_0 | skip); (first | simp only [add_at] at hx189_0 | skip); obtain ⟨hx28_0, hf28_0⟩ := Kd.Wn_cell 0 HO_0.out (x84_2 : Int) p28 q28; replace p28 := eq_true p28; replace q28 := eq_true q28; obtain ⟨hy29_, hz29_⟩ := Kd.Wn_cell 0 HO_0.out (x84_2 : Int) oa oa; have HP29 := Kd.Wn_putg HO_0.out (x84_2 : Int) oa (by have h_ : (x84_2 : Int) < ((x0_2.length : Int) : Int) := oa; first | exact h_ | (have e_ := (Kd.Wn_reads' HO_0.out).1; omega) | simpa using h_) t190) | ((with_reducible refine gate_store (t := 52) (p := 110) rfl ?_); (try (rw [drewN_self wr]; generalize hq_ : World.drewN wr _ = wr; have n0_ := Aside0.mk (Kd.Wn_at hq_ HO_0.out); have n1_ := Aside0.mk (kept_at hq_ HK.out); have n2_ := Aside0.mk (below_at hq_ HB.out); clear hq_ HO_0 HK HB; have HO_0 := n0_; have HK := n1_; have HB := n2_; clear n0_ n1_ n2_; (try (obtain ⟨hy29_, hz29_⟩ := Kd.Wn_cell 0 HO_0.out (x84_2 : Int) oa oa)); (try (have HP29 := Kd.Wn_putg HO_0.out (x84_2 : Int) oa (by have h_ : (x84_2 : Int) < ((x0_2.length : Int) : Int) := oa; first | exact h_ | (have e_ := (Kd.Wn_reads' HO_0.out).1; omega) | simpa using h_) t190)))); refine se 52 110 (w1 := (wr.setCell ⟨go28, oo28 + (x84_2 : Int).toNat, none⟩ (.int .u32 t190))) ?_; intro w30 hw; have hg : wr.grownBy w30 (some go28) := (by rw [hw]; exact HP29.2); have hp_ : Kd.Wn pre_ post_ 52 w30 w0.heap.size (fun k_ => (P0_ k_ ∨ w.heap.size ≤ k_)) (.slice (some ⟨go28, oo28, none⟩) x0_2.length co11) y192 := (by rw [hw, Ny192.out]; exact HP29.1); clear HP29; replace HB := Aside0.mk ((by rw [hw]; exact below_set (HB.out) GB28.out : Below w0.heap.size w0 w30)); replace HK := Aside0.mk (Kept.of_grown (S := (fun k_ => P0_ k_)) hg (by repeat (first | (with_reducible first | exact HK.out | apply Kept.alloc | apply Kept.drewN | apply Kept.drew) | exact HK.out)) (fun k_ e_ => (HO_0.out.1 k_ e_))); replace HO_0 := Aside0.mk (hp_); clear hg hw hp_)))
       (try simp only [← hl0_2])
       (try simp only [add_at] at *)
       go_roundg k2
       case measure => have := HJ9.out; have := HK2.out; omega
       case rel => exact ⟨(y192), ((IntKind.u64.wrap ((IntKind.u64.wrap (x7_9 * (IntKind.u64.wrap (rd l1 x84_2)))) + x9_2)) / 4294967296), (t191), (wrap64 (x84_2 + 1)), fs, fs, fs, H', ⟨by have := HJ9.out; have := HK2.out; omega⟩, ⟨by (try simp only [hl0_2]); (with_reducible repeat (first | apply Kd.Wn_alloc | apply Kd.Wn_drewN | apply Kd.Wn_drew)); exact HO_0.out⟩, ⟨by repeat (first | (with_reducible first | exact HK.out | apply Kept.alloc | apply Kept.drewN | apply Kept.drew) | exact HK.out)⟩, ⟨bz HB.out⟩⟩
      ·rw [if_neg c23] at H
       have c23b0 : decide (x84_2 < (l1.length : Int)) = false := decide_eq_false c23
       (try (have c23b0_hl0_2 := c23b0; rw [hl0_2] at c23b0_hl0_2))
       clear c23
       obtain ⟨c31, H⟩ := iN H
       have c31b0 : decide (0 ≤ (l1.length : Int)) = true := decide_eq_true c31
       (try (have c31b0_hl0_2 := c31b0; rw [hl0_2] at c31b0_hl0_2))
       have c31b1 : decide (0 ≤ l1.length) = true := decide_eq_true (by omega)
       (try (have c31b1_hl0_2 := c31b1; rw [hl0_2] at c31b1_hl0_2))
       clear c31
       obtain ⟨c32, H⟩ := iN H
       have c32b0 : decide ((l1.length : Int) < (x0_2.length : Int)) = true := decide_eq_true c32
       (try (have c32b0_hl0_2 := c32b0; rw [hl0_2] at c32b0_hl0_2))
       have c32b1 : decide (l1.length < x0_2.length) = true := decide_eq_true (Int.ofNat_lt.mp c32)
       (try (have c32b1_hl0_2 := c32b1; rw [hl0_2] at c32b1_hl0_2))
       clear c32
       obtain ⟨⟨t194, t195⟩, A33, H⟩ := bs1 H; dsimp only at H
       obtain ⟨y196, hy196⟩ : ∃ y_ : List Int, y_ = (x0_2.set ((l1.length : Int) : Int).toNat t194) := ⟨_, rfl⟩
       (try first | rw [← hy196] at H | (dsimp only at H; rw [← hy196] at H)); (try rw [Option.bind_some] at H)
       have Ny196 := Aside0.mk hy196
       clear hy196
       by_cases c35 : t195 = 0
       ·rw [if_pos c35] at H
        have c35b0 := beq_iff_eq.mpr c35
        have c35b1 := bne_eq_false_iff_eq.mpr c35
        clear c35
        simp only [Option.some.injEq, Prod.mk.injEq] at H
        obtain ⟨rfl, rfl⟩ := H
        have p193 : 0 ≤ ((l1.length : Int) : Int) := oa
        have q193 : (l1.length : Int) < (x0_2.length : Int) := oa
        obtain ⟨ad193, e193, hx193_0⟩ := Kd.at_int (Kd.Wn_reads' HO_0.out).2.2 (l1.length : Int) p193 q193
        obtain rfl : ad181 = ad193 := (by injection e193)
        (try simp only [Go.IntWalk.toNatUp] at hx193_0)
        (try simp only [hl0_2] at p193)
        (try simp only [hl0_2] at q193)
        (try simp only [hl0_2] at hx193_0)
        replace p193 := eq_true p193
        replace q193 := eq_true q193
        go_wp2_with (first | (go_at_call 167; (with_reducible refine (bits_Sub32.calls (rd x0_2 (l1.length : Int)) ((x9_2) % 4294967296) x10_2 t194 t195 _ A33.out).mono ?_); rintro e w' ⟨rfl, ⟨nd, rfl⟩⟩; (try exact dw); have p34 : 0 ≤ ((l1.length : Int) : Int) := oa; have q34 : ((l1.length : Int) : Int) < ((x0_2.length : Int) : Int) := oa; obtain ⟨go34, oo34, co34, eo34, gb34, gl34, cl34, HG34⟩ := Kd.Wn_form HO_0.out (by omega); (first | cases eo34 | (injection eo34 with ea_ en_ ec_; (first | subst ea_ | (injection ea_ with ea_; subst ea_)); subst ec_; clear en_)); have GB34 := Aside0.mk gb34; have GG34 := Aside0.mk HG34; clear gb34 gl34 HG34; have HMgo34 := Aside0.mk (show (P0_ go34 ∨ w.heap.size ≤ go34) from (HO_0.out.1 _ rfl)); (first | simp only [add_at] at hx193_0 | skip); obtain ⟨hx34_0, hf34_0⟩ := Kd.Wn_cell 0 HO_0.out ((l1.length : Int) : Int) p34 q34; replace p34 := eq_true p34; replace q34 := eq_true q34; obtain ⟨hy36_, hz36_⟩ := Kd.Wn_cell 0 HO_0.out ((l1.length : Int) : Int) oa oa; (try simp only [Go.IntWalk.toNatUp] at hy36_ hz36_); have HP36 := Kd.Wn_putg HO_0.out ((l1.length : Int) : Int) oa (by have h_ : ((l1.length : Int) : Int) < ((x0_2.length : Int) : Int) := oa; first | exact h_ | (have e_ := (Kd.Wn_reads' HO_0.out).1; omega) | simpa using h_) t194) | ((with_reducible refine gate_store (t := 52) (p := 125) rfl ?_); (try (rw [drewN_self wr]; generalize hq_ : World.drewN wr _ = wr; have n0_ := Aside0.mk (Kd.Wn_at hq_ HO_0.out); have n1_ := Aside0.mk (kept_at hq_ HK.out); have n2_ := Aside0.mk (below_at hq_ HB.out); clear hq_ HO_0 HK HB; have HO_0 := n0_; have HK := n1_; have HB := n2_; clear n0_ n1_ n2_; (try (obtain ⟨hy36_, hz36_⟩ := Kd.Wn_cell 0 HO_0.out ((l1.length : Int) : Int) oa oa)); (try (try simp only [Go.IntWalk.toNatUp] at hy36_ hz36_)); (try (have HP36 := Kd.Wn_putg HO_0.out ((l1.length : Int) : Int) oa (by have h_ : ((l1.length : Int) : Int) < ((x0_2.length : Int) : Int) := oa; first | exact h_ | (have e_ := (Kd.Wn_reads' HO_0.out).1; omega) | simpa using h_) t194)))); refine se 52 125 (w1 := (wr.setCell ⟨go34, oo34 + ((l1.length : Int) : Int).toNat, none⟩ (.int .u32 t194))) ?_; intro w37 hw; have hg : wr.grownBy w37 (some go34) := (by rw [hw]; exact HP36.2); have hp_ : Kd.Wn pre_ post_ 52 w37 w0.heap.size (fun k_ => (P0_ k_ ∨ w.heap.size ≤ k_)) (.slice (some ⟨go34, oo34, none⟩) x0_2.length co11) y196 := (by rw [hw, Ny196.out]; exact HP36.1); clear HP36; replace HB := Aside0.mk ((by rw [hw]; exact below_set (HB.out) GB34.out : Below w0.heap.size w0 w37)); replace HK := Aside0.mk (Kept.of_grown (S := (fun k_ => P0_ k_)) hg (by repeat (first | (with_reducible first | exact HK.out | apply Kept.alloc | apply Kept.drewN | apply Kept.drew) | exact HK.out)) (fun k_ e_ => (HO_0.out.1 k_ e_))); replace HO_0 := Aside0.mk (hp_); clear hg hw hp_))
        repeat (go_quiet (first | (go_at_call 167; (with_reducible refine (bits_Sub32.calls (rd x0_2 (l1.length : Int)) ((x9_2) % 4294967296) x10_2 t194 t195 _ A33.out).mono ?_); rintro e w' ⟨rfl, ⟨nd, rfl⟩⟩; (try exact dw); have p34 : 0 ≤ ((l1.length : Int) : Int) := oa; have q34 : ((l1.length : Int) : Int) < ((x0_2.length : Int) : Int) := oa; obtain ⟨go34, oo34, co34, eo34, gb34, gl34, cl34, HG34⟩ := Kd.Wn_form HO_0.out (by omega); (first | cases eo34 | (injection eo34 with ea_ en_ ec_; (first | subst ea_ | (injection ea_ with ea_; subst ea_)); subst ec_; clear en_)); have GB34 := Aside0.mk gb34; have GG34 := Aside0.mk HG34; clear gb34 gl34 HG34; have HMgo34 := Aside0.mk (show (P0_ go34 ∨ w.heap.size ≤ go34) from (HO_0.out.1 _ rfl)); (first | simp only [add_at] at hx193_0 | skip); obtain ⟨hx34_0, hf34_0⟩ := Kd.Wn_cell 0 HO_0.out ((l1.length : Int) : Int) p34 q34; replace p34 := eq_true p34; replace q34 := eq_true q34; obtain ⟨hy36_, hz36_⟩ := Kd.Wn_cell 0 HO_0.out ((l1.length : Int) : Int) oa oa; (try simp only [Go.IntWalk.toNatUp] at hy36_ hz36_); have HP36 := Kd.Wn_putg HO_0.out ((l1.length : Int) : Int) oa (by have h_ : ((l1.length : Int) : Int) < ((x0_2.length : Int) : Int) := oa; first | exact h_ | (have e_ := (Kd.Wn_reads' HO_0.out).1; omega) | simpa using h_) t194) | ((with_reducible refine gate_store (t := 52) (p := 125) rfl ?_); (try (rw [drewN_self wr]; generalize hq_ : World.drewN wr _ = wr; have n0_ := Aside0.mk (Kd.Wn_at hq_ HO_0.out); have n1_ := Aside0.mk (kept_at hq_ HK.out); have n2_ := Aside0.mk (below_at hq_ HB.out); clear hq_ HO_0 HK HB; have HO_0 := n0_; have HK := n1_; have HB := n2_; clear n0_ n1_ n2_; (try (obtain ⟨hy36_, hz36_⟩ := Kd.Wn_cell 0 HO_0.out ((l1.length : Int) : Int) oa oa)); (try (try simp only [Go.IntWalk.toNatUp] at hy36_ hz36_)); (try (have HP36 := Kd.Wn_putg HO_0.out ((l1.length : Int) : Int) oa (by have h_ : ((l1.length : Int) : Int) < ((x0_2.length : Int) : Int) := oa; first | exact h_ | (have e_ := (Kd.Wn_reads' HO_0.out).1; omega) | simpa using h_) t194)))); refine se 52 125 (w1 := (wr.setCell ⟨go34, oo34 + ((l1.length : Int) : Int).toNat, none⟩ (.int .u32 t194))) ?_; intro w37 hw; have hg : wr.grownBy w37 (some go34) := (by rw [hw]; exact HP36.2); have hp_ : Kd.Wn pre_ post_ 52 w37 w0.heap.size (fun k_ => (P0_ k_ ∨ w.heap.size ≤ k_)) (.slice (some ⟨go34, oo34, none⟩) x0_2.length co11) y196 := (by rw [hw, Ny196.out]; exact HP36.1); clear HP36; replace HB := Aside0.mk ((by rw [hw]; exact below_set (HB.out) GB34.out : Below w0.heap.size w0 w37)); replace HK := Aside0.mk (Kept.of_grown (S := (fun k_ => P0_ k_)) hg (by repeat (first | (with_reducible first | exact HK.out | apply Kept.alloc | apply Kept.drewN | apply Kept.drew) | exact HK.out)) (fun k_ e_ => (HO_0.out.1 k_ e_))); replace HO_0 := Aside0.mk (hp_); clear hg hw hp_)); try go_wp2_with (first | (go_at_call 167; (with_reducible refine (bits_Sub32.calls (rd x0_2 (l1.length : Int)) ((x9_2) % 4294967296) x10_2 t194 t195 _ A33.out).mono ?_); rintro e w' ⟨rfl, ⟨nd, rfl⟩⟩; (try exact dw); have p34 : 0 ≤ ((l1.length : Int) : Int) := oa; have q34 : ((l1.length : Int) : Int) < ((x0_2.length : Int) : Int) := oa; obtain ⟨go34, oo34, co34, eo34, gb34, gl34, cl34, HG34⟩ := Kd.Wn_form HO_0.out (by omega); (first | cases eo34 | (injection eo34 with ea_ en_ ec_; (first | subst ea_ | (injection ea_ with ea_; subst ea_)); subst ec_; clear en_)); have GB34 := Aside0.mk gb34; have GG34 := Aside0.mk HG34; clear gb34 gl34 HG34; have HMgo34 := Aside0.mk (show (P0_ go34 ∨ w.heap.size ≤ go34) from (HO_0.out.1 _ rfl)); (first | simp only [add_at] at hx193_0 | skip); obtain ⟨hx34_0, hf34_0⟩ := Kd.Wn_cell 0 HO_0.out ((l1.length : Int) : Int) p34 q34; replace p34 := eq_true p34; replace q34 := eq_true q34; obtain ⟨hy36_, hz36_⟩ := Kd.Wn_cell 0 HO_0.out ((l1.length : Int) : Int) oa oa; (try simp only [Go.IntWalk.toNatUp] at hy36_ hz36_); have HP36 := Kd.Wn_putg HO_0.out ((l1.length : Int) : Int) oa (by have h_ : ((l1.length : Int) : Int) < ((x0_2.length : Int) : Int) := oa; first | exact h_ | (have e_ := (Kd.Wn_reads' HO_0.out).1; omega) | simpa using h_) t194) | ((with_reducible refine gate_store (t := 52) (p := 125) rfl ?_); (try (rw [drewN_self wr]; generalize hq_ : World.drewN wr _ = wr; have n0_ := Aside0.mk (Kd.Wn_at hq_ HO_0.out); have n1_ := Aside0.mk (kept_at hq_ HK.out); have n2_ := Aside0.mk (below_at hq_ HB.out); clear hq_ HO_0 HK HB; have HO_0 := n0_; have HK := n1_; have HB := n2_; clear n0_ n1_ n2_; (try (obtain ⟨hy36_, hz36_⟩ := Kd.Wn_cell 0 HO_0.out ((l1.length : Int) : Int) oa oa)); (try (try simp only [Go.IntWalk.toNatUp] at hy36_ hz36_)); (try (have HP36 := Kd.Wn_putg HO_0.out ((l1.length : Int) : Int) oa (by have h_ : ((l1.length : Int) : Int) < ((x0_2.length : Int) : Int) := oa; first | exact h_ | (have e_ := (Kd.Wn_reads' HO_0.out).1; omega) | simpa using h_) t194)))); refine se 52 125 (w1 := (wr.setCell ⟨go34, oo34 + ((l1.length : Int) : Int).toNat, none⟩ (.int .u32 t194))) ?_; intro w37 hw; have hg : wr.grownBy w37 (some go34) := (by rw [hw]; exact HP36.2); have hp_ : Kd.Wn pre_ post_ 52 w37 w0.heap.size (fun k_ => (P0_ k_ ∨ w.heap.size ≤ k_)) (.slice (some ⟨go34, oo34, none⟩) x0_2.length co11) y196 := (by rw [hw, Ny196.out]; exact HP36.1); clear HP36; replace HB := Aside0.mk ((by rw [hw]; exact below_set (HB.out) GB34.out : Below w0.heap.size w0 w37)); replace HK := Aside0.mk (Kept.of_grown (S := (fun k_ => P0_ k_)) hg (by repeat (first | (with_reducible first | exact HK.out | apply Kept.alloc | apply Kept.drewN | apply Kept.drew) | exact HK.out)) (fun k_ e_ => (HO_0.out.1 k_ e_))); replace HO_0 := Aside0.mk (hp_); clear hg hw hp_)))
        go_ret
        exact ⟨by first | rfl | (simp [errW_none, errW_some] <;> rfl) | (simp only [← hji5]; first | rfl | (simp [errW_none, errW_some] <;> rfl)) | (simp [*, errW_none, errW_some] <;> rfl), (by first | exact (vs HO_0.out) | (simp only [hl0_2]; exact (vs HO_0.out))), bz HB.out, by repeat (first | (with_reducible first | exact HK.out | apply Kept.alloc | apply Kept.drewN | apply Kept.drew) | exact HK.out)⟩
       ·rw [if_neg c35] at H
        have c35b0 := beq_eq_false_iff_ne.mpr c35
        have c35b1 := bne_iff_ne.mpr c35
        have H' := Aside0.mk H
        clear H
        have p193 : 0 ≤ ((l1.length : Int) : Int) := oa
        have q193 : (l1.length : Int) < (x0_2.length : Int) := oa
        obtain ⟨ad193, e193, hx193_0⟩ := Kd.at_int (Kd.Wn_reads' HO_0.out).2.2 (l1.length : Int) p193 q193
        obtain rfl : ad181 = ad193 := (by injection e193)
        (try simp only [Go.IntWalk.toNatUp] at hx193_0)
        (try simp only [hl0_2] at p193)
        (try simp only [hl0_2] at q193)
        (try simp only [hl0_2] at hx193_0)
        replace p193 := eq_true p193
        replace q193 := eq_true q193
        go_wp2_with (first | (go_at_call 167; (with_reducible refine (bits_Sub32.calls (rd x0_2 (l1.length : Int)) ((x9_2) % 4294967296) x10_2 t194 t195 _ A33.out).mono ?_); rintro e w' ⟨rfl, ⟨nd, rfl⟩⟩; (try exact dw); have p34 : 0 ≤ ((l1.length : Int) : Int) := oa; have q34 : ((l1.length : Int) : Int) < ((x0_2.length : Int) : Int) := oa; obtain ⟨go34, oo34, co34, eo34, gb34, gl34, cl34, HG34⟩ := Kd.Wn_form HO_0.out (by omega); (first | cases eo34 | (injection eo34 with ea_ en_ ec_; (first | subst ea_ | (injection ea_ with ea_; subst ea_)); subst ec_; clear en_)); have GB34 := Aside0.mk gb34; have GG34 := Aside0.mk HG34; clear gb34 gl34 HG34; have HMgo34 := Aside0.mk (show (P0_ go34 ∨ w.heap.size ≤ go34) from (HO_0.out.1 _ rfl)); (first | simp only [add_at] at hx193_0 | skip); obtain ⟨hx34_0, hf34_0⟩ := Kd.Wn_cell 0 HO_0.out ((l1.length : Int) : Int) p34 q34; replace p34 := eq_true p34; replace q34 := eq_true q34; obtain ⟨hy38_, hz38_⟩ := Kd.Wn_cell 0 HO_0.out ((l1.length : Int) : Int) oa oa; (try simp only [Go.IntWalk.toNatUp] at hy38_ hz38_); have HP38 := Kd.Wn_putg HO_0.out ((l1.length : Int) : Int) oa (by have h_ : ((l1.length : Int) : Int) < ((x0_2.length : Int) : Int) := oa; first | exact h_ | (have e_ := (Kd.Wn_reads' HO_0.out).1; omega) | simpa using h_) t194) | ((with_reducible refine gate_store (t := 52) (p := 125) rfl ?_); (try (rw [drewN_self wr]; generalize hq_ : World.drewN wr _ = wr; have n0_ := Aside0.mk (Kd.Wn_at hq_ HO_0.out); have n1_ := Aside0.mk (kept_at hq_ HK.out); have n2_ := Aside0.mk (below_at hq_ HB.out); clear hq_ HO_0 HK HB; have HO_0 := n0_; have HK := n1_; have HB := n2_; clear n0_ n1_ n2_; (try (obtain ⟨hy38_, hz38_⟩ := Kd.Wn_cell 0 HO_0.out ((l1.length : Int) : Int) oa oa)); (try (try simp only [Go.IntWalk.toNatUp] at hy38_ hz38_)); (try (have HP38 := Kd.Wn_putg HO_0.out ((l1.length : Int) : Int) oa (by have h_ : ((l1.length : Int) : Int) < ((x0_2.length : Int) : Int) := oa; first | exact h_ | (have e_ := (Kd.Wn_reads' HO_0.out).1; omega) | simpa using h_) t194)))); refine se 52 125 (w1 := (wr.setCell ⟨go34, oo34 + ((l1.length : Int) : Int).toNat, none⟩ (.int .u32 t194))) ?_; intro w39 hw; have hg : wr.grownBy w39 (some go34) := (by rw [hw]; exact HP38.2); have hp_ : Kd.Wn pre_ post_ 52 w39 w0.heap.size (fun k_ => (P0_ k_ ∨ w.heap.size ≤ k_)) (.slice (some ⟨go34, oo34, none⟩) x0_2.length co11) y196 := (by rw [hw, Ny196.out]; exact HP38.1); clear HP38; replace HB := Aside0.mk ((by rw [hw]; exact below_set (HB.out) GB34.out : Below w0.heap.size w0 w39)); replace HK := Aside0.mk (Kept.of_grown (S := (fun k_ => P0_ k_)) hg (by repeat (first | (with_reducible first | exact HK.out | apply Kept.alloc | apply Kept.drewN | apply Kept.drew) | exact HK.out)) (fun k_ e_ => (HO_0.out.1 k_ e_))); replace HO_0 := Aside0.mk (hp_); clear hg hw hp_))
        repeat (go_quiet (first | (go_at_call 167; (with_reducible refine (bits_Sub32.calls (rd x0_2 (l1.length : Int)) ((x9_2) % 4294967296) x10_2 t194 t195 _ A33.out).mono ?_); rintro e w' ⟨rfl, ⟨nd, rfl⟩⟩; (try exact dw); have p34 : 0 ≤ ((l1.length : Int) : Int) := oa; have q34 : ((l1.length : Int) : Int) < ((x0_2.length : Int) : Int) := oa; obtain ⟨go34, oo34, co34, eo34, gb34, gl34, cl34, HG34⟩ := Kd.Wn_form HO_0.out (by omega); (first | cases eo34 | (injection eo34 with ea_ en_ ec_; (first | subst ea_ | (injection ea_ with ea_; subst ea_)); subst ec_; clear en_)); have GB34 := Aside0.mk gb34; have GG34 := Aside0.mk HG34; clear gb34 gl34 HG34; have HMgo34 := Aside0.mk (show (P0_ go34 ∨ w.heap.size ≤ go34) from (HO_0.out.1 _ rfl)); (first | simp only [add_at] at hx193_0 | skip); obtain ⟨hx34_0, hf34_0⟩ := Kd.Wn_cell 0 HO_0.out ((l1.length : Int) : Int) p34 q34; replace p34 := eq_true p34; replace q34 := eq_true q34; obtain ⟨hy38_, hz38_⟩ := Kd.Wn_cell 0 HO_0.out ((l1.length : Int) : Int) oa oa; (try simp only [Go.IntWalk.toNatUp] at hy38_ hz38_); have HP38 := Kd.Wn_putg HO_0.out ((l1.length : Int) : Int) oa (by have h_ : ((l1.length : Int) : Int) < ((x0_2.length : Int) : Int) := oa; first | exact h_ | (have e_ := (Kd.Wn_reads' HO_0.out).1; omega) | simpa using h_) t194) | ((with_reducible refine gate_store (t := 52) (p := 125) rfl ?_); (try (rw [drewN_self wr]; generalize hq_ : World.drewN wr _ = wr; have n0_ := Aside0.mk (Kd.Wn_at hq_ HO_0.out); have n1_ := Aside0.mk (kept_at hq_ HK.out); have n2_ := Aside0.mk (below_at hq_ HB.out); clear hq_ HO_0 HK HB; have HO_0 := n0_; have HK := n1_; have HB := n2_; clear n0_ n1_ n2_; (try (obtain ⟨hy38_, hz38_⟩ := Kd.Wn_cell 0 HO_0.out ((l1.length : Int) : Int) oa oa)); (try (try simp only [Go.IntWalk.toNatUp] at hy38_ hz38_)); (try (have HP38 := Kd.Wn_putg HO_0.out ((l1.length : Int) : Int) oa (by have h_ : ((l1.length : Int) : Int) < ((x0_2.length : Int) : Int) := oa; first | exact h_ | (have e_ := (Kd.Wn_reads' HO_0.out).1; omega) | simpa using h_) t194)))); refine se 52 125 (w1 := (wr.setCell ⟨go34, oo34 + ((l1.length : Int) : Int).toNat, none⟩ (.int .u32 t194))) ?_; intro w39 hw; have hg : wr.grownBy w39 (some go34) := (by rw [hw]; exact HP38.2); have hp_ : Kd.Wn pre_ post_ 52 w39 w0.heap.size (fun k_ => (P0_ k_ ∨ w.heap.size ≤ k_)) (.slice (some ⟨go34, oo34, none⟩) x0_2.length co11) y196 := (by rw [hw, Ny196.out]; exact HP38.1); clear HP38; replace HB := Aside0.mk ((by rw [hw]; exact below_set (HB.out) GB34.out : Below w0.heap.size w0 w39)); replace HK := Aside0.mk (Kept.of_grown (S := (fun k_ => P0_ k_)) hg (by repeat (first | (with_reducible first | exact HK.out | apply Kept.alloc | apply Kept.drewN | apply Kept.drew) | exact HK.out)) (fun k_ e_ => (HO_0.out.1 k_ e_))); replace HO_0 := Aside0.mk (hp_); clear hg hw hp_)); try go_wp2_with (first | (go_at_call 167; (with_reducible refine (bits_Sub32.calls (rd x0_2 (l1.length : Int)) ((x9_2) % 4294967296) x10_2 t194 t195 _ A33.out).mono ?_); rintro e w' ⟨rfl, ⟨nd, rfl⟩⟩; (try exact dw); have p34 : 0 ≤ ((l1.length : Int) : Int) := oa; have q34 : ((l1.length : Int) : Int) < ((x0_2.length : Int) : Int) := oa; obtain ⟨go34, oo34, co34, eo34, gb34, gl34, cl34, HG34⟩ := Kd.Wn_form HO_0.out (by omega); (first | cases eo34 | (injection eo34 with ea_ en_ ec_; (first | subst ea_ | (injection ea_ with ea_; subst ea_)); subst ec_; clear en_)); have GB34 := Aside0.mk gb34; have GG34 := Aside0.mk HG34; clear gb34 gl34 HG34; have HMgo34 := Aside0.mk (show (P0_ go34 ∨ w.heap.size ≤ go34) from (HO_0.out.1 _ rfl)); (first | simp only [add_at] at hx193_0 | skip); obtain ⟨hx34_0, hf34_0⟩ := Kd.Wn_cell 0 HO_0.out ((l1.length : Int) : Int) p34 q34; replace p34 := eq_true p34; replace q34 := eq_true q34; obtain ⟨hy38_, hz38_⟩ := Kd.Wn_cell 0 HO_0.out ((l1.length : Int) : Int) oa oa; (try simp only [Go.IntWalk.toNatUp] at hy38_ hz38_); have HP38 := Kd.Wn_putg HO_0.out ((l1.length : Int) : Int) oa (by have h_ : ((l1.length : Int) : Int) < ((x0_2.length : Int) : Int) := oa; first | exact h_ | (have e_ := (Kd.Wn_reads' HO_0.out).1; omega) | simpa using h_) t194) | ((with_reducible refine gate_store (t := 52) (p := 125) rfl ?_); (try (rw [drewN_self wr]; generalize hq_ : World.drewN wr _ = wr; have n0_ := Aside0.mk (Kd.Wn_at hq_ HO_0.out); have n1_ := Aside0.mk (kept_at hq_ HK.out); have n2_ := Aside0.mk (below_at hq_ HB.out); clear hq_ HO_0 HK HB; have HO_0 := n0_; have HK := n1_; have HB := n2_; clear n0_ n1_ n2_; (try (obtain ⟨hy38_, hz38_⟩ := Kd.Wn_cell 0 HO_0.out ((l1.length : Int) : Int) oa oa)); (try (try simp only [Go.IntWalk.toNatUp] at hy38_ hz38_)); (try (have HP38 := Kd.Wn_putg HO_0.out ((l1.length : Int) : Int) oa (by have h_ : ((l1.length : Int) : Int) < ((x0_2.length : Int) : Int) := oa; first | exact h_ | (have e_ := (Kd.Wn_reads' HO_0.out).1; omega) | simpa using h_) t194)))); refine se 52 125 (w1 := (wr.setCell ⟨go34, oo34 + ((l1.length : Int) : Int).toNat, none⟩ (.int .u32 t194))) ?_; intro w39 hw; have hg : wr.grownBy w39 (some go34) := (by rw [hw]; exact HP38.2); have hp_ : Kd.Wn pre_ post_ 52 w39 w0.heap.size (fun k_ => (P0_ k_ ∨ w.heap.size ≤ k_)) (.slice (some ⟨go34, oo34, none⟩) x0_2.length co11) y196 := (by rw [hw, Ny196.out]; exact HP38.1); clear HP38; replace HB := Aside0.mk ((by rw [hw]; exact below_set (HB.out) GB34.out : Below w0.heap.size w0 w39)); replace HK := Aside0.mk (Kept.of_grown (S := (fun k_ => P0_ k_)) hg (by repeat (first | (with_reducible first | exact HK.out | apply Kept.alloc | apply Kept.drewN | apply Kept.drew) | exact HK.out)) (fun k_ e_ => (HO_0.out.1 k_ e_))); replace HO_0 := Aside0.mk (hp_); clear hg hw hp_)))
        go_loopg [14, 132] k2 (fun kq v14 v132 w' => ∃ (x0_3 : List Int) (x14_3 : Int) (x132_3 : Int), v14 = .int .u32 x14_3 ∧ v132 = .int .i64 x132_3 ∧ Aside0 (natural_step.l2 kq x0_3 (l1.length : Int) x7_9 x14_3 l1 (l1.length : Int) x132_3 = some (r1, r2)) ∧ Aside0 (kq ≤ k2) ∧ Aside0 (Kd.Wn pre_ post_ 52 w' w0.heap.size (fun k_ => (P0_ k_ ∨ w.heap.size ≤ k_)) (.slice (some ⟨go34, oo34, none⟩) x0_2.length co11) x0_3) ∧ Aside0 (Kept w w' (fun k_ => P0_ k_)) ∧ Aside0 (Below w0.heap.size w0 w'))
        case atStart => exact ⟨(y196), (0), (0), fs, fs, H', ⟨Nat.le_refl _⟩, ⟨by (try simp only [hl0_2]); (with_reducible repeat (first | apply Kd.Wn_alloc | apply Kd.Wn_drewN | apply Kd.Wn_drew)); exact HO_0.out⟩, ⟨by repeat (first | (with_reducible first | exact HK.out | apply Kept.alloc | apply Kept.drewN | apply Kept.drew) | exact HK.out)⟩, ⟨bz HB.out⟩⟩
        case round =>
         clear H'
         (try clear c1); (try clear c3b0); (try clear c3b1); (try clear c4b0); (try clear c4b1); (try clear c6b0); (try clear c7b0); (try clear c8b0); (try clear c9); (try clear c9b0); (try clear c9b1); (try clear c13b0); (try clear c15b0); (try clear c16b0); (try clear c17b0); (try clear c18); (try clear c20b0); (try clear c21b0); (try clear c22b0); (try clear c23b0); (try clear c24b0); (try clear c25b0); (try clear c26b0); (try clear p28); (try clear q28); (try clear c31b0); (try clear c31b1); (try clear c32b0); (try clear c32b1); (try clear p34); (try clear q34); (try clear c35b0); (try clear c35b1); (try clear hx181_0); (try clear hx182_0); (try clear hx183_0); (try clear hx184_0); (try clear hx185_0); (try clear hx186_0); (try clear hx187_0); (try clear hx188_0); (try clear hx189_0); (try clear hx193_0); (try clear hx28_0); (try clear hx34_0); (try clear p181); (try clear p182); (try clear p183); (try clear p184); (try clear p185); (try clear p186); (try clear p187); (try clear p188); (try clear p189); (try clear p193); (try clear p28); (try clear p34); (try clear q181); (try clear q182); (try clear q183); (try clear q184); (try clear q185); (try clear q186); (try clear q187); (try clear q188); (try clear q189); (try clear q193); (try clear q28); (try clear q34)
         obtain ⟨x0_3, x14_3, x132_3, rfl, rfl, HA, HK3, HO_0, HK, HB⟩ := hrel
         have hl0_3 := (Kd.Wn_reads' HO_0.out).1
         rw [hl0_3] at HO_0
         (try simp only [hl0_3])
         cases gk with
         | zero => exact absurd HA.out (by simp [natural_step.l2])
         | succ k3 =>
          have H := HA.out
          clear HA
          simp only [natural_step.l2] at H
          by_cases c40 : x132_3 < (l1.length : Int)
          ·rw [if_pos c40] at H
           have c40b0 : decide (x132_3 < (l1.length : Int)) = true := decide_eq_true c40
           (try (have c40b0_hl0_2 := c40b0; rw [hl0_2] at c40b0_hl0_2))
           (try (have c40b0_hl0_3 := c40b0; rw [hl0_3] at c40b0_hl0_3))
           clear c40
           obtain ⟨c41, H⟩ := iN H
           have c41b0 : decide (0 ≤ x132_3) = true := decide_eq_true c41
           clear c41
           obtain ⟨c42, H⟩ := iN H
           have c42b0 : decide (x132_3 < (l1.length : Int)) = true := decide_eq_true c42
           (try (have c42b0_hl0_2 := c42b0; rw [hl0_2] at c42b0_hl0_2))
           (try (have c42b0_hl0_3 := c42b0; rw [hl0_3] at c42b0_hl0_3))
           clear c42
           obtain ⟨c43, H⟩ := iN H
           have c43b0 : decide (x132_3 < (x0_3.length : Int)) = true := decide_eq_true c43
           (try (have c43b0_hl0_2 := c43b0; rw [hl0_2] at c43b0_hl0_2))
           (try (have c43b0_hl0_3 := c43b0; rw [hl0_3] at c43b0_hl0_3))
           clear c43
           obtain ⟨⟨t199, t200⟩, A44, H⟩ := bs1 H; dsimp only at H
           obtain ⟨y201, hy201⟩ : ∃ y_ : List Int, y_ = (x0_3.set (x132_3 : Int).toNat t199) := ⟨_, rfl⟩
           (try first | rw [← hy201] at H | (dsimp only at H; rw [← hy201] at H)); (try rw [Option.bind_some] at H)
           have Ny201 := Aside0.mk hy201
           clear hy201
           have H' := Aside0.mk H
           clear H
           have p197 : 0 ≤ (x132_3 : Int) := oa
           have q197 : x132_3 < (l1.length : Int) := oa
           obtain ⟨ad197, e197, hx197_0⟩ := Kd.at_int (Kd.C_kept_now HR1.out HK.out) x132_3 p197 q197
           obtain rfl : ad183 = ad197 := (by injection e197)
           replace p197 := eq_true p197
           replace q197 := eq_true q197
           have p198 : 0 ≤ (x132_3 : Int) := oa
           have q198 : x132_3 < (x0_3.length : Int) := oa
           obtain ⟨ad198, e198, hx198_0⟩ := Kd.at_int (Kd.Wn_reads' HO_0.out).2.2 x132_3 p198 q198
           obtain rfl : (⟨go34, oo34, none⟩ : Addr) = ad198 := (by injection e198)
           (first | simp only [add_plain] at hx198_0 | simp only [add_at] at hx198_0 | simp only [Addr.add, Nat.zero_add] at hx198_0 | skip)
           replace p198 := eq_true p198
           replace q198 := eq_true q198
           go_wp2_with (first | (go_at_call 110; (with_reducible refine (bits_Add32.calls (rd x0_3 x132_3) (rd l1 x132_3) x14_3 t199 t200 _ A44.out).mono ?_); rintro e w' ⟨rfl, ⟨nd, rfl⟩⟩; (try exact dw); have p45 : 0 ≤ (x132_3 : Int) := oa; have q45 : (x132_3 : Int) < ((x0_3.length : Int) : Int) := oa; obtain ⟨hx45_0, hf45_0⟩ := Kd.Wn_cell 0 HO_0.out (x132_3 : Int) p45 q45; replace p45 := eq_true p45; replace q45 := eq_true q45; obtain ⟨hy46_, hz46_⟩ := Kd.Wn_cell 0 HO_0.out (x132_3 : Int) oa oa; have HP46 := Kd.Wn_putg HO_0.out (x132_3 : Int) oa (by have h_ : (x132_3 : Int) < ((x0_3.length : Int) : Int) := oa; first | exact h_ | (have e_ := (Kd.Wn_reads' HO_0.out).1; omega) | simpa using h_) t199) | ((with_reducible refine gate_store (t := 52) (p := 149) rfl ?_); (try (rw [drewN_self wr]; generalize hq_ : World.drewN wr _ = wr; have n0_ := Aside0.mk (Kd.Wn_at hq_ HO_0.out); have n1_ := Aside0.mk (kept_at hq_ HK.out); have n2_ := Aside0.mk (below_at hq_ HB.out); clear hq_ HO_0 HK HB; have HO_0 := n0_; have HK := n1_; have HB := n2_; clear n0_ n1_ n2_; (try (obtain ⟨hy46_, hz46_⟩ := Kd.Wn_cell 0 HO_0.out (x132_3 : Int) oa oa)); (try (have HP46 := Kd.Wn_putg HO_0.out (x132_3 : Int) oa (by have h_ : (x132_3 : Int) < ((x0_3.length : Int) : Int) := oa; first | exact h_ | (have e_ := (Kd.Wn_reads' HO_0.out).1; omega) | simpa using h_) t199)))); refine se 52 149 (w1 := (wr.setCell ⟨go34, oo34 + (x132_3 : Int).toNat, none⟩ (.int .u32 t199))) ?_; intro w47 hw; have hg : wr.grownBy w47 (some go34) := (by rw [hw]; exact HP46.2); have hp_ : Kd.Wn pre_ post_ 52 w47 w0.heap.size (fun k_ => (P0_ k_ ∨ w.heap.size ≤ k_)) (.slice (some ⟨go34, oo34, none⟩) x0_3.length co11) y201 := (by rw [hw, Ny201.out]; exact HP46.1); clear HP46; replace HB := Aside0.mk ((by rw [hw]; exact below_set (HB.out) GB34.out : Below w0.heap.size w0 w47)); replace HK := Aside0.mk (Kept.of_grown (S := (fun k_ => P0_ k_)) hg (by repeat (first | (with_reducible first | exact HK.out | apply Kept.alloc | apply Kept.drewN | apply Kept.drew) | exact HK.out)) (fun k_ e_ => (HO_0.out.1 k_ e_))); replace HO_0 := Aside0.mk (hp_); clear hg hw hp_))
           repeat (go_quiet (first | (go_at_call 110; (with_reducible refine (bits_Add32.calls (rd x0_3 x132_3) (rd l1 x132_3) x14_3 t199 t200 _ A44.out).mono ?_); rintro e w' ⟨rfl, ⟨nd, rfl⟩⟩; (try exact dw); have p45 : 0 ≤ (x132_3 : Int) := oa; have q45 : (x132_3 : Int) < ((x0_3.length : Int) : Int) := oa; obtain ⟨hx45_0, hf45_0⟩ := Kd.Wn_cell 0 HO_0.out (x132_3 : Int) p45 q45; replace p45 := eq_true p45; replace q45 := eq_true q45; obtain ⟨hy46_, hz46_⟩ := Kd.Wn_cell 0 HO_0.out (x132_3 : Int) oa oa; have HP46 := Kd.Wn_putg HO_0.out (x132_3 : Int) oa (by have h_ : (x132_3 : Int) < ((x0_3.length : Int) : Int) := oa; first | exact h_ | (have e_ := (Kd.Wn_reads' HO_0.out).1; omega) | simpa using h_) t199) | ((with_reducible refine gate_store (t := 52) (p := 149) rfl ?_); (try (rw [drewN_self wr]; generalize hq_ : World.drewN wr _ = wr; have n0_ := Aside0.mk (Kd.Wn_at hq_ HO_0.out); have n1_ := Aside0.mk (kept_at hq_ HK.out); have n2_ := Aside0.mk (below_at hq_ HB.out); clear hq_ HO_0 HK HB; have HO_0 := n0_; have HK := n1_; have HB := n2_; clear n0_ n1_ n2_; (try (obtain ⟨hy46_, hz46_⟩ := Kd.Wn_cell 0 HO_0.out (x132_3 : Int) oa oa)); (try (have HP46 := Kd.Wn_putg HO_0.out (x132_3 : Int) oa (by have h_ : (x132_3 : Int) < ((x0_3.length : Int) : Int) := oa; first | exact h_ | (have e_ := (Kd.Wn_reads' HO_0.out).1; omega) | simpa using h_) t199)))); refine se 52 149 (w1 := (wr.setCell ⟨go34, oo34 + (x132_3 : Int).toNat, none⟩ (.int .u32 t199))) ?_; intro w47 hw; have hg : wr.grownBy w47 (some go34) := (by rw [hw]; exact HP46.2); have hp_ : Kd.Wn pre_ post_ 52 w47 w0.heap.size (fun k_ => (P0_ k_ ∨ w.heap.size ≤ k_)) (.slice (some ⟨go34, oo34, none⟩) x0_3.length co11) y201 := (by rw [hw, Ny201.out]; exact HP46.1); clear HP46; replace HB := Aside0.mk ((by rw [hw]; exact below_set (HB.out) GB34.out : Below w0.heap.size w0 w47)); replace HK := Aside0.mk (Kept.of_grown (S := (fun k_ => P0_ k_)) hg (by repeat (first | (with_reducible first | exact HK.out | apply Kept.alloc | apply Kept.drewN | apply Kept.drew) | exact HK.out)) (fun k_ e_ => (HO_0.out.1 k_ e_))); replace HO_0 := Aside0.mk (hp_); clear hg hw hp_)); try go_wp2_with (first | (go_at_call 110; (with_reducible refine (bits_Add32.calls (rd x0_3 x132_3) (rd l1 x132_3) x14_3 t199 t200 _ A44.out).mono ?_); rintro e w' ⟨rfl, ⟨nd, rfl⟩⟩; (try exact dw); have p45 : 0 ≤ (x132_3 : Int) := oa; have q45 : (x132_3 : Int) < ((x0_3.length : Int) : Int) := oa; obtain ⟨hx45_0, hf45_0⟩ := Kd.Wn_cell 0 HO_0.out (x132_3 : Int) p45 q45; replace p45 := eq_true p45; replace q45 := eq_true q45; obtain ⟨hy46_, hz46_⟩ := Kd.Wn_cell 0 HO_0.out (x132_3 : Int) oa oa; have HP46 := Kd.Wn_putg HO_0.out (x132_3 : Int) oa (by have h_ : (x132_3 : Int) < ((x0_3.length : Int) : Int) := oa; first | exact h_ | (have e_ := (Kd.Wn_reads' HO_0.out).1; omega) | simpa using h_) t199) | ((with_reducible refine gate_store (t := 52) (p := 149) rfl ?_); (try (rw [drewN_self wr]; generalize hq_ : World.drewN wr _ = wr; have n0_ := Aside0.mk (Kd.Wn_at hq_ HO_0.out); have n1_ := Aside0.mk (kept_at hq_ HK.out); have n2_ := Aside0.mk (below_at hq_ HB.out); clear hq_ HO_0 HK HB; have HO_0 := n0_; have HK := n1_; have HB := n2_; clear n0_ n1_ n2_; (try (obtain ⟨hy46_, hz46_⟩ := Kd.Wn_cell 0 HO_0.out (x132_3 : Int) oa oa)); (try (have HP46 := Kd.Wn_putg HO_0.out (x132_3 : Int) oa (by have h_ : (x132_3 : Int) < ((x0_3.length : Int) : Int) := oa; first | exact h_ | (have e_ := (Kd.Wn_reads' HO_0.out).1; omega) | simpa using h_) t199)))); refine se 52 149 (w1 := (wr.setCell ⟨go34, oo34 + (x132_3 : Int).toNat, none⟩ (.int .u32 t199))) ?_; intro w47 hw; have hg : wr.grownBy w47 (some go34) := (by rw [hw]; exact HP46.2); have hp_ : Kd.Wn pre_ post_ 52 w47 w0.heap.size (fun k_ => (P0_ k_ ∨ w.heap.size ≤ k_)) (.slice (some ⟨go34, oo34, none⟩) x0_3.length co11) y201 := (by rw [hw, Ny201.out]; exact HP46.1); clear HP46; replace HB := Aside0.mk ((by rw [hw]; exact below_set (HB.out) GB34.out : Below w0.heap.size w0 w47)); replace HK := Aside0.mk (Kept.of_grown (S := (fun k_ => P0_ k_)) hg (by repeat (first | (with_reducible first | exact HK.out | apply Kept.alloc | apply Kept.drewN | apply Kept.drew) | exact HK.out)) (fun k_ e_ => (HO_0.out.1 k_ e_))); replace HO_0 := Aside0.mk (hp_); clear hg hw hp_)))
           (try simp only [← hl0_3])
           (try simp only [add_at] at *)
           go_roundg k3
           case measure => have := HJ9.out; have := HK2.out; have := HK3.out; omega
           case rel => exact ⟨(y201), (t200), (wrap64 (x132_3 + 1)), fs, fs, H', ⟨by have := HJ9.out; have := HK2.out; have := HK3.out; omega⟩, ⟨by (try simp only [hl0_2]); (try simp only [hl0_3]); (with_reducible repeat (first | apply Kd.Wn_alloc | apply Kd.Wn_drewN | apply Kd.Wn_drew)); exact HO_0.out⟩, ⟨by repeat (first | (with_reducible first | exact HK.out | apply Kept.alloc | apply Kept.drewN | apply Kept.drew) | exact HK.out)⟩, ⟨bz HB.out⟩⟩
          ·rw [if_neg c40] at H
           have c40b0 : decide (x132_3 < (l1.length : Int)) = false := decide_eq_false c40
           (try (have c40b0_hl0_2 := c40b0; rw [hl0_2] at c40b0_hl0_2))
           (try (have c40b0_hl0_3 := c40b0; rw [hl0_3] at c40b0_hl0_3))
           clear c40
           obtain ⟨c48, H⟩ := iN H
           have c48b0 : decide (0 ≤ (l1.length : Int)) = true := decide_eq_true c48
           (try (have c48b0_hl0_2 := c48b0; rw [hl0_2] at c48b0_hl0_2))
           (try (have c48b0_hl0_3 := c48b0; rw [hl0_3] at c48b0_hl0_3))
           have c48b1 : decide (0 ≤ l1.length) = true := decide_eq_true (by omega)
           (try (have c48b1_hl0_2 := c48b1; rw [hl0_2] at c48b1_hl0_2))
           (try (have c48b1_hl0_3 := c48b1; rw [hl0_3] at c48b1_hl0_3))
           clear c48
           obtain ⟨c49, H⟩ := iN H
           have c49b0 : decide ((l1.length : Int) < (x0_3.length : Int)) = true := decide_eq_true c49
           (try (have c49b0_hl0_2 := c49b0; rw [hl0_2] at c49b0_hl0_2))
           (try (have c49b0_hl0_3 := c49b0; rw [hl0_3] at c49b0_hl0_3))
           have c49b1 : decide (l1.length < x0_3.length) = true := decide_eq_true (Int.ofNat_lt.mp c49)
           (try (have c49b1_hl0_2 := c49b1; rw [hl0_2] at c49b1_hl0_2))
           (try (have c49b1_hl0_3 := c49b1; rw [hl0_3] at c49b1_hl0_3))
           clear c49
           obtain ⟨y203, hy203⟩ : ∃ y_ : List Int, y_ = (x0_3.set ((l1.length : Int) : Int).toNat (((rd x0_3 (l1.length : Int)) + x14_3) % 4294967296)) := ⟨_, rfl⟩
           (try first | rw [← hy203] at H | (dsimp only at H; rw [← hy203] at H)); (try rw [Option.bind_some] at H)
           have Ny203 := Aside0.mk hy203
           clear hy203
           simp only [Option.some.injEq, Prod.mk.injEq] at H
           obtain ⟨rfl, rfl⟩ := H
           have p202 : 0 ≤ ((l1.length : Int) : Int) := oa
           have q202 : (l1.length : Int) < (x0_3.length : Int) := oa
           obtain ⟨ad202, e202, hx202_0⟩ := Kd.at_int (Kd.Wn_reads' HO_0.out).2.2 (l1.length : Int) p202 q202
           obtain rfl : (⟨go34, oo34, none⟩ : Addr) = ad202 := (by injection e202)
           (first | simp only [add_plain] at hx202_0 | simp only [add_at] at hx202_0 | simp only [Addr.add, Nat.zero_add] at hx202_0 | skip)
           (try simp only [Go.IntWalk.toNatUp] at hx202_0)
           (try simp only [hl0_2, hl0_3] at p202)
           (try simp only [hl0_2, hl0_3] at q202)
           (try simp only [hl0_2, hl0_3] at hx202_0)
           replace p202 := eq_true p202
           replace q202 := eq_true q202
           have p50 : 0 ≤ ((l1.length : Int) : Int) := oa
           have q50 : ((l1.length : Int) : Int) < ((x0_3.length : Int) : Int) := oa
           obtain ⟨hx50_0, hf50_0⟩ := Kd.Wn_cell 0 HO_0.out ((l1.length : Int) : Int) p50 q50
           (try simp only [Int.toNat_natCast] at hx50_0); (try simp only [Int.toNat_natCast] at hf50_0)
           replace p50 := eq_true p50
           replace q50 := eq_true q50
           have HP51 := Kd.Wn_putg HO_0.out ((l1.length : Int) : Int) oa (by have h_ : ((l1.length : Int) : Int) < ((x0_3.length : Int) : Int) := oa; first | exact h_ | (have e_ := (Kd.Wn_reads' HO_0.out).1; omega) | simpa using h_) (((rd x0_3 (l1.length : Int)) + x14_3) % 4294967296)
           go_wp2_with (first | ((with_reducible refine gate_store (t := 52) (p := 157) rfl ?_); (try (rw [drewN_self wr]; generalize hq_ : World.drewN wr _ = wr; have n0_ := Aside0.mk (Kd.Wn_at hq_ HO_0.out); have n1_ := Aside0.mk (kept_at hq_ HK.out); have n2_ := Aside0.mk (below_at hq_ HB.out); clear hq_ HO_0 HK HB; have HO_0 := n0_; have HK := n1_; have HB := n2_; clear n0_ n1_ n2_; (try (have HP51 := Kd.Wn_putg HO_0.out ((l1.length : Int) : Int) oa (by have h_ : ((l1.length : Int) : Int) < ((x0_3.length : Int) : Int) := oa; first | exact h_ | (have e_ := (Kd.Wn_reads' HO_0.out).1; omega) | simpa using h_) (((rd x0_3 (l1.length : Int)) + x14_3) % 4294967296))))); refine se 52 157 (w1 := (wr.setCell ⟨go34, oo34 + ((l1.length : Int) : Int).toNat, none⟩ (.int .u32 (((rd x0_3 (l1.length : Int)) + x14_3) % 4294967296)))) ?_; intro w52 hw; have hg : wr.grownBy w52 (some go34) := (by rw [hw]; exact HP51.2); have hp_ : Kd.Wn pre_ post_ 52 w52 w0.heap.size (fun k_ => (P0_ k_ ∨ w.heap.size ≤ k_)) (.slice (some ⟨go34, oo34, none⟩) x0_3.length co11) y203 := (by rw [hw, Ny203.out]; exact HP51.1); clear HP51; replace HB := Aside0.mk ((by rw [hw]; exact below_set (HB.out) GB34.out : Below w0.heap.size w0 w52)); replace HK := Aside0.mk (Kept.of_grown (S := (fun k_ => P0_ k_)) hg (by repeat (first | (with_reducible first | exact HK.out | apply Kept.alloc | apply Kept.drewN | apply Kept.drew) | exact HK.out)) (fun k_ e_ => (HO_0.out.1 k_ e_))); replace HO_0 := Aside0.mk (hp_); clear hg hw hp_))
           repeat (go_quiet (first | ((with_reducible refine gate_store (t := 52) (p := 157) rfl ?_); (try (rw [drewN_self wr]; generalize hq_ : World.drewN wr _ = wr; have n0_ := Aside0.mk (Kd.Wn_at hq_ HO_0.out); have n1_ := Aside0.mk (kept_at hq_ HK.out); have n2_ := Aside0.mk (below_at hq_ HB.out); clear hq_ HO_0 HK HB; have HO_0 := n0_; have HK := n1_; have HB := n2_; clear n0_ n1_ n2_; (try (have HP51 := Kd.Wn_putg HO_0.out ((l1.length : Int) : Int) oa (by have h_ : ((l1.length : Int) : Int) < ((x0_3.length : Int) : Int) := oa; first | exact h_ | (have e_ := (Kd.Wn_reads' HO_0.out).1; omega) | simpa using h_) (((rd x0_3 (l1.length : Int)) + x14_3) % 4294967296))))); refine se 52 157 (w1 := (wr.setCell ⟨go34, oo34 + ((l1.length : Int) : Int).toNat, none⟩ (.int .u32 (((rd x0_3 (l1.length : Int)) + x14_3) % 4294967296)))) ?_; intro w52 hw; have hg : wr.grownBy w52 (some go34) := (by rw [hw]; exact HP51.2); have hp_ : Kd.Wn pre_ post_ 52 w52 w0.heap.size (fun k_ => (P0_ k_ ∨ w.heap.size ≤ k_)) (.slice (some ⟨go34, oo34, none⟩) x0_3.length co11) y203 := (by rw [hw, Ny203.out]; exact HP51.1); clear HP51; replace HB := Aside0.mk ((by rw [hw]; exact below_set (HB.out) GB34.out : Below w0.heap.size w0 w52)); replace HK := Aside0.mk (Kept.of_grown (S := (fun k_ => P0_ k_)) hg (by repeat (first | (with_reducible first | exact HK.out | apply Kept.alloc | apply Kept.drewN | apply Kept.drew) | exact HK.out)) (fun k_ e_ => (HO_0.out.1 k_ e_))); replace HO_0 := Aside0.mk (hp_); clear hg hw hp_)); try go_wp2_with (first | ((with_reducible refine gate_store (t := 52) (p := 157) rfl ?_); (try (rw [drewN_self wr]; generalize hq_ : World.drewN wr _ = wr; have n0_ := Aside0.mk (Kd.Wn_at hq_ HO_0.out); have n1_ := Aside0.mk (kept_at hq_ HK.out); have n2_ := Aside0.mk (below_at hq_ HB.out); clear hq_ HO_0 HK HB; have HO_0 := n0_; have HK := n1_; have HB := n2_; clear n0_ n1_ n2_; (try (have HP51 := Kd.Wn_putg HO_0.out ((l1.length : Int) : Int) oa (by have h_ : ((l1.length : Int) : Int) < ((x0_3.length : Int) : Int) := oa; first | exact h_ | (have e_ := (Kd.Wn_reads' HO_0.out).1; omega) | simpa using h_) (((rd x0_3 (l1.length : Int)) + x14_3) % 4294967296))))); refine se 52 157 (w1 := (wr.setCell ⟨go34, oo34 + ((l1.length : Int) : Int).toNat, none⟩ (.int .u32 (((rd x0_3 (l1.length : Int)) + x14_3) % 4294967296)))) ?_; intro w52 hw; have hg : wr.grownBy w52 (some go34) := (by rw [hw]; exact HP51.2); have hp_ : Kd.Wn pre_ post_ 52 w52 w0.heap.size (fun k_ => (P0_ k_ ∨ w.heap.size ≤ k_)) (.slice (some ⟨go34, oo34, none⟩) x0_3.length co11) y203 := (by rw [hw, Ny203.out]; exact HP51.1); clear HP51; replace HB := Aside0.mk ((by rw [hw]; exact below_set (HB.out) GB34.out : Below w0.heap.size w0 w52)); replace HK := Aside0.mk (Kept.of_grown (S := (fun k_ => P0_ k_)) hg (by repeat (first | (with_reducible first | exact HK.out | apply Kept.alloc | apply Kept.drewN | apply Kept.drew) | exact HK.out)) (fun k_ e_ => (HO_0.out.1 k_ e_))); replace HO_0 := Aside0.mk (hp_); clear hg hw hp_)))
           go_ret
           exact ⟨by first | rfl | (simp [errW_none, errW_some] <;> rfl) | (simp only [← hji5]; first | rfl | (simp [errW_none, errW_some] <;> rfl)) | (simp [*, errW_none, errW_some] <;> rfl), (by first | exact (vs HO_0.out) | (simp only [hl0_2, hl0_3]; exact (vs HO_0.out))), bz HB.out, by repeat (first | (with_reducible first | exact HK.out | apply Kept.alloc | apply Kept.drewN | apply Kept.drew) | exact HK.out)⟩

/-! ### natural_unshift: function 148 -/
def natural_unshift.l0 : Nat → List Int → Int → List Int → Int → Int → Option (List Int)
 | 0, _, _, _, _, _ => none
 | k + 1, x0, x1, x5, x12, x13 => if x13 < x12 then (if 0 ≤ x13 then (if x13 < (x0.length : Int) then (if (wrap64 (x13 + 1)) < (x0.length : Int) then (if 0 ≤ (wrap64 (x13 + 1)) then (if 0 ≤ x1 then (if x13 < (x5.length : Int) then (natural_unshift.l0 k x0 x1 (x5.set (x13 : Int).toNat ((shr .u64 (Go.bits .or .u64 (IntKind.u64.wrap (rd x0 x13)) (IntKind.u64.wrap ((IntKind.u64.wrap (rd x0 (wrap64 (x13 + 1)))) * 4294967296))) x1) % 4294967296)) x12 (wrap64 (x13 + 1))) else (none)) else (none)) else (none)) else (if 0 ≤ x1 then (if x13 < (x5.length : Int) then (natural_unshift.l0 k x0 x1 (x5.set (x13 : Int).toNat ((shr .u64 (IntKind.u64.wrap (rd x0 x13)) x1) % 4294967296)) x12 (wrap64 (x13 + 1))) else (none)) else (none))) else (none)) else (none)) else ((natural_limbs_trim.f k x5).bind fun t211 => (some t211))
def natural_unshift.f (k : Nat) (l0 : List Int) (a1 : Int) : Option (List Int) := if 0 ≤ (l0.length : Int) then (if ((l0.length : Int) : Int).toNat ≤ 70368744177664 then (natural_unshift.l0 k l0 a1 (List.replicate ((l0.length : Int) : Int).toNat 0) (l0.length : Int) 0) else (none)) else (none)
set_option maxHeartbeats 8000000 in
set_option maxRecDepth 100000 in
theorem natural_unshift.calls (k : Nat) (A0 : Option Addr) (c0 : Nat) (l0 : List Int) (a1 : Int) (r : List Int) (w : World) (hr0 : Kd.C (Kd.int .u32) w A0 l0.length l0) (hc0 : l0.length ≤ c0) (h : natural_unshift.f k l0 a1 = some r) :
  Calls Tryz.prog 148 #[.slice A0 l0.length c0, .int .u64 a1] w fun e w' => ∃ v0_ : Value, e = .returned (v0_) ∧ Kd.V (Kd.int .u32) 52 w' w.heap.size (fun k_ => (w.heap.size ≤ k_)) v0_ r ∧ Below w.heap.size w w' := by
 have HR0 := Aside0.mk hr0
 have HC0 := Aside0.mk hc0
 clear hr0 hc0
 have HB := Aside0.mk (Below.refl w.heap.size w)
 have H := h
 clear h
 unfold natural_unshift.f at H
 obtain ⟨c3, H⟩ := iN H
 have c3b0 := eq_true c3
 have c3b1 : decide (0 ≤ (l0.length : Int)) = true := decide_eq_true c3
 clear c3
 obtain ⟨c4, H⟩ := iN H
 have c4b0 := eq_true c4
 have c4b1 : decide (((l0.length : Int) : Int).toNat ≤ 70368744177664) = true := decide_eq_true c4
 clear c4
 obtain ⟨y204, hy204⟩ : ∃ y_ : List Int, y_ = (List.replicate ((l0.length : Int) : Int).toNat 0) := ⟨_, rfl⟩
 (try first | rw [← hy204] at H | (dsimp only at H; rw [← hy204] at H)); (try rw [Option.bind_some] at H)
 have Ny204 := Aside0.mk hy204
 clear hy204
 have H' := Aside0.mk H
 clear H
 go_enter Tryz.func148, Tryz.ntmps148
 go_wp2_with (first | ((with_reducible refine gd 10 rfl ?_); refine Kd.R_make (Kd.int .u32) _ 52 rfl (N := 10) rfl 88 _ _ rfl (l0.length : Int) rfl rfl Tryz.underlying88 (.int .u32 0) 4 info52 rfl (by decide) (by omega) 0 (ok := fun _ => True) (okp := fun _ => True) rfl (fun _ hk => hk) trivial oa (Nat.le_trans (Nat.mul_le_mul_right _ (oa : (l0.length : Int).toNat ≤ 70368744177664)) (by omega)) (Below.refl _ _) (Nat.le_refl _) ?_; intro v205 w5 ho6 hb hg_ hnew_; clear hg_ hnew_; (first | rw [← Ny204.out] at ho6 | (simp only [Int.reduceToNat] at ho6; rw [← Ny204.out] at ho6)); have HO206 := Aside0.mk (Kd.R_lower (Kd.R_newM (M := fun k_ => (w.heap.size ≤ k_)) ho6 (sz HB.out) (fun k_ h_ => h_)) (sz HB.out)); replace HB := Aside0.mk (bs HB.out hb); clear hb ho6))
 go_loopg [13] k (fun kq v13 w' => ∃ (x5_1 : List Int) (x13_1 : Int), v13 = .int .i64 x13_1 ∧ Aside0 (natural_unshift.l0 kq l0 a1 x5_1 (l0.length : Int) x13_1 = some r) ∧ Aside0 (kq ≤ k) ∧ Aside0 (Kd.R (Kd.int .u32) 52 w' w.heap.size (fun k_ => (w.heap.size ≤ k_)) v205 x5_1) ∧ Aside0 (Below w.heap.size w w'))
 case atStart => exact ⟨(y204), (0), fs, H', ⟨Nat.le_refl _⟩, ⟨rm HO206.out (fun _ hk => hk.1)⟩, ⟨bz HB.out⟩⟩
 case round =>
  clear H'
  (try clear c3b0); (try clear c3b1); (try clear c4b0); (try clear c4b1)
  obtain ⟨x5_1, x13_1, rfl, HA, HK1, HO_5, HB⟩ := hrel
  cases gk with
  | zero => exact absurd HA.out (by simp [natural_unshift.l0])
  | succ k1 =>
   have H := HA.out
   clear HA
   simp only [natural_unshift.l0] at H
   by_cases c7 : x13_1 < (l0.length : Int)
   ·rw [if_pos c7] at H
    have c7b0 : decide (x13_1 < (l0.length : Int)) = true := decide_eq_true c7
    clear c7
    obtain ⟨c8, H⟩ := iN H
    have c8b0 : decide (0 ≤ x13_1) = true := decide_eq_true c8
    clear c8
    obtain ⟨c9, H⟩ := iN H
    have c9b0 : decide (x13_1 < (l0.length : Int)) = true := decide_eq_true c9
    clear c9
    by_cases c10 : (wrap64 (x13_1 + 1)) < (l0.length : Int)
    ·rw [if_pos c10] at H
     have c10b0 : decide ((wrap64 (x13_1 + 1)) < (l0.length : Int)) = true := decide_eq_true c10
     clear c10
     obtain ⟨ji11, hji11⟩ : ∃ j_ : Int, (wrap64 (x13_1 + 1)) = j_ := ⟨_, rfl⟩
     first | rw [hji11] at H | simp only [hji11] at H
     (try rw [hji11] at c10b0)
     have hji11w : (IntKind.i64.wrap (x13_1 + 1)) = ji11 := (i64_w _).trans hji11
     obtain ⟨c12, H⟩ := iN H
     have c12b0 : decide (0 ≤ (ji11)) = true := decide_eq_true c12
     clear c12
     obtain ⟨c13, H⟩ := iN H
     have c13b0 := eq_true c13
     have c13b1 : decide (0 ≤ a1) = true := decide_eq_true c13
     clear c13
     obtain ⟨ji14, hji14⟩ : ∃ j_ : Int, (shr .u64 (Go.bits .or .u64 (IntKind.u64.wrap (rd l0 x13_1)) (IntKind.u64.wrap ((IntKind.u64.wrap (rd l0 (ji11))) * 4294967296))) a1) = j_ := ⟨_, rfl⟩
     first | rw [hji14] at H | simp only [hji14] at H
     have hji14_ : ((Go.bits .or .u64 (IntKind.u64.wrap (rd l0 x13_1)) (IntKind.u64.wrap ((IntKind.u64.wrap (rd l0 (ji11))) * 4294967296))) / 2 ^ min a1.toNat 64) = ji14 := hji14
     have hji14z : a1 ≤ 64 → ((Go.bits .or .u64 (IntKind.u64.wrap (rd l0 x13_1)) (IntKind.u64.wrap ((IntKind.u64.wrap (rd l0 (ji11))) * 4294967296))) / 2 ^ a1.toNat) = ji14 := shr_small hji14
     obtain ⟨c15, H⟩ := iN H
     have c15b0 : decide (x13_1 < (x5_1.length : Int)) = true := decide_eq_true c15
     clear c15
     obtain ⟨y209, hy209⟩ : ∃ y_ : List Int, y_ = (x5_1.set (x13_1 : Int).toNat ((ji14) % 4294967296)) := ⟨_, rfl⟩
     (try first | rw [← hy209] at H | (dsimp only at H; rw [← hy209] at H)); (try rw [Option.bind_some] at H)
     have Ny209 := Aside0.mk hy209
     clear hy209
     have H' := Aside0.mk H
     clear H
     have p207 : 0 ≤ (x13_1 : Int) := oa
     have q207 : x13_1 < (l0.length : Int) := oa
     obtain ⟨ad207, e207, hx207_0⟩ := Kd.at_int HR0.out x13_1 p207 q207
     cases e207
     try replace hx207_0 := (HB.out.cell (World.block_lt_of_cell? w _ hx207_0)).trans hx207_0
     replace p207 := eq_true p207
     replace q207 := eq_true q207
     have p208 : 0 ≤ ((ji11) : Int) := oa
     have q208 : (ji11) < (l0.length : Int) := oa
     obtain ⟨ad208, e208, hx208_0⟩ := Kd.at_int HR0.out (ji11) p208 q208
     obtain rfl : ad207 = ad208 := (by injection e208)
     try replace hx208_0 := (HB.out.cell (World.block_lt_of_cell? w _ hx208_0)).trans hx208_0
     replace p208 := eq_true p208
     replace q208 := eq_true q208
     have p16 : 0 ≤ (x13_1 : Int) := oa
     have q16 : (x13_1 : Int) < ((x5_1.length : Int) : Int) := oa
     obtain ⟨go16, co16, eo16, gb16, gl16, cl16, HG16⟩ := Kd.R_form HO_5.out (by omega)
     (first | cases eo16 | (injection eo16 with ea_ en_ ec_; (first | subst ea_ | (injection ea_ with ea_; subst ea_)); subst ec_; clear en_))
     have GB16 := Aside0.mk gb16
     have GG16 := Aside0.mk HG16
     clear gb16 gl16 HG16
     obtain ⟨hx16_0, hf16_0⟩ := Kd.R_celln 0 HO_5.out (x13_1 : Int) p16 q16
     replace p16 := eq_true p16
     replace q16 := eq_true q16
     have HP17 := Kd.R_putg HO_5.out (x13_1 : Int) ((ji14) % 4294967296)
     go_wp2_with (first | ((with_reducible refine gate_store (t := 52) (p := 41) rfl ?_); refine se 52 41 (w1 := (wr.setCell ⟨go16, (x13_1 : Int).toNat, none⟩ (.int .u32 ((ji14) % 4294967296)))) ?_; intro w18 hw; have hg : wr.grownBy w18 (some go16) := (by rw [hw]; exact HP17.2); have hp_ : Kd.R (Kd.int .u32) 52 w18 w.heap.size (fun k_ => (w.heap.size ≤ k_)) (.slice (some ⟨go16, 0, none⟩) x5_1.length co16) y209 := (by rw [hw, Ny209.out]; exact HP17.1); clear HP17; replace HO_5 := Aside0.mk (hp_); replace HB := Aside0.mk ((by rw [hw]; exact below_set (HB.out) GB16.out : Below w.heap.size w w18)); clear hg hw hp_))
     go_roundg k1
     case measure => have := HK1.out; omega
     case rel => exact ⟨(y209), (ji11), (by first | rfl | (simp; done) | (simp only [← hji11] <;> (first | rfl | simp)) | (simp [*]; done)), H', ⟨by have := HK1.out; omega⟩, ⟨vs HO_5.out⟩, ⟨bz HB.out⟩⟩
    ·rw [if_neg c10] at H
     have c10b0 : decide ((wrap64 (x13_1 + 1)) < (l0.length : Int)) = false := decide_eq_false c10
     clear c10
     obtain ⟨c19, H⟩ := iN H
     have c19b0 := eq_true c19
     have c19b1 : decide (0 ≤ a1) = true := decide_eq_true c19
     clear c19
     obtain ⟨ji20, hji20⟩ : ∃ j_ : Int, (shr .u64 (IntKind.u64.wrap (rd l0 x13_1)) a1) = j_ := ⟨_, rfl⟩
     first | rw [hji20] at H | simp only [hji20] at H
     have hji20_ : ((IntKind.u64.wrap (rd l0 x13_1)) / 2 ^ min a1.toNat 64) = ji20 := hji20
     have hji20z : a1 ≤ 64 → ((IntKind.u64.wrap (rd l0 x13_1)) / 2 ^ a1.toNat) = ji20 := shr_small hji20
     obtain ⟨c21, H⟩ := iN H
     have c21b0 : decide (x13_1 < (x5_1.length : Int)) = true := decide_eq_true c21
     clear c21
     obtain ⟨y210, hy210⟩ : ∃ y_ : List Int, y_ = (x5_1.set (x13_1 : Int).toNat ((ji20) % 4294967296)) := ⟨_, rfl⟩
     (try first | rw [← hy210] at H | (dsimp only at H; rw [← hy210] at H)); (try rw [Option.bind_some] at H)
     have Ny210 := Aside0.mk hy210
     clear hy210
     have H' := Aside0.mk H
     clear H
     have p207 : 0 ≤ (x13_1 : Int) := oa
     have q207 : x13_1 < (l0.length : Int) := oa
     obtain ⟨ad207, e207, hx207_0⟩ := Kd.at_int HR0.out x13_1 p207 q207
     cases e207
     try replace hx207_0 := (HB.out.cell (World.block_lt_of_cell? w _ hx207_0)).trans hx207_0
     replace p207 := eq_true p207
     replace q207 := eq_true q207
     have p22 : 0 ≤ (x13_1 : Int) := oa
     have q22 : (x13_1 : Int) < ((x5_1.length : Int) : Int) := oa
     obtain ⟨go22, co22, eo22, gb22, gl22, cl22, HG22⟩ := Kd.R_form HO_5.out (by omega)
     (first | cases eo22 | (injection eo22 with ea_ en_ ec_; (first | subst ea_ | (injection ea_ with ea_; subst ea_)); subst ec_; clear en_))
     have GB22 := Aside0.mk gb22
     have GG22 := Aside0.mk HG22
     clear gb22 gl22 HG22
     obtain ⟨hx22_0, hf22_0⟩ := Kd.R_celln 0 HO_5.out (x13_1 : Int) p22 q22
     replace p22 := eq_true p22
     replace q22 := eq_true q22
     have HP23 := Kd.R_putg HO_5.out (x13_1 : Int) ((ji20) % 4294967296)
     go_wp2_with (first | ((with_reducible refine gate_store (t := 52) (p := 41) rfl ?_); refine se 52 41 (w1 := (wr.setCell ⟨go22, (x13_1 : Int).toNat, none⟩ (.int .u32 ((ji20) % 4294967296)))) ?_; intro w24 hw; have hg : wr.grownBy w24 (some go22) := (by rw [hw]; exact HP23.2); have hp_ : Kd.R (Kd.int .u32) 52 w24 w.heap.size (fun k_ => (w.heap.size ≤ k_)) (.slice (some ⟨go22, 0, none⟩) x5_1.length co22) y210 := (by rw [hw, Ny210.out]; exact HP23.1); clear HP23; replace HO_5 := Aside0.mk (hp_); replace HB := Aside0.mk ((by rw [hw]; exact below_set (HB.out) GB22.out : Below w.heap.size w w24)); clear hg hw hp_))
     go_roundg k1
     case measure => have := HK1.out; omega
     case rel => exact ⟨(y210), (wrap64 (x13_1 + 1)), fs, H', ⟨by have := HK1.out; omega⟩, ⟨vs HO_5.out⟩, ⟨bz HB.out⟩⟩
   ·rw [if_neg c7] at H
    have c7b0 : decide (x13_1 < (l0.length : Int)) = false := decide_eq_false c7
    clear c7
    obtain ⟨t211, A25, H⟩ := bs1 H
    obtain rfl := Option.some.inj H
    obtain ⟨Ao26, co26, eo26⟩ := Kd.R_slice HO_5.out
    subst eo26
    go_wp2_with (first | ((with_reducible refine gc 137 rfl ?_); refine gl (some 44) Tryz.func137 #[.slice Ao26 x5_1.length co26] ?_; (with_reducible refine (natural_limbs_trim.calls k1 (fun k_ => some k_ = (.slice Ao26 x5_1.length co26 : Value).ownBlock) _ _ x5_1 t211 _ ?side1 A25.out).mono ?_); (case side1 => exact Kd.R_V (Kd.R_tight rfl (HO_5.out))); rintro e w27 ⟨v212, rfl, ho0, hb⟩; refine ⟨_, rfl, ?_⟩; have HO213 := Aside0.mk (Kd.V_lower (Kd.V_mono (ok' := fun k_ => (w.heap.size ≤ k_)) ho0 (fun k_ hk_ => Or.elim hk_ (fun hs_ => ((HO_5.out).1 k_ hs_.symm)) (fun hn_ => (Nat.le_trans (sz HB.out) hn_)))) (sz HB.out)); replace HO_5 := Aside0.mk (rb HO_5.out hb); replace HB := Aside0.mk (bs HB.out hb); (try clear hb ho0)))
    go_ret
    exact ⟨_, fe, vs HO213.out, bz HB.out⟩

/-! ### natural_stepw: a call of step with a window of a row (by hand) -/
def natural_stepw.f (k : Nat) (l0 : List Int) (lo : Int) (hi : Int) (l1 : List Int) : Option (Int × List Int) := if 0 ≤ lo ∧ lo < hi ∧ hi ≤ (l0.length : Int) then (natural_step.f k ((l0.take hi.toNat).drop lo.toNat) l1).bind fun z => some (z.1, l0.take lo.toNat ++ z.2 ++ l0.drop hi.toNat) else none
theorem natural_stepw.calls (k : Nat) (P0_ : Nat → Prop) (u9000_ : Value) (l0 : List Int) (lo hi : Int) (A1 : Option Addr) (c1 : Nat) (l1 : List Int) (r1 : Int) (r2 : List Int) (w0 w : World) (hB : Below w0.heap.size w0 w) (ho0 : Kd.R (Kd.int .u32) 52 w w0.heap.size P0_ u9000_ l0) (hr1 : ∀ W_, Kept w W_ (fun k_ => P0_ k_) → Kd.C (Kd.int .u32) W_ A1 l1.length l1) (hc1 : l1.length ≤ c1) (h : natural_stepw.f k l0 lo hi l1 = some (r1, r2))
  {Au Aw : Option Addr} {cu nw cw : Nat} (hu : u9000_ = .slice Au l0.length cu) (hAw : Aw = if cu = lo.toNat then Au else Au.map (·.add (lo.toNat * 1))) (hnw : nw = hi.toNat - lo.toNat) (hcw : cw = cu - lo.toNat) :
  Calls Tryz.prog 147 #[.slice Aw nw cw, .slice A1 l1.length c1] w fun e w' => e = .returned (.int .u32 r1) ∧ Kd.R (Kd.int .u32) 52 w' w0.heap.size (fun k_ => (P0_ k_ ∨ w.heap.size ≤ k_)) u9000_ r2 ∧ Below w0.heap.size w0 w' ∧ Kept w w' (fun k_ => P0_ k_) := by
 subst hu
 unfold natural_stepw.f at h
 split at h
 ·rename_i hc
  obtain ⟨z, hz, h⟩ := Option.bind_eq_some_iff.mp h
  simp only [Option.some.injEq, Prod.mk.injEq] at h
  obtain ⟨rfl, rfl⟩ := h
  have hcu := (Kd.R_reads' ho0).2.1
  have hlo : lo.toNat < hi.toNat := by omega
  have hhi : hi.toNat ≤ l0.length := by omega
  obtain ⟨g, cap, hv, _⟩ := Kd.R_form ho0 (by omega)
  injection hv with hg _ _
  have hw := Kd.Wn_of_R ho0 hlo hhi hAw hnw hcw
  refine (natural_step.calls (l0.take lo.toNat) (l0.drop hi.toNat) k P0_ _ _ A1 c1 l1 z.1 z.2 w0 w hB hw hr1 hc1 hz).mono ?_
  rintro e w' ⟨rfl, hq, hb, hk⟩
  exact ⟨rfl, Kd.R_of_Wn rfl hq hlo hhi g hg hcu hAw hnw hcw, hb, hk⟩
 ·cases h

/-! ### natural_divide: function 120 -/
def natural_divide.l0 : Nat → Int → Int → List Int → List Int → List Int → Int → Option (List Int × List Int)
 | 0, _, _, _, _, _, _ => none
 | k + 1, x8, x9, x10, x11, x12, x13 => if x13 ≥ 0 then (if 0 ≤ x13 then (if x13 ≤ (wrap64 ((wrap64 (x13 + x9)) + 1)) then (if (wrap64 ((wrap64 (x13 + x9)) + 1)) ≤ (x11.length : Int) then ((natural_stepw.f k x11 x13 (wrap64 ((wrap64 (x13 + x9)) + 1)) x10).bind fun bt241 => (if x13 < (x12.length : Int) then (natural_divide.l0 k x8 x9 x10 bt241.2 (x12.set (x13 : Int).toNat bt241.1) (wrap64 (x13 - 1))) else (none))) else (none)) else (none)) else (none)) else ((natural_limbs_trim.f k x12).bind fun t244 => (if 0 ≤ x9 then (if x9 ≤ (x11.length : Int) then ((natural_unshift.f k (x11.take (x9 : Int).toNat) x8).bind fun t251 => (some (t244, t251))) else (none)) else (none)))
def natural_divide.f (k : Nat) (l0 : List Int) (l1 : List Int) : Option (List Int × List Int) := (natural_compare.f k l0 l1).bind fun t214 => (if t214 < 0 then (some (([] : List Int), l0)) else (if (l1.length : Int) = 1 then (if 0 < (l1.length : Int) then ((natural_divideSmall.f k l0 (rd l1 0)).bind fun bt216 => ((natural_limbs_trim.f k (([bt216.2] : List Int))).bind fun t223 => (some (bt216.1, t223)))) else (none)) else (if 0 ≤ (wrap64 ((l1.length : Int) - 1)) then (if (wrap64 ((l1.length : Int) - 1)) < (l1.length : Int) then ((bits_LeadingZeros32.f (rd l1 (wrap64 ((l1.length : Int) - 1)))).bind fun t227 => ((natural_shift.f k l1 (IntKind.u64.wrap (t227)) (l1.length : Int)).bind fun t228 => ((natural_shift.f k l0 (IntKind.u64.wrap (t227)) (wrap64 ((l0.length : Int) + 1))).bind fun t231 => (if 0 ≤ (wrap64 ((wrap64 ((l0.length : Int) - (l1.length : Int))) + 1)) then (if (wrap64 ((wrap64 ((l0.length : Int) - (l1.length : Int))) + 1) : Int).toNat ≤ 70368744177664 then ((some (List.replicate (wrap64 ((wrap64 ((l0.length : Int) - (l1.length : Int))) + 1) : Int).toNat 0 : List Int)).bind fun y234 => (natural_divide.l0 k (IntKind.u64.wrap (t227)) (l1.length : Int) t228 t231 y234 (wrap64 ((y234.length : Int) - 1)))) else (none)) else (none))))) else (none)) else (none))))
def natural_divide.T15 : Bool × List (List Nat × List Nat) := (true, [([], []), ([0], [0]), ([], []), ([], []), ([2, 3], [2, 3]), ([], []), ([4, 5, 1], [4, 5]), ([1, 6, 0, 1], [1]), ([6, 7, 0, 1, 2, 3, 4, 5, 6, 7], [6])])
def natural_divide.B15 : List Nat := [0, 1, 0, 0, 12, 0, 63, 127, 255]
theorem natural_divide.tab15 : rtab .any (opsOf Tryz.f120 15) = natural_divide.T15 := by kernel_rfl
theorem natural_divide.bits15 : waitsOk natural_divide.T15.2 natural_divide.B15 = true := by kernel_rfl
set_option maxHeartbeats 8000000 in
set_option maxRecDepth 100000 in
theorem natural_divide.calls (k : Nat) (P0_ : Nat → Prop) (A0 : Option Addr) (c0 : Nat) (l0 : List Int) (A1 : Option Addr) (c1 : Nat) (l1 : List Int) (r1 : List Int) (r2 : List Int) (w : World) (hs0 : Kd.V (Kd.int .u32) 52 w w.heap.size (fun k_ => P0_ k_) (.slice A0 l0.length c0) l0) (hr1 : Kd.C (Kd.int .u32) w A1 l1.length l1) (hc1 : l1.length ≤ c1) (h : natural_divide.f k l0 l1 = some (r1, r2)) :
  Calls Tryz.prog 120 #[.slice A0 l0.length c0, .slice A1 l1.length c1] w fun e w' => ∃ v0_ v1_ : Value, e = .returned (.tuple #[v0_, v1_]) ∧ Kd.V (Kd.int .u32) 52 w' w.heap.size (fun k_ => (P0_ k_ ∨ w.heap.size ≤ k_)) v0_ r1 ∧ Kd.V (Kd.int .u32) 52 w' w.heap.size (fun k_ => (P0_ k_ ∨ w.heap.size ≤ k_)) v1_ r2 ∧ Below w.heap.size w w' := by
 have HO0 := Aside0.mk (show Kd.V (Kd.int .u32) 52 w w.heap.size (fun k_ => (P0_ k_ ∨ w.heap.size ≤ k_)) (.slice A0 l0.length c0) l0 from Kd.V_mono hs0 (fun k_ hk => .inl hk))
 have HR1 := Aside0.mk hr1
 have HC1 := Aside0.mk hc1
 clear hr1 hc1
 have HB := Aside0.mk (Below.refl w.heap.size w)
 have H := h
 clear h
 unfold natural_divide.f at H
 obtain ⟨t214, A3, H⟩ := bs1 H
 by_cases c4 : t214 < 0
 ·rw [if_pos c4] at H
  have c4b0 : decide (t214 < 0) = true := decide_eq_true c4
  clear c4
  simp only [Option.some.injEq, Prod.mk.injEq] at H
  obtain ⟨rfl, rfl⟩ := H
  go_enter Tryz.func120, Tryz.ntmps120
  go_wp2_with (first | ((with_reducible refine gc 144 rfl ?_); refine gl (some 16) Tryz.func144 #[.slice A0 l0.length c0, .slice A1 l1.length c1] ?_; (with_reducible refine (natural_compare.calls k _ _ l0 _ _ l1 t214 _ ?side1 ?side2 ?side3 ?side4 A3.out).mono ?_); (case side1 => exact vs (Kd.V_reads' HO0.out).2.2); (case side2 => exact (Kd.V_reads' HO0.out).2.1); (case side3 => repeat (first | exact HR1.out | (with_reducible refine Kd.C_alloc ?_ _) | (with_reducible refine Kd.C_drewN ?_ _) | (with_reducible refine Kd.C_drew ?_))); (case side4 => exact HC1.out); rintro e w' ⟨rfl, ⟨nd, rfl⟩⟩; refine ⟨_, rfl, ?_⟩))
  go_ret2
  exact ⟨_, _, fe, (by first | exact Kd.V_nil _ _ _ _ _ | exact Kd.V_mono (Kd.R_V (by first | exact Kd.R_nil _ _ _ _ _ | exact Kd.N_nil _ _ _ _ _ | exact Kd.V_nil _ _ _ _ _ | exact Kd.Q_nil _ _ _ _ _ | exact Kd.S_nil _ _ _ _ _)) (fun k_ hk => by first | exact ⟨(.inr (hk.1)), hk.2⟩ | exact (.inr (hk)))), vs HO0.out, bz HB.out⟩
 ·rw [if_neg c4] at H
  have c4b0 : decide (t214 < 0) = false := decide_eq_false c4
  clear c4
  by_cases c5 : (l1.length : Int) = 1
  ·rw [if_pos c5] at H
   have c5b0 := beq_iff_eq.mpr c5
   have c5b1 := bne_eq_false_iff_eq.mpr c5
   clear c5
   obtain ⟨c6, H⟩ := iN H
   have c6b0 : decide (0 < (l1.length : Int)) = true := decide_eq_true c6
   have c6b1 : decide (0 < l1.length) = true := decide_eq_true (by omega)
   clear c6
   obtain ⟨⟨t216, t219⟩, A7, H⟩ := bs1 H; dsimp only at H
   obtain ⟨y220, hy220⟩ : ∃ y_ : List Int, y_ = (([t219] : List Int)) := ⟨_, rfl⟩
   (try first | rw [← hy220] at H | (dsimp only at H; rw [← hy220] at H)); (try rw [Option.bind_some] at H)
   have Ny220 := Aside0.mk hy220
   clear hy220
   obtain ⟨t223, A8, H⟩ := bs1 H
   simp only [Option.some.injEq, Prod.mk.injEq] at H
   obtain ⟨rfl, rfl⟩ := H
   go_enter Tryz.func120, Tryz.ntmps120
   go_wp2_with (first | ((with_reducible refine gc 144 rfl ?_); refine gl (some 16) Tryz.func144 #[.slice A0 l0.length c0, .slice A1 l1.length c1] ?_; (with_reducible refine (natural_compare.calls k _ _ l0 _ _ l1 t214 _ ?side1 ?side2 ?side3 ?side4 A3.out).mono ?_); (case side1 => exact vs (Kd.V_reads' HO0.out).2.2); (case side2 => exact (Kd.V_reads' HO0.out).2.1); (case side3 => repeat (first | exact HR1.out | (with_reducible refine Kd.C_alloc ?_ _) | (with_reducible refine Kd.C_drewN ?_ _) | (with_reducible refine Kd.C_drew ?_))); (case side4 => exact HC1.out); rintro e w' ⟨rfl, ⟨nd, rfl⟩⟩; refine ⟨_, rfl, ?_⟩; have p215 : 0 ≤ (0 : Int) := (by omega); have q215 : 0 < (l1.length : Int) := oa; obtain ⟨ad215, e215, hx215_0⟩ := Kd.at_int HR1.out 0 p215 q215; cases e215; have qi215 : (0 < l1.length) = True := eq_true (by omega); (try rw [show ((0 : Int)).toNat = 0 from rfl] at hx215_0); (try rw [Addr.add_zero'] at hx215_0); replace p215 := eq_true p215; replace q215 := eq_true q215) | ((with_reducible refine gc 116 rfl ?_); refine gl (some 27) Tryz.func116 #[.slice A0 l0.length c0, .int .u32 (rd l1 0)] ?_; (with_reducible refine (natural_divideSmall.calls k _ _ l0 (rd l1 0) t216 t219 _ ?side1 ?side2 A7.out).mono ?_); (case side1 => exact vs (Kd.V_reads' HO0.out).2.2); (case side2 => exact (Kd.V_reads' HO0.out).2.1); rintro e w9 ⟨v217, rfl, ho0, hb⟩; refine ⟨_, rfl, ?_⟩; replace HO0 := Aside0.mk (vb HO0.out hb); have HO218 := Aside0.mk (Kd.V_lower (Kd.V_mono (ok' := fun k_ => (P0_ k_ ∨ w.heap.size ≤ k_)) ho0 (fun k_ hk_ => (.inr (Nat.le_trans (sz HB.out) hk_)))) (sz HB.out)); replace HB := Aside0.mk (bs HB.out hb); (try clear hb ho0)) | ((with_reducible refine gd 32 rfl ?_); refine Kd.R_lit (Kd.int .u32) _ 52 ?hg (N := 32) ?hd (xs := ([t219] : List Int)) (inner := [.int .u32 t219]) (ok := fun _ => True) (okp := fun _ => True) ?hr ?hp (fun _ hk => hk) trivial (Below.refl _ _) (Nat.le_refl _) (by simp) ?_; (case hd => rfl); (case hg => rfl); (case hr => first | (go_simp; done) | (go_simp; rfl)); (case hp => exact (Reps.one (show Kd.M (Kd.int .u32) _ _ _ t219 [.int .u32 t219] from rfl) (Reps.none _ _))); intro v221 w10 ho11 hb hg_ hnew_; clear hg_ hnew_; (first | rw [← Ny220.out] at ho11 | (simp only [Int.reduceToNat] at ho11; rw [← Ny220.out] at ho11)); replace HO0 := Aside0.mk (Kd.V_elder' (vs HO0.out) (Kd.R_base ho11) hb); replace HO218 := Aside0.mk (Kd.V_elder' (vs HO218.out) (Kd.R_base ho11) hb); have HO222 := Aside0.mk (Kd.R_lower (Kd.R_newM (M := fun k_ => (w.heap.size ≤ k_)) ho11 (sz HB.out) (fun k_ h_ => h_)) (sz HB.out)); replace HB := Aside0.mk (bs HB.out hb); clear hb ho11; obtain ⟨Ao12, co12, eo12⟩ := Kd.R_slice HO222.out; subst eo12) | ((with_reducible refine gc 137 rfl ?_); refine gl (some 33) Tryz.func137 #[.slice Ao12 y220.length co12] ?_; (with_reducible refine (natural_limbs_trim.calls k (fun k_ => some k_ = (.slice Ao12 y220.length co12 : Value).ownBlock) _ _ y220 t223 _ ?side1 A8.out).mono ?_); (case side1 => exact Kd.R_V (Kd.R_tight rfl (HO222.out))); rintro e w13 ⟨v224, rfl, ho0, hb⟩; refine ⟨_, rfl, ?_⟩; replace HO0 := Aside0.mk (vb HO0.out hb); replace HO218 := Aside0.mk (vb HO218.out hb); have HO225 := Aside0.mk (Kd.V_lower (Kd.V_mono (ok' := fun k_ => (P0_ k_ ∨ w.heap.size ≤ k_)) ho0 (fun k_ hk_ => Or.elim hk_ (fun hs_ => (.inr (((HO222.out).1 k_ hs_.symm).1))) (fun hn_ => (.inr (Nat.le_trans (sz HB.out) hn_))))) (sz HB.out)); replace HO222 := Aside0.mk (rb HO222.out hb); replace HB := Aside0.mk (bs HB.out hb); (try clear hb ho0)))
   go_ret2
   exact ⟨_, _, fe, vm HO218.out (fun _ hk => hk.1), vs HO225.out, bz HB.out⟩
  ·rw [if_neg c5] at H
   have c5b0 := beq_eq_false_iff_ne.mpr c5
   have c5b1 := bne_iff_ne.mpr c5
   obtain ⟨ji14, hji14⟩ : ∃ j_ : Int, (wrap64 ((l1.length : Int) - 1)) = j_ := ⟨_, rfl⟩
   first | rw [hji14] at H | simp only [hji14] at H
   (try rw [hji14] at A3)
   have hji14w : (IntKind.i64.wrap ((l1.length : Int) - 1)) = ji14 := (i64_w _).trans hji14
   obtain ⟨c15, H⟩ := iN H
   have c15b0 : decide (0 ≤ (ji14)) = true := decide_eq_true c15
   clear c15
   obtain ⟨c16, H⟩ := iN H
   have c16b0 : decide ((ji14) < (l1.length : Int)) = true := decide_eq_true c16
   clear c16
   obtain ⟨t227, A17, H⟩ := bs1 H
   obtain ⟨t228, A18, H⟩ := bs1 H
   obtain ⟨t231, A19, H⟩ := bs1 H
   obtain ⟨ji20, hji20⟩ : ∃ j_ : Int, (wrap64 ((wrap64 ((l0.length : Int) - (l1.length : Int))) + 1)) = j_ := ⟨_, rfl⟩
   first | rw [hji20] at H | simp only [hji20] at H
   (try rw [hji20] at A3)
   (try rw [hji20] at A17)
   (try rw [hji20] at A18)
   (try rw [hji20] at A19)
   have hji20w : (IntKind.i64.wrap ((wrap64 ((l0.length : Int) - (l1.length : Int))) + 1)) = ji20 := (i64_w _).trans hji20
   obtain ⟨c21, H⟩ := iN H
   have c21b0 := eq_true c21
   have c21b1 : decide (0 ≤ (ji20)) = true := decide_eq_true c21
   clear c21
   obtain ⟨c22, H⟩ := iN H
   have c22b0 := eq_true c22
   have c22b1 : decide ((ji20 : Int).toNat ≤ 70368744177664) = true := decide_eq_true c22
   clear c22
   obtain ⟨y234, hy234⟩ : ∃ y_ : List Int, y_ = (List.replicate (ji20 : Int).toNat 0) := ⟨_, rfl⟩
   (try first | rw [← hy234] at H | (dsimp only at H; rw [← hy234] at H)); (try rw [Option.bind_some] at H)
   have Ny234 := Aside0.mk hy234
   clear hy234
   have H' := Aside0.mk H
   clear H
   go_enter Tryz.func120, Tryz.ntmps120
   go_wp2_with (first | ((with_reducible refine gc 144 rfl ?_); refine gl (some 16) Tryz.func144 #[.slice A0 l0.length c0, .slice A1 l1.length c1] ?_; (with_reducible refine (natural_compare.calls k _ _ l0 _ _ l1 t214 _ ?side1 ?side2 ?side3 ?side4 A3.out).mono ?_); (case side1 => exact vs (Kd.V_reads' HO0.out).2.2); (case side2 => exact (Kd.V_reads' HO0.out).2.1); (case side3 => repeat (first | exact HR1.out | (with_reducible refine Kd.C_alloc ?_ _) | (with_reducible refine Kd.C_drewN ?_ _) | (with_reducible refine Kd.C_drew ?_))); (case side4 => exact HC1.out); rintro e w' ⟨rfl, ⟨nd, rfl⟩⟩; refine ⟨_, rfl, ?_⟩; have p226 : 0 ≤ ((ji14) : Int) := oa; have q226 : (ji14) < (l1.length : Int) := oa; obtain ⟨ad226, e226, hx226_0⟩ := Kd.at_int HR1.out (ji14) p226 q226; cases e226; replace p226 := eq_true p226; replace q226 := eq_true q226) | ((with_reducible refine gc 145 rfl ?_); refine goesL_ (some 40) rfl rfl Tryz.func145 (by kernel_rfl) rfl #[.int .u32 (rd l1 (ji14))] rfl (by (try simp only [List.map_toArray, List.map_cons, List.map_nil]); first | done | (simp only [hji14]; rfl) | rfl | (simp only [List.length_drop, List.length_take]; rfl)) ?_; (with_reducible refine (bits_LeadingZeros32.calls (rd l1 (ji14)) t227 _ A17.out).mono ?_); rintro e w' ⟨rfl, ⟨nd, rfl⟩⟩; refine ⟨_, rfl, ?_⟩) | ((with_reducible refine gc 146 rfl ?_); refine gl (some 47) Tryz.func146 #[.slice (some ad226) l1.length c1, .int .u64 (IntKind.u64.wrap (t227)), .int .i64 (l1.length : Int)] ?_; (with_reducible refine (natural_shift.calls k _ _ l1 (IntKind.u64.wrap (t227)) (l1.length : Int) t228 _ ?side1 ?side2 A18.out).mono ?_); (case side1 => repeat (first | exact HR1.out | (with_reducible refine Kd.C_alloc ?_ _) | (with_reducible refine Kd.C_drewN ?_ _) | (with_reducible refine Kd.C_drew ?_))); (case side2 => exact HC1.out); rintro e w23 ⟨v229, rfl, ho0, hb⟩; refine ⟨_, rfl, ?_⟩; replace HO0 := Aside0.mk (Kd.V_elder' (vs HO0.out) (Kd.R_base ho0) hb); have HO230 := Aside0.mk (Kd.R_lower (Kd.R_newM (M := fun k_ => (w.heap.size ≤ k_)) ho0 (sz HB.out) (fun k_ h_ => h_)) (sz HB.out)); replace HB := Aside0.mk (bs HB.out hb); (try clear hb ho0)) | ((with_reducible refine gc 146 rfl ?_); refine gl (some 53) Tryz.func146 #[.slice A0 l0.length c0, .int .u64 (IntKind.u64.wrap (t227)), .int .i64 (wrap64 ((l0.length : Int) + 1))] ?_; (with_reducible refine (natural_shift.calls k _ _ l0 (IntKind.u64.wrap (t227)) (wrap64 ((l0.length : Int) + 1)) t231 _ ?side1 ?side2 A19.out).mono ?_); (case side1 => exact vs (Kd.V_reads' HO0.out).2.2); (case side2 => exact (Kd.V_reads' HO0.out).2.1); rintro e w24 ⟨v232, rfl, ho0, hb⟩; refine ⟨_, rfl, ?_⟩; replace HO0 := Aside0.mk (Kd.V_elder' (vs HO0.out) (Kd.R_base ho0) hb); have HO233 := Aside0.mk (Kd.R_lower (Kd.R_new' (Kd.R_newM (M := fun k_ => (w.heap.size ≤ k_)) ho0 (sz HB.out) (fun k_ h_ => h_)) (Kd.R_lt (vs HO230.out))) (sz HB.out)); replace HO230 := Aside0.mk (Kd.R_elder' (vs HO230.out) (Kd.R_base ho0) hb); replace HB := Aside0.mk (bs HB.out hb); (try clear hb ho0)) | ((with_reducible refine gd 59 rfl ?_); refine Kd.R_make (Kd.int .u32) _ 52 rfl (N := 59) rfl 88 _ _ rfl ji20 rfl rfl Tryz.underlying88 (.int .u32 0) 4 info52 rfl (by decide) (by omega) 0 (ok := fun _ => True) (okp := fun _ => True) rfl (fun _ hk => hk) trivial oa (Nat.le_trans (Nat.mul_le_mul_right _ (oa : ji20.toNat ≤ 70368744177664)) (by omega)) (Below.refl _ _) (Nat.le_refl _) ?_; intro v235 w25 ho26 hb hg_ hnew_; clear hg_ hnew_; (first | rw [← Ny234.out] at ho26 | (simp only [Int.reduceToNat] at ho26; rw [← Ny234.out] at ho26)); replace HO0 := Aside0.mk (Kd.V_elder' (vs HO0.out) (Kd.R_base ho26) hb); have HO236 := Aside0.mk (Kd.R_lower (Kd.R_new' (Kd.R_new' (Kd.R_newM (M := fun k_ => (w.heap.size ≤ k_)) ho26 (sz HB.out) (fun k_ h_ => h_)) (Kd.R_lt (vs HO230.out))) (Kd.R_lt (vs HO233.out))) (sz HB.out)); replace HO230 := Aside0.mk (Kd.R_elder' (vs HO230.out) (Kd.R_base ho26) hb); replace HO233 := Aside0.mk (Kd.R_elder' (vs HO233.out) (Kd.R_base ho26) hb); replace HB := Aside0.mk (bs HB.out hb); clear hb ho26; obtain ⟨Ao27, co27, eo27⟩ := Kd.R_slice HO236.out; subst eo27))
   go_loopg [13] k (fun kq v13 w' => ∃ (x11_1 : List Int) (x12_1 : List Int) (x13_1 : Int), v13 = .int .i64 x13_1 ∧ Aside0 (natural_divide.l0 kq (IntKind.u64.wrap (t227)) (l1.length : Int) t228 x11_1 x12_1 x13_1 = some (r1, r2)) ∧ Aside0 (kq ≤ k) ∧ Aside0 (Kd.R (Kd.int .u32) 52 w' w.heap.size (fun k_ => (w.heap.size ≤ k_) ∧ some k_ ≠ (v232 : Value).ownBlock ∧ some k_ ≠ ((.slice Ao27 y234.length co27) : Value).ownBlock) v229 t228) ∧ Aside0 (Kd.R (Kd.int .u32) 52 w' w.heap.size (fun k_ => (w.heap.size ≤ k_) ∧ some k_ ≠ (v229 : Value).ownBlock ∧ some k_ ≠ ((.slice Ao27 y234.length co27) : Value).ownBlock) v232 x11_1) ∧ Aside0 (Kd.R (Kd.int .u32) 52 w' w.heap.size (fun k_ => (w.heap.size ≤ k_) ∧ some k_ ≠ (v229 : Value).ownBlock ∧ some k_ ≠ (v232 : Value).ownBlock) (.slice Ao27 y234.length co27) x12_1) ∧ Aside0 (Below w.heap.size w w'))
   case atStart => exact ⟨(t231), (y234), (wrap64 ((y234.length : Int) - 1)), fs, H', ⟨Nat.le_refl _⟩, ⟨rm HO230.out (fun _ hk => ⟨hk.1.1.1, ⟨hk.1.2, hk.2⟩⟩)⟩, ⟨rm HO233.out (fun _ hk => ⟨hk.1.1.1, ⟨hk.1.2, hk.2⟩⟩)⟩, ⟨rm HO236.out (fun _ hk => ⟨hk.1.1.1, ⟨hk.1.2, hk.2⟩⟩)⟩, ⟨bz HB.out⟩⟩
   case round =>
    clear H'
    (try clear c1); (try clear c4b0); (try clear c5b0); (try clear c5b1); (try clear c6b0); (try clear c6b1); (try clear c15b0); (try clear c16b0); (try clear c21b0); (try clear c21b1); (try clear c22b0); (try clear c22b1); (try clear hx215_0); (try clear hx226_0); (try clear p215); (try clear p226); (try clear q215); (try clear q226)
    obtain ⟨x11_1, x12_1, x13_1, rfl, HA, HK1, HO_10, HO_11, HO_12, HB⟩ := hrel
    have hl12_1 := (Kd.R_reads' HO_12.out).1
    rw [hl12_1] at HO_12
    (try simp only [hl12_1])
    (try simp only [hl12_1] at HO_10)
    (try simp only [hl12_1] at HO_11)
    cases gk with
    | zero => exact absurd HA.out (by simp [natural_divide.l0])
    | succ k1 =>
     have H := HA.out
     clear HA
     simp only [natural_divide.l0] at H
     by_cases c28 : x13_1 ≥ 0
     ·rw [if_pos c28] at H
      have c28b0 : decide (0 ≤ x13_1) = true := decide_eq_true c28
      clear c28
      obtain ⟨c29, H⟩ := iN H
      have c29b0 := eq_true c29
      have c29b1 : decide (0 ≤ x13_1) = true := decide_eq_true c29
      clear c29
      obtain ⟨c30, H⟩ := iN H
      have c30b0 := eq_true c30
      have c30b1 : decide (x13_1 ≤ (wrap64 ((wrap64 (x13_1 + (l1.length : Int))) + 1))) = true := decide_eq_true c30
      (try (have c30b1_hl12_1 := c30b1; rw [hl12_1] at c30b1_hl12_1))
      obtain ⟨c31, H⟩ := iN H
      have c31b0 := eq_true c31
      have c31b1 : decide ((wrap64 ((wrap64 (x13_1 + (l1.length : Int))) + 1)) ≤ (x11_1.length : Int)) = true := decide_eq_true c31
      (try (have c31b1_hl12_1 := c31b1; rw [hl12_1] at c31b1_hl12_1))
      obtain ⟨y237, hy237⟩ : ∃ y_ : List Int, y_ = ((x11_1.take ((wrap64 ((wrap64 (x13_1 + (l1.length : Int))) + 1)) : Int).toNat).drop (x13_1 : Int).toNat) := ⟨_, rfl⟩
      (try first | rw [← hy237] at H | (dsimp only at H; rw [← hy237] at H)); (try rw [Option.bind_some] at H)
      have Ny237 := Aside0.mk hy237
      clear hy237
      obtain ⟨⟨t241, t242⟩, A32, H⟩ := bs1 H; dsimp only at H
      obtain ⟨c33, H⟩ := iN H
      have c33b0 : decide (x13_1 < (x12_1.length : Int)) = true := decide_eq_true c33
      (try (have c33b0_hl12_1 := c33b0; rw [hl12_1] at c33b0_hl12_1))
      clear c33
      obtain ⟨y243, hy243⟩ : ∃ y_ : List Int, y_ = (x12_1.set (x13_1 : Int).toNat t241) := ⟨_, rfl⟩
      (try first | rw [← hy243] at H | (dsimp only at H; rw [← hy243] at H)); (try rw [Option.bind_some] at H)
      have Ny243 := Aside0.mk hy243
      clear hy243
      have H' := Aside0.mk H
      clear H
      obtain ⟨Ao36, co36, eo36⟩ := Kd.R_slice HO_11.out
      subst eo36
      have q35 : ((wrap64 ((wrap64 (x13_1 + (l1.length : Int))) + 1)) : Int) ≤ ((x11_1.length : Int) : Int) := oa
      obtain ⟨i035, hi035, _, hsz35, _⟩ := info_parts info52
      have hroom35 : x11_1.length ≤ co36 := (Kd.R_reads' HO_11.out).2.1
      have hC35 : Kd.C (Kd.int .u32) _ Ao36 x11_1.length x11_1 := (Kd.R_reads' HO_11.out).2.2
      have ql35 : (x13_1 : Int) ≤ ((wrap64 ((wrap64 (x13_1 + (l1.length : Int))) + 1)) : Int) := oa
      have q035 : (0 : Int) ≤ (x13_1 : Int) := oa
      have hcut35 := cut_mid (P := Tryz.prog) 88 52 .i64 .i64 Tryz.underlying88 hi035 1 hsz35 Ao36 x11_1.length co36 x13_1 (wrap64 ((wrap64 (x13_1 + (l1.length : Int))) + 1)) q035 ql35 q35 hroom35
      have hr35 := Kd.C_mid (lo := (x13_1 : Int).toNat) (hi := ((wrap64 ((wrap64 (x13_1 + (l1.length : Int))) + 1)) : Int).toNat) (c := co36) hC35 (by omega) (by omega) hroom35
      obtain ⟨A35, hA35⟩ : ∃ A1, A1 = (if co36 = (x13_1 : Int).toNat then Ao36 else (Ao36 : Option Addr).map (·.add ((x13_1 : Int).toNat * 1))) := ⟨_, rfl⟩
      obtain ⟨c35, hc35⟩ : ∃ c1, c1 = co36 - (x13_1 : Int).toNat := ⟨_, rfl⟩
      have hy35 : y237.length = ((wrap64 ((wrap64 (x13_1 + (l1.length : Int))) + 1)) : Int).toNat - (x13_1 : Int).toNat := (by rw [Ny237.out, List.length_drop, List.length_take] <;> omega)
      rw [show ((x11_1).take ((wrap64 ((wrap64 (x13_1 + (l1.length : Int))) + 1)) : Int).toNat).drop (x13_1 : Int).toNat = y237 from Ny237.out.symm] at hr35
      replace hr35 : Kd.C (Kd.int .u32) _ A35 y237.length y237 := (by rw [hA35]; exact hr35)
      rw [← hy35, ← hA35, ← hc35] at hcut35
      have HR240 := Aside0.mk hr35
      have HC240 := Aside0.mk (show y237.length ≤ c35 from by rw [hy35, hc35]; exact Nat.sub_le_sub_right (Nat.le_trans (by omega) hroom35) _)
      clear hr35 hC35 hroom35 hi035 hsz35
      have KC35 := Aside0.mk hc35
      clear hc35
      have KY35 := Aside0.mk hy35
      have KA35 := Aside0.mk hA35
      clear hy35 hA35
      have KL35 := Aside0.mk (show ((wrap64 ((wrap64 (x13_1 + (l1.length : Int))) + 1)) : Int).toNat ≤ x11_1.length from by omega)
      have KM35 := Aside0.mk (show (x13_1 : Int).toNat ≤ ((wrap64 ((wrap64 (x13_1 + (l1.length : Int))) + 1)) : Int).toNat from by omega)
      replace q35 := eq_true q35
      obtain ⟨Ao37, co37, eo37⟩ := Kd.R_slice HO_10.out
      subst eo37
      go_wp2_with (first | ((with_reducible refine gc 147 rfl ?_); refine gl (some 77) Tryz.func147 #[.slice A35 y237.length c35, .slice Ao37 t228.length co37] ?_; (with_reducible refine (natural_stepw.calls k1 (fun k_ => some k_ = (.slice Ao36 x11_1.length co36 : Value).ownBlock) (.slice Ao36 x11_1.length co36) x11_1 x13_1 (wrap64 ((wrap64 (x13_1 + (l1.length : Int))) + 1)) _ _ t228 t241 t242 w _ ?side1 ?side2 ?side3 ?side4 A32.out rfl KA35.out KY35.out KC35.out).mono ?_); (case side1 => repeat (first | (with_reducible first | exact HB.out | apply below_alloc | apply pw_below_drewN | apply below_drew1) | exact HB.out)); (case side2 => exact Kd.R_tight rfl HO_11.out); (case side3 => exact Kd.C_kept_own (HO_10.out) (fun k_ hk_ hs_ => (hk_.2.1) hs_)); (case side4 => exact (Kd.R_reads' HO_10.out).2.1); rintro e w38 ⟨rfl, hy0, hb, hkp⟩; refine ⟨_, rfl, ?_⟩; replace HO_10 := Aside0.mk (Kd.R_mono (ok' := fun k_ => (w.heap.size ≤ k_) ∧ some k_ ≠ (.slice Ao36 x11_1.length co36 : Value).ownBlock ∧ some k_ ≠ (.slice Ao27 x12_1.length co27 : Value).ownBlock) (Kd.R_keptB (HO_10.out) hkp (fun k_ hk_ hs_ => (hk_.2.1) hs_)) (fun k_ hk_ => ⟨hk_.1.1, hk_.1.2.1, hk_.1.2.2⟩)); replace HO_11 := Aside0.mk (Kd.R_reok rfl hy0 (fun k_ e_ => HO_11.out.1 k_ e_)); replace HO_12 := Aside0.mk (Kd.R_mono (ok' := fun k_ => (w.heap.size ≤ k_) ∧ some k_ ≠ (.slice Ao37 t228.length co37 : Value).ownBlock ∧ some k_ ≠ (.slice Ao36 x11_1.length co36 : Value).ownBlock) (Kd.R_keptB (HO_12.out) hkp (fun k_ hk_ hs_ => (hk_.2.2) hs_)) (fun k_ hk_ => ⟨hk_.1.1, hk_.1.2.1, hk_.1.2.2⟩)); replace HB := Aside0.mk (hb); (try clear hb hkp hy0); have p34 : 0 ≤ (x13_1 : Int) := oa; have q34 : (x13_1 : Int) < ((x12_1.length : Int) : Int) := oa; obtain ⟨go34, co34, eo34, gb34, gl34, cl34, HG34⟩ := Kd.R_form HO_12.out (by omega); (first | cases eo34 | (injection eo34 with ea_ en_ ec_; (first | subst ea_ | (injection ea_ with ea_; subst ea_)); subst ec_; clear en_)); have GB34 := Aside0.mk gb34; have GG34 := Aside0.mk HG34; clear gb34 gl34 HG34; obtain ⟨hx34_0, hf34_0⟩ := Kd.R_celln 0 HO_12.out (x13_1 : Int) p34 q34; replace p34 := eq_true p34; replace q34 := eq_true q34; obtain ⟨hy39_, hz39_⟩ := Kd.R_celln 0 HO_12.out (x13_1 : Int) oa oa; have HP39 := Kd.R_putg HO_12.out (x13_1 : Int) t241) | ((with_reducible refine gate_store (t := 52) (p := 78) rfl ?_); refine se 52 78 (w1 := (w38.setCell ⟨go34, (x13_1 : Int).toNat, none⟩ (.int .u32 t241))) ?_; intro w40 hw; have hg : w38.grownBy w40 (some go34) := (by rw [hw]; exact HP39.2); have hp_ : Kd.R (Kd.int .u32) 52 w40 w.heap.size (fun k_ => (w.heap.size ≤ k_) ∧ some k_ ≠ (.slice Ao37 t228.length co37 : Value).ownBlock ∧ some k_ ≠ (.slice Ao36 x11_1.length co36 : Value).ownBlock) (.slice (some ⟨go34, 0, none⟩) x12_1.length co27) y243 := (by rw [hw, Ny243.out]; exact HP39.1); clear HP39; replace HO_10 := Aside0.mk (Kd.R_after (v := (.slice (some ⟨go34, 0, none⟩) x12_1.length co27)) (v1 := (.slice (some ⟨go34, 0, none⟩) x12_1.length co27)) (ok := (fun k_ => (w.heap.size ≤ k_) ∧ some k_ ≠ (.slice Ao36 x11_1.length co36 : Value).ownBlock)) (rm HO_10.out (fun _ hk => ⟨⟨hk.1, hk.2.1⟩, hk.2.2⟩)) hg (.inl rfl)); replace HO_11 := Aside0.mk (Kd.R_after (v := (.slice (some ⟨go34, 0, none⟩) x12_1.length co27)) (v1 := (.slice (some ⟨go34, 0, none⟩) x12_1.length co27)) (ok := (fun k_ => (w.heap.size ≤ k_) ∧ some k_ ≠ (.slice Ao37 t228.length co37 : Value).ownBlock)) (rm HO_11.out (fun _ hk => ⟨⟨hk.1, hk.2.1⟩, hk.2.2⟩)) hg (.inl rfl)); replace HO_12 := Aside0.mk (hp_); replace HB := Aside0.mk ((by rw [hw]; exact below_set (HB.out) GB34.out : Below w.heap.size w w40)); clear hg hw hp_))
      (try simp only [← hl12_1])
      go_roundg k1
      case measure => have := HK1.out; omega
      case rel => exact ⟨(t242), (y243), (wrap64 (x13_1 - 1)), fs, H', ⟨by have := HK1.out; omega⟩, ⟨by (try simp only [hl12_1]); (with_reducible repeat (first | apply Kd.R_alloc | apply Kd.R_drewN | apply Kd.R_drew)); exact Kd.R_mono HO_10.out (fun _ hk => ⟨hk.1.1, ⟨hk.1.2, hk.2⟩⟩)⟩, ⟨by (try simp only [hl12_1]); (with_reducible repeat (first | apply Kd.R_alloc | apply Kd.R_drewN | apply Kd.R_drew)); exact Kd.R_mono HO_11.out (fun _ hk => ⟨hk.1.1, ⟨hk.1.2, hk.2⟩⟩)⟩, ⟨by (try simp only [hl12_1]); (with_reducible repeat (first | apply Kd.R_alloc | apply Kd.R_drewN | apply Kd.R_drew)); exact HO_12.out⟩, ⟨bz HB.out⟩⟩
     ·rw [if_neg c28] at H
      have c28b0 : decide (0 ≤ x13_1) = false := decide_eq_false c28
      clear c28
      obtain ⟨t244, A41, H⟩ := bs1 H
      obtain ⟨c42, H⟩ := iN H
      have c42b0 := eq_true c42
      have c42b1 : decide (0 ≤ (l1.length : Int)) = true := decide_eq_true c42
      (try (have c42b1_hl12_1 := c42b1; rw [hl12_1] at c42b1_hl12_1))
      clear c42
      obtain ⟨c43, H⟩ := iN H
      have c43b0 := eq_true c43
      have c43b1 : decide ((l1.length : Int) ≤ (x11_1.length : Int)) = true := decide_eq_true c43
      (try (have c43b1_hl12_1 := c43b1; rw [hl12_1] at c43b1_hl12_1))
      clear c43
      obtain ⟨y247, hy247⟩ : ∃ y_ : List Int, y_ = (x11_1.take ((l1.length : Int) : Int).toNat) := ⟨_, rfl⟩
      (try first | rw [← hy247] at H | (dsimp only at H; rw [← hy247] at H)); (try rw [Option.bind_some] at H)
      have Ny247 := Aside0.mk hy247
      clear hy247
      obtain ⟨t251, A44, H⟩ := bs1 H
      simp only [Option.some.injEq, Prod.mk.injEq] at H
      obtain ⟨rfl, rfl⟩ := H
      try go_wp2
      replace HO_10 := Aside0.mk (Kd.R_drew HO_10.out)
      replace HO_11 := Aside0.mk (Kd.R_drew HO_11.out)
      replace HO_12 := Aside0.mk (Kd.R_drew HO_12.out)
      replace HB := Aside0.mk (below_drew1 HB.out)
      obtain ⟨Ao47, co47, eo47⟩ := Kd.R_slice HO_11.out
      (first | subst eo47 | (injection eo47 with f1_ f2_ f3_; have f4_ := f1_.symm; have f5_ := f3_.symm; clear f1_ f2_ f3_; subst f4_; subst f5_))
      have q46 : ((l1.length : Int) : Int) ≤ ((x11_1.length : Int) : Int) := oa
      obtain ⟨i046, hi046, _, hsz46, _⟩ := info_parts info52
      have hroom46 : x11_1.length ≤ co47 := (Kd.R_reads' HO_11.out).2.1
      have hC46 : Kd.C (Kd.int .u32) _ Ao47 x11_1.length x11_1 := (Kd.R_reads' HO_11.out).2.2
      have hcut46 := cut_to (P := Tryz.prog) 88 52 .i64 Tryz.underlying88 hi046 Ao47 x11_1.length co47 (l1.length : Int) oa q46 hroom46
      have hr46 := Kd.C_take (m := ((l1.length : Int) : Int).toNat) hC46 (by omega)
      have hy46 : y247.length = ((l1.length : Int) : Int).toNat := (by rw [Ny247.out, List.length_take]; omega)
      rw [← Ny247.out] at hr46
      rw [← hy46] at hcut46
      have HR250 := Aside0.mk hr46
      have HC250 := Aside0.mk (show y247.length ≤ co47 from by omega)
      clear hr46 hC46 hroom46 hi046 hsz46
      have KY46 := Aside0.mk hy46
      clear hy46
      have KL46 := Aside0.mk (show ((l1.length : Int) : Int).toNat ≤ x11_1.length from by omega)
      replace q46 := eq_true q46
      refine start_ (n := 9) (S := fun w' => True) (ds := []) #[false, false, false, false, false, false, false, false, false] (by kernel_rfl) rfl rfl trivial (fun hHeld => ?_); refine with_tabW natural_divide.tab15 natural_divide.bits15 (fun HT_ HW_ => ?_)
      generalize wr.drew = w45 at HO_10 HO_11 HO_12 HB HR250 hHeld ⊢
      refine py 0 (some 79) #[true, false, false, false, false, false, false, false, false] HT_ ?_
      refine py 2 (some 81) #[true, false, true, false, false, false, false, false, false] HT_ ?_
      refine py 3 (some 82) #[true, false, true, true, false, false, false, false, false] HT_ ?_
      refine py 4 (some 83) #[true, false, true, true, true, false, false, false, false] HT_ ?_
      refine py 5 (some 84) #[true, false, true, true, true, true, false, false, false] HT_ ?_
      refine one_ (i := 1) (N := some 80) #[true, true, true, true, true, true, false, false, false] rfl rfl (one_of HT_.out (by kernel_rfl)) (by decide) (fun K hK => ?_)
      refine gs Tryz.func137 #[.slice Ao27 x12_1.length co27] ?_
      with_reducible refine (natural_limbs_trim.calls k1 (fun k_ => some k_ = (.slice Ao27 x12_1.length co27 : Value).ownBlock) _ _ x12_1 t244 _ ?side1 A41.out).mono ?_
      (case side1 => exact Kd.R_V (Kd.R_tight rfl (HO_12.out)))
      rintro e w48 ⟨v245, rfl, ho0, hb⟩
      refine ⟨_, rfl, ?_⟩
      have HO246 := Aside0.mk (Kd.V_lower (Kd.V_mono (ok' := fun k_ => (P0_ k_ ∨ w.heap.size ≤ k_) ∧ some k_ ≠ (v229 : Value).ownBlock ∧ some k_ ≠ (.slice Ao47 x11_1.length co47 : Value).ownBlock) ho0 (fun k_ hk_ => ⟨Or.elim hk_ (fun hs_ => (.inr (((HO_12.out).1 k_ hs_.symm).1))) (fun hn_ => (.inr (Nat.le_trans (sz HB.out) hn_))), Or.elim hk_ (fun hs_ => ((HO_12.out).1 k_ hs_.symm).2.1) (fun hn_ => (Kd.fresh' (Kd.R_lt (vs HO_10.out)) k_ hn_)), Or.elim hk_ (fun hs_ => ((HO_12.out).1 k_ hs_.symm).2.2) (fun hn_ => (Kd.fresh' (Kd.R_lt (vs HO_11.out)) k_ hn_))⟩)) (sz HB.out))
      replace HO_10 := Aside0.mk (rb HO_10.out hb)
      replace HO_11 := Aside0.mk (rb HO_11.out hb)
      replace HO_12 := Aside0.mk (rb HO_12.out hb)
      replace HR250 := Aside0.mk (Kd.C_below (by repeat (first | (with_reducible exact HR250.out) | (with_reducible refine Kd.C_alloc ?_ _) | (with_reducible refine Kd.C_drewN ?_ _) | (with_reducible refine Kd.C_drew ?_) | exact HR250.out)) hb)
      replace HB := Aside0.mk (bs HB.out hb)
      (try clear hb); (try clear hb2); (try clear hk); (try clear hi); (try clear ho0)
      refine hK.out _ _ trivial (fun hHeld => ?_)
      clear hK K
      refine nm ?_
      refine one_ (i := 6) (N := some 85) #[true, true, true, true, true, true, true, false, false] rfl rfl (one_of HT_.out (by kernel_rfl)) (by decide) (fun K hK => ?_)
      refine gs Tryz.func148 #[.slice Ao47 y247.length co47, .int .u64 (IntKind.u64.wrap (t227))] ?_
      with_reducible refine (natural_unshift.calls k1 _ _ y247 (IntKind.u64.wrap (t227)) t251 _ ?side1 ?side2 A44.out).mono ?_
      (case side1 => repeat (first | exact (by repeat (first | (with_reducible exact HR250.out) | (with_reducible refine Kd.C_alloc ?_ _) | (with_reducible refine Kd.C_drewN ?_ _) | (with_reducible refine Kd.C_drew ?_) | exact HR250.out)) | (with_reducible refine Kd.C_alloc ?_ _) | (with_reducible refine Kd.C_drewN ?_ _) | (with_reducible refine Kd.C_drew ?_)))
      (case side2 => exact HC250.out)
      rintro e w49 ⟨v252, rfl, ho0, hb⟩
      refine ⟨_, rfl, ?_⟩
      replace HO246 := Aside0.mk (vb HO246.out hb)
      have HO253 := Aside0.mk (Kd.V_lower (Kd.V_mono (ok' := fun k_ => (P0_ k_ ∨ w.heap.size ≤ k_) ∧ some k_ ≠ (v229 : Value).ownBlock ∧ some k_ ≠ (.slice Ao47 x11_1.length co47 : Value).ownBlock ∧ some k_ ≠ (.slice Ao27 x12_1.length co27 : Value).ownBlock) ho0 (fun k_ hk_ => ⟨(.inr (Nat.le_trans (sz HB.out) hk_)), (Kd.fresh' (Kd.R_lt (vs HO_10.out)) k_ hk_), (Kd.fresh' (Kd.R_lt (vs HO_11.out)) k_ hk_), (Kd.fresh' (Kd.R_lt (vs HO_12.out)) k_ hk_)⟩)) (sz HB.out))
      replace HO_10 := Aside0.mk (rb HO_10.out hb)
      replace HO_11 := Aside0.mk (rb HO_11.out hb)
      replace HO_12 := Aside0.mk (rb HO_12.out hb)
      replace HR250 := Aside0.mk (Kd.C_below (by repeat (first | (with_reducible exact HR250.out) | (with_reducible refine Kd.C_alloc ?_ _) | (with_reducible refine Kd.C_drewN ?_ _) | (with_reducible refine Kd.C_drew ?_) | exact HR250.out)) hb)
      replace HB := Aside0.mk (bs HB.out hb)
      (try clear hb); (try clear hb2); (try clear hk); (try clear hi); (try clear ho0)
      refine hK.out _ _ trivial (fun hHeld => ?_)
      clear hK K
      refine nm ?_
      refine py 7 (some 4) #[true, true, true, true, true, true, true, true, false] HT_ ?_
      refine py 8 (some 5) #[true, true, true, true, true, true, true, true, true] HT_ ?_
      refine done_ (done_of HT_.out (by kernel_rfl)) ?_
      try go_wp2
      go_ret2
      exact ⟨_, _, by first | rfl | (simp [errW_none, errW_some] <;> rfl) | (simp only [← hji14, ← hji20]; first | rfl | (simp [errW_none, errW_some] <;> rfl)) | (simp [*, errW_none, errW_some] <;> rfl), vm HO246.out (fun _ hk => hk.1), vm HO253.out (fun _ hk => hk.1), bz HB.out⟩

/-! ### natural_Divide: function 76 -/
def natural_Divide.f (k : Nat) (a0 : ByteArray) (a1 : ByteArray) : Option (ByteArray × ByteArray × Bool) := (natural_parse.f k a1).bind fun t254 => (if (t254.length : Int) = 0 then (some ((⟨#[]⟩ : ByteArray), (⟨#[]⟩ : ByteArray), false)) else ((natural_parse.f k a0).bind fun t257 => ((natural_divide.f k t257 t254).bind fun bt260 => ((natural_limbs_text.f k bt260.1).bind fun t266 => ((natural_limbs_text.f k bt260.2).bind fun t267 => (some (t266, t267, true)))))))
set_option maxHeartbeats 8000000 in
set_option maxRecDepth 100000 in
theorem natural_Divide.calls (k : Nat) (a0 : ByteArray) (a1 : ByteArray) (r1 : ByteArray) (r2 : ByteArray) (r3 : Bool) (w : World) (h : natural_Divide.f k a0 a1 = some (r1, r2, r3)) :
  Calls Tryz.prog 76 #[.string a0, .string a1] w fun e w' => e = .returned (.tuple #[.string r1, .string r2, .bool r3]) ∧ Below w.heap.size w w' := by
 have HB := Aside0.mk (Below.refl w.heap.size w)
 have H := h
 clear h
 unfold natural_Divide.f at H
 obtain ⟨t254, A3, H⟩ := bs1 H
 by_cases c4 : (t254.length : Int) = 0
 ·rw [if_pos c4] at H
  have c4b0 := beq_iff_eq.mpr c4
  have c4b1 := bne_eq_false_iff_eq.mpr c4
  clear c4
  simp only [Option.some.injEq, Prod.mk.injEq] at H
  obtain ⟨rfl, rfl, rfl⟩ := H
  go_enter Tryz.func76, Tryz.ntmps76
  go_wp2_with (first | ((with_reducible refine gc 109 rfl ?_); refine gl (some 11) Tryz.func109 #[.string a1] ?_; (with_reducible refine (natural_parse.calls k a1 t254 _ A3.out).mono ?_); rintro e w5 ⟨v255, rfl, ho0, hb⟩; refine ⟨_, rfl, ?_⟩; have HO256 := Aside0.mk (Kd.V_lower (Kd.V_mono (ok' := fun k_ => True) ho0 (fun k_ hk_ => trivial)) (sz HB.out)); replace HB := Aside0.mk (bs HB.out hb); (try clear hb ho0); obtain ⟨Ao6, co6, rfl⟩ := Kd.V_slice HO256.out))
  go_ret3
  exact ⟨fe, bz HB.out⟩
 ·rw [if_neg c4] at H
  have c4b0 := beq_eq_false_iff_ne.mpr c4
  have c4b1 := bne_iff_ne.mpr c4
  have c4b2 : ¬ (t254 = []) := fun h_ => c4 (by rw [h_]; rfl)
  obtain ⟨t257, A7, H⟩ := bs1 H
  obtain ⟨⟨t260, t263⟩, A8, H⟩ := bs1 H; dsimp only at H
  obtain ⟨t266, A9, H⟩ := bs1 H
  obtain ⟨t267, A10, H⟩ := bs1 H
  simp only [Option.some.injEq, Prod.mk.injEq] at H
  obtain ⟨rfl, rfl, rfl⟩ := H
  go_enter Tryz.func76, Tryz.ntmps76
  go_wp2_with (first | ((with_reducible refine gc 109 rfl ?_); refine gl (some 11) Tryz.func109 #[.string a1] ?_; (with_reducible refine (natural_parse.calls k a1 t254 _ A3.out).mono ?_); rintro e w11 ⟨v255, rfl, ho0, hb⟩; refine ⟨_, rfl, ?_⟩; have HO256 := Aside0.mk (Kd.V_lower (Kd.V_mono (ok' := fun k_ => True) ho0 (fun k_ hk_ => trivial)) (sz HB.out)); replace HB := Aside0.mk (bs HB.out hb); (try clear hb ho0); obtain ⟨Ao12, co12, rfl⟩ := Kd.V_slice HO256.out) | ((with_reducible refine gc 109 rfl ?_); refine gl (some 17) Tryz.func109 #[.string a0] ?_; (with_reducible refine (natural_parse.calls k a0 t257 _ A7.out).mono ?_); rintro e w13 ⟨v258, rfl, ho0, hb⟩; refine ⟨_, rfl, ?_⟩; replace HO256 := Aside0.mk (vb HO256.out hb); have HO259 := Aside0.mk (Kd.V_lower (Kd.V_mono (ok' := fun k_ => True) ho0 (fun k_ hk_ => trivial)) (sz HB.out)); replace HB := Aside0.mk (bs HB.out hb); (try clear hb ho0); obtain ⟨Ao14, co14, rfl⟩ := Kd.V_slice HO259.out) | ((with_reducible refine gc 120 rfl ?_); refine gl (some 19) Tryz.func120 #[.slice Ao14 t257.length co14, .slice Ao12 t254.length co12] ?_; (with_reducible refine (natural_divide.calls k (fun k_ => True) _ _ t257 _ _ t254 t260 t263 _ ?side1 ?side2 ?side3 A8.out).mono ?_); (case side1 => exact HO259.out); (case side2 => exact vs (Kd.V_reads' HO256.out).2.2); (case side3 => exact (Kd.V_reads' HO256.out).2.1); rintro e w15 ⟨v261, v264, rfl, ho0, ho1, hb⟩; refine ⟨_, rfl, ?_⟩; replace HO256 := Aside0.mk (vb HO256.out hb); replace HO259 := Aside0.mk (vb HO259.out hb); have HO262 := Aside0.mk (Kd.V_lower (Kd.V_mono (ok' := fun k_ => True) ho0 (fun k_ hk_ => trivial)) (sz HB.out)); have HO265 := Aside0.mk (Kd.V_lower (Kd.V_mono (ok' := fun k_ => True) ho1 (fun k_ hk_ => trivial)) (sz HB.out)); replace HB := Aside0.mk (bs HB.out hb); (try clear hb ho0 ho1); obtain ⟨Ao16, co16, rfl⟩ := Kd.V_slice HO262.out) | ((with_reducible refine gc 111 rfl ?_); refine gl (some 23) Tryz.func111 #[.slice Ao16 t260.length co16] ?_; (with_reducible refine (natural_limbs_text.calls k _ _ t260 t266 _ ?side1 ?side2 A9.out).mono ?_); (case side1 => exact vs (Kd.V_reads' HO262.out).2.2); (case side2 => exact (Kd.V_reads' HO262.out).2.1); rintro e w17 ⟨rfl, hb⟩; refine ⟨_, rfl, ?_⟩; replace HO256 := Aside0.mk (vb HO256.out hb); replace HO259 := Aside0.mk (vb HO259.out hb); replace HO262 := Aside0.mk (vb HO262.out hb); replace HO265 := Aside0.mk (vb HO265.out hb); replace HB := Aside0.mk (bs HB.out hb); (try clear hb); obtain ⟨Ao18, co18, rfl⟩ := Kd.V_slice HO265.out) | ((with_reducible refine gc 111 rfl ?_); refine gl (some 25) Tryz.func111 #[.slice Ao18 t263.length co18] ?_; (with_reducible refine (natural_limbs_text.calls k _ _ t263 t267 _ ?side1 ?side2 A10.out).mono ?_); (case side1 => exact vs (Kd.V_reads' HO265.out).2.2); (case side2 => exact (Kd.V_reads' HO265.out).2.1); rintro e w19 ⟨rfl, hb⟩; refine ⟨_, rfl, ?_⟩; replace HO256 := Aside0.mk (vb HO256.out hb); replace HO259 := Aside0.mk (vb HO259.out hb); replace HO262 := Aside0.mk (vb HO262.out hb); replace HO265 := Aside0.mk (vb HO265.out hb); replace HB := Aside0.mk (bs HB.out hb); (try clear hb)))
  go_ret3
  exact ⟨fe, bz HB.out⟩

/-! ### natural_GCD: function 108 -/
def natural_GCD.l0 : Nat → List Int → List Int → Option (ByteArray)
 | 0, _, _ => none
 | k + 1, x5, x6 => if (x6.length : Int) > 0 then ((natural_divide.f k x5 x6).bind fun bt274 => (natural_GCD.l0 k x6 bt274.2)) else ((natural_limbs_text.f k x5).bind fun t280 => (some t280))
def natural_GCD.f (k : Nat) (a0 : ByteArray) (a1 : ByteArray) : Option (ByteArray) := (natural_parse.f k a0).bind fun t268 => ((natural_parse.f k a1).bind fun t271 => (natural_GCD.l0 k t268 t271))
set_option maxHeartbeats 8000000 in
set_option maxRecDepth 100000 in
theorem natural_GCD.calls (k : Nat) (a0 : ByteArray) (a1 : ByteArray) (r : ByteArray) (w : World) (h : natural_GCD.f k a0 a1 = some r) :
  Calls Tryz.prog 108 #[.string a0, .string a1] w fun e w' => e = .returned (.string r) ∧ Below w.heap.size w w' := by
 have HB := Aside0.mk (Below.refl w.heap.size w)
 have H := h
 clear h
 unfold natural_GCD.f at H
 obtain ⟨t268, A3, H⟩ := bs1 H
 obtain ⟨t271, A4, H⟩ := bs1 H
 have H' := Aside0.mk H
 clear H
 go_enter Tryz.func108, Tryz.ntmps108
 go_wp2_with (first | ((with_reducible refine gc 109 rfl ?_); refine gl (some 10) Tryz.func109 #[.string a0] ?_; (with_reducible refine (natural_parse.calls k a0 t268 _ A3.out).mono ?_); rintro e w5 ⟨v269, rfl, ho0, hb⟩; refine ⟨_, rfl, ?_⟩; have HO270 := Aside0.mk (Kd.V_lower (Kd.V_mono (ok' := fun k_ => True) ho0 (fun k_ hk_ => trivial)) (sz HB.out)); replace HB := Aside0.mk (bs HB.out hb); (try clear hb ho0)) | ((with_reducible refine gc 109 rfl ?_); refine gl (some 12) Tryz.func109 #[.string a1] ?_; (with_reducible refine (natural_parse.calls k a1 t271 _ A4.out).mono ?_); rintro e w6 ⟨v272, rfl, ho0, hb⟩; refine ⟨_, rfl, ?_⟩; replace HO270 := Aside0.mk (vb HO270.out hb); have HO273 := Aside0.mk (Kd.V_lower (Kd.V_mono (ok' := fun k_ => True) ho0 (fun k_ hk_ => trivial)) (sz HB.out)); replace HB := Aside0.mk (bs HB.out hb); (try clear hb ho0)))
 go_loopg [5, 6] k (fun kq v5 v6 w' => ∃ (x5_1 : List Int) (x6_1 : List Int), Aside0 (natural_GCD.l0 kq x5_1 x6_1 = some r) ∧ Aside0 (kq ≤ k) ∧ Aside0 (Kd.V (Kd.int .u32) 52 w' w.heap.size (fun _ => True) v5 x5_1) ∧ Aside0 (Kd.V (Kd.int .u32) 52 w' w.heap.size (fun _ => True) v6 x6_1) ∧ Aside0 (Below w.heap.size w w'))
 case atStart => exact ⟨(t268), (t271), H', ⟨Nat.le_refl _⟩, ⟨vs HO270.out⟩, ⟨vs HO273.out⟩, ⟨bz HB.out⟩⟩
 case round =>
  clear H'
  obtain ⟨x5_1, x6_1, HA, HK1, HO_5, HO_6, HB⟩ := hrel
  cases gk with
  | zero => exact absurd HA.out (by simp [natural_GCD.l0])
  | succ k1 =>
   have H := HA.out
   clear HA
   simp only [natural_GCD.l0] at H
   by_cases c7 : (x6_1.length : Int) > 0
   ·rw [if_pos c7] at H
    have c7b0 : decide (0 < (x6_1.length : Int)) = true := decide_eq_true c7
    have c7b1 : decide (0 < x6_1.length) = true := decide_eq_true (by omega)
    clear c7
    obtain ⟨⟨t274, t277⟩, A8, H⟩ := bs1 H; dsimp only at H
    have H' := Aside0.mk H
    clear H
    obtain ⟨Ao9, co9, rfl⟩ := Kd.V_slice HO_6.out
    obtain ⟨Ao10, co10, rfl⟩ := Kd.V_slice HO_5.out
    go_wp2_with (first | ((with_reducible refine gc 120 rfl ?_); refine gl (some 19) Tryz.func120 #[.slice Ao10 x5_1.length co10, .slice Ao9 x6_1.length co9] ?_; (with_reducible refine (natural_divide.calls k1 (fun k_ => True) _ _ x5_1 _ _ x6_1 t274 t277 _ ?side1 ?side2 ?side3 A8.out).mono ?_); (case side1 => exact HO_5.out); (case side2 => exact vs (Kd.V_reads' HO_6.out).2.2); (case side3 => exact (Kd.V_reads' HO_6.out).2.1); rintro e w11 ⟨v275, v278, rfl, ho0, ho1, hb⟩; refine ⟨_, rfl, ?_⟩; replace HO_5 := Aside0.mk (vb HO_5.out hb); replace HO_6 := Aside0.mk (vb HO_6.out hb); have HO276 := Aside0.mk (Kd.V_lower (Kd.V_mono (ok' := fun k_ => True) ho0 (fun k_ hk_ => trivial)) (sz HB.out)); have HO279 := Aside0.mk (Kd.V_lower (Kd.V_mono (ok' := fun k_ => True) ho1 (fun k_ hk_ => trivial)) (sz HB.out)); replace HB := Aside0.mk (bs HB.out hb); (try clear hb ho0 ho1)))
    go_roundg k1
    case measure => have := HK1.out; omega
    case rel => exact ⟨(x6_1), (t277), H', ⟨by have := HK1.out; omega⟩, ⟨vs HO_6.out⟩, ⟨vs HO279.out⟩, ⟨bz HB.out⟩⟩
   ·rw [if_neg c7] at H
    have c7b0 : decide (0 < (x6_1.length : Int)) = false := decide_eq_false c7
    have c7b1 : decide (0 < x6_1.length) = false := decide_eq_false (by omega)
    clear c7
    obtain ⟨t280, A12, H⟩ := bs1 H
    obtain rfl := Option.some.inj H
    obtain ⟨Ao13, co13, rfl⟩ := Kd.V_slice HO_6.out
    obtain ⟨Ao14, co14, rfl⟩ := Kd.V_slice HO_5.out
    go_wp2_with (first | ((with_reducible refine gc 111 rfl ?_); refine gl (some 25) Tryz.func111 #[.slice Ao14 x5_1.length co14] ?_; (with_reducible refine (natural_limbs_text.calls k1 _ _ x5_1 t280 _ ?side1 ?side2 A12.out).mono ?_); (case side1 => exact vs (Kd.V_reads' HO_5.out).2.2); (case side2 => exact (Kd.V_reads' HO_5.out).2.1); rintro e w15 ⟨rfl, hb⟩; refine ⟨_, rfl, ?_⟩; replace HO_5 := Aside0.mk (vb HO_5.out hb); replace HO_6 := Aside0.mk (vb HO_6.out hb); replace HB := Aside0.mk (bs HB.out hb); (try clear hb)))
    go_ret
    exact ⟨fe, bz HB.out⟩
end Go.Proofs.YtgepdnoaemeofaaGreatDoor.A
