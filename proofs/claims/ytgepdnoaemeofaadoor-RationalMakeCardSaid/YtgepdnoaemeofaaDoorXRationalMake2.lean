/- Printed by a program of this session (wip/tools) out of the translation: plain functions and the proofs that the code comes to their answers. -/
import Derived.Test.YtgepdnoaemeofaaDoorXRationalMake1
namespace Go.Proofs.YtgepdnoaemeofaaDoor.M
open Go.RowKit Go.Proofs.YtgepdnoaemeofaaDoorW.PrintWords Go.Proofs.YtgepdnoaemeofaaDoorW.PrintLast Go.Proofs.YtgepdnoaemeofaaDoorW.PrintMore Go.Proofs.YtgepdnoaemeofaaDoorW.PK
attribute [local go_sem] max2_int min2_int max_two min_two max_three min_three max_four min_four   -- for this text's walks alone
set_option linter.unusedVariables false
set_option linter.unusedSimpArgs false

/-! ### natural_divide: function 55 -/
def natural_divide.l0 : Nat → Int → Int → List Int → List Int → List Int → Int → Option (List Int × List Int)
 | 0, _, _, _, _, _, _ => none
 | k + 1, x8, x9, x10, x11, x12, x13 => if x13 ≥ 0 then (if 0 ≤ x13 then (if x13 ≤ (wrap64 ((wrap64 (x13 + x9)) + 1)) then (if (wrap64 ((wrap64 (x13 + x9)) + 1)) ≤ (x11.length : Int) then ((natural_stepw.f k x11 x13 (wrap64 ((wrap64 (x13 + x9)) + 1)) x10).bind fun bt204 => (if x13 < (x12.length : Int) then (natural_divide.l0 k x8 x9 x10 bt204.2 (x12.set (x13 : Int).toNat bt204.1) (wrap64 (x13 - 1))) else (none))) else (none)) else (none)) else (none)) else ((natural_limbs_trim.f k x12).bind fun t207 => (if 0 ≤ x9 then (if x9 ≤ (x11.length : Int) then ((natural_unshift.f k (x11.take (x9 : Int).toNat) x8).bind fun t214 => (some (t207, t214))) else (none)) else (none)))
def natural_divide.f (k : Nat) (l0 : List Int) (l1 : List Int) : Option (List Int × List Int) := (natural_compare.f k l0 l1).bind fun t177 => (if t177 < 0 then (some (([] : List Int), l0)) else (if (l1.length : Int) = 1 then (if 0 < (l1.length : Int) then ((natural_divideSmall.f k l0 (rd l1 0)).bind fun bt179 => ((natural_limbs_trim.f k (([bt179.2] : List Int))).bind fun t186 => (some (bt179.1, t186)))) else (none)) else (if 0 ≤ (wrap64 ((l1.length : Int) - 1)) then (if (wrap64 ((l1.length : Int) - 1)) < (l1.length : Int) then ((bits_LeadingZeros32.f (rd l1 (wrap64 ((l1.length : Int) - 1)))).bind fun t190 => ((natural_shift.f k l1 (IntKind.u64.wrap (t190)) (l1.length : Int)).bind fun t191 => ((natural_shift.f k l0 (IntKind.u64.wrap (t190)) (wrap64 ((l0.length : Int) + 1))).bind fun t194 => (if 0 ≤ (wrap64 ((wrap64 ((l0.length : Int) - (l1.length : Int))) + 1)) then (if (wrap64 ((wrap64 ((l0.length : Int) - (l1.length : Int))) + 1) : Int).toNat ≤ 70368744177664 then ((some (List.replicate (wrap64 ((wrap64 ((l0.length : Int) - (l1.length : Int))) + 1) : Int).toNat 0 : List Int)).bind fun y197 => (natural_divide.l0 k (IntKind.u64.wrap (t190)) (l1.length : Int) t191 t194 y197 (wrap64 ((y197.length : Int) - 1)))) else (none)) else (none))))) else (none)) else (none))))
theorem natural_divide.mono_l : ∀ k, (∀ y0 y1 y2 y3 y4 y5, LeO (natural_divide.l0 k y0 y1 y2 y3 y4 y5) (natural_divide.l0 (k + 1) y0 y1 y2 y3 y4 y5))
 | 0 => fun _ _ _ _ _ _ r h => by simp [natural_divide.l0] at h
 | k + 1 => by
  have ih0 := natural_divide.mono_l k
  ·intro y0 y1 y2 y3 y4 y5
   unfold natural_divide.l0
   repeat' with_reducible first | exact ih0 _ _ _ _ _ _ | exact natural_compare.mono _ _ _ | exact natural_divideSmall.mono _ _ _ | exact natural_limbs_trim.mono _ _ | exact natural_shift.mono _ _ _ _ | exact natural_stepw.mono _ _ _ _ _ | exact natural_unshift.mono _ _ _ | exact LeO.refl _ | exact LeO.none _ | refine LeO.ite ?_ ?_ | refine LeO.bind ?_ (fun _ => ?_)
theorem natural_divide.mono : ∀ a0 a1 k, LeO (natural_divide.f k a0 a1) (natural_divide.f (k + 1) a0 a1) := by
 intro a0 a1 k
 have ih0 := natural_divide.mono_l k
 unfold natural_divide.f
 repeat' with_reducible first | exact ih0 _ _ _ _ _ _ | exact natural_compare.mono _ _ _ | exact natural_divideSmall.mono _ _ _ | exact natural_limbs_trim.mono _ _ | exact natural_shift.mono _ _ _ _ | exact natural_stepw.mono _ _ _ _ _ | exact natural_unshift.mono _ _ _ | exact LeO.refl _ | exact LeO.none _ | refine LeO.ite ?_ ?_ | refine LeO.bind ?_ (fun _ => ?_)
def natural_divide.T15 : Bool × List (List Nat × List Nat) := (true, [([], []), ([0], [0]), ([], []), ([], []), ([2, 3], [2, 3]), ([], []), ([4, 5, 1], [4, 5]), ([1, 6, 0, 1], [1]), ([6, 7, 0, 1, 2, 3, 4, 5, 6, 7], [6])])
def natural_divide.B15 : List Nat := [0, 1, 0, 0, 12, 0, 63, 127, 255]
theorem natural_divide.tab15 : rtab .any (opsOf Tryd.f55 15) = natural_divide.T15 := by kernel_rfl
theorem natural_divide.bits15 : waitsOk natural_divide.T15.2 natural_divide.B15 = true := by kernel_rfl
set_option maxHeartbeats 8000000 in
set_option maxRecDepth 100000 in
theorem natural_divide.calls (k : Nat) (P0_ : Nat → Prop) (A0 : Option Addr) (c0 : Nat) (l0 : List Int) (A1 : Option Addr) (c1 : Nat) (l1 : List Int) (r1 : List Int) (r2 : List Int) (w : World) (hs0 : Kd.V (Kd.int .u32) 72 w w.heap.size (fun k_ => P0_ k_) (.slice A0 l0.length c0) l0) (hr1 : Kd.C (Kd.int .u32) w A1 l1.length l1) (hc1 : l1.length ≤ c1) (h : natural_divide.f k l0 l1 = some (r1, r2)) :
  Calls Tryd.prog 55 #[.slice A0 l0.length c0, .slice A1 l1.length c1] w fun e w' => ∃ v0_ v1_ : Value, e = .returned (.tuple #[v0_, v1_]) ∧ Kd.V (Kd.int .u32) 72 w' w.heap.size (fun k_ => (P0_ k_ ∨ w.heap.size ≤ k_)) v0_ r1 ∧ Kd.V (Kd.int .u32) 72 w' w.heap.size (fun k_ => (P0_ k_ ∨ w.heap.size ≤ k_)) v1_ r2 ∧ Below w.heap.size w w' := by
 have HO0 := Aside0.mk (show Kd.V (Kd.int .u32) 72 w w.heap.size (fun k_ => (P0_ k_ ∨ w.heap.size ≤ k_)) (.slice A0 l0.length c0) l0 from Kd.V_mono hs0 (fun k_ hk => .inl hk))
 have HR1 := Aside0.mk hr1
 have HC1 := Aside0.mk hc1
 clear hr1 hc1
 have HB := Aside0.mk (Below.refl w.heap.size w)
 have H := h
 clear h
 unfold natural_divide.f at H
 obtain ⟨t177, A3, H⟩ := bs1 H
 by_cases c4 : t177 < 0
 ·rw [if_pos c4] at H
  have c4b0 : decide (t177 < 0) = true := decide_eq_true c4
  clear c4
  simp only [Option.some.injEq, Prod.mk.injEq] at H
  obtain ⟨rfl, rfl⟩ := H
  go_enter Tryd.func55, Tryd.ntmps55
  go_wp2_with (first | ((with_reducible refine gc 81 rfl ?_); refine gl (some 16) Tryd.func81 #[.slice A0 l0.length c0, .slice A1 l1.length c1] ?_; (with_reducible refine (natural_compare.calls k _ _ l0 _ _ l1 t177 _ ?side1 ?side2 ?side3 ?side4 A3.out).mono ?_); (case side1 => exact vs (Kd.V_reads' HO0.out).2.2); (case side2 => exact (Kd.V_reads' HO0.out).2.1); (case side3 => repeat (first | exact HR1.out | (with_reducible refine Kd.C_alloc ?_ _) | (with_reducible refine Kd.C_drewN ?_ _) | (with_reducible refine Kd.C_drew ?_))); (case side4 => exact HC1.out); rintro e w' ⟨rfl, ⟨nd, rfl⟩⟩; refine ⟨_, rfl, ?_⟩))
  go_ret2
  exact ⟨_, _, fe, (by first | exact Kd.V_nil _ _ _ _ _ | exact Kd.V_mono (Kd.R_V (by first | exact Kd.R_nil _ _ _ _ _ | exact Kd.N_nil _ _ _ _ _ | exact Kd.V_nil _ _ _ _ _ | exact Kd.Q_nil _ _ _ _ _ | exact Kd.S_nil _ _ _ _ _)) (fun k_ hk => by first | exact ⟨(.inr (hk.1)), hk.2⟩ | exact (.inr (hk)))), vs HO0.out, bz HB.out⟩
 ·rw [if_neg c4] at H
  have c4b0 : decide (t177 < 0) = false := decide_eq_false c4
  clear c4
  by_cases c5 : (l1.length : Int) = 1
  ·rw [if_pos c5] at H
   have c5b0 := beq_iff_eq.mpr c5
   have c5b1 := bne_eq_false_iff_eq.mpr c5
   clear c5
   obtain ⟨c6, H⟩ := iN H
   have c6b0 : decide (0 < (l1.length : Int)) = true := decide_eq_true c6
   have c6b1 : decide (0 < l1.length) = true := decide_eq_true (by omega)
   clear c6
   obtain ⟨⟨t179, t182⟩, A7, H⟩ := bs1 H; dsimp only at H
   obtain ⟨y183, hy183⟩ : ∃ y_ : List Int, y_ = (([t182] : List Int)) := ⟨_, rfl⟩
   (try first | rw [← hy183] at H | (dsimp only at H; rw [← hy183] at H)); (try rw [Option.bind_some] at H)
   have Ny183 := Aside0.mk hy183
   clear hy183
   obtain ⟨t186, A8, H⟩ := bs1 H
   simp only [Option.some.injEq, Prod.mk.injEq] at H
   obtain ⟨rfl, rfl⟩ := H
   go_enter Tryd.func55, Tryd.ntmps55
   go_wp2_with (first | ((with_reducible refine gc 81 rfl ?_); refine gl (some 16) Tryd.func81 #[.slice A0 l0.length c0, .slice A1 l1.length c1] ?_; (with_reducible refine (natural_compare.calls k _ _ l0 _ _ l1 t177 _ ?side1 ?side2 ?side3 ?side4 A3.out).mono ?_); (case side1 => exact vs (Kd.V_reads' HO0.out).2.2); (case side2 => exact (Kd.V_reads' HO0.out).2.1); (case side3 => repeat (first | exact HR1.out | (with_reducible refine Kd.C_alloc ?_ _) | (with_reducible refine Kd.C_drewN ?_ _) | (with_reducible refine Kd.C_drew ?_))); (case side4 => exact HC1.out); rintro e w' ⟨rfl, ⟨nd, rfl⟩⟩; refine ⟨_, rfl, ?_⟩; have p178 : 0 ≤ (0 : Int) := (by omega); have q178 : 0 < (l1.length : Int) := oa; obtain ⟨ad178, e178, hx178_0⟩ := Kd.at_int HR1.out 0 p178 q178; cases e178; have qi178 : (0 < l1.length) = True := eq_true (by omega); (try rw [show ((0 : Int)).toNat = 0 from rfl] at hx178_0); (try rw [Addr.add_zero'] at hx178_0); replace p178 := eq_true p178; replace q178 := eq_true q178) | ((with_reducible refine gc 68 rfl ?_); refine gl (some 27) Tryd.func68 #[.slice A0 l0.length c0, .int .u32 (rd l1 0)] ?_; (with_reducible refine (natural_divideSmall.calls k _ _ l0 (rd l1 0) t179 t182 _ ?side1 ?side2 A7.out).mono ?_); (case side1 => exact vs (Kd.V_reads' HO0.out).2.2); (case side2 => exact (Kd.V_reads' HO0.out).2.1); rintro e w9 ⟨v180, rfl, ho0, hb⟩; refine ⟨_, rfl, ?_⟩; replace HO0 := Aside0.mk (vb HO0.out hb); have HO181 := Aside0.mk (Kd.V_lower (Kd.V_mono (ok' := fun k_ => (P0_ k_ ∨ w.heap.size ≤ k_)) ho0 (fun k_ hk_ => (.inr (Nat.le_trans (sz HB.out) hk_)))) (sz HB.out)); replace HB := Aside0.mk (bs HB.out hb); (try clear hb ho0)) | ((with_reducible refine gd 32 rfl ?_); refine Kd.R_lit (Kd.int .u32) _ 72 ?hg (N := 32) ?hd (xs := ([t182] : List Int)) (inner := [.int .u32 t182]) (ok := fun _ => True) (okp := fun _ => True) ?hr ?hp (fun _ hk => hk) trivial (Below.refl _ _) (Nat.le_refl _) (by simp) ?_; (case hd => rfl); (case hg => rfl); (case hr => first | (go_simp; done) | (go_simp; rfl)); (case hp => exact (Reps.one (show Kd.M (Kd.int .u32) _ _ _ t182 [.int .u32 t182] from rfl) (Reps.none _ _))); intro v184 w10 ho11 hb hg_ hnew_; clear hg_ hnew_; (first | rw [← Ny183.out] at ho11 | (simp only [Int.reduceToNat] at ho11; rw [← Ny183.out] at ho11)); replace HO0 := Aside0.mk (Kd.V_elder' (vs HO0.out) (Kd.R_base ho11) hb); replace HO181 := Aside0.mk (Kd.V_elder' (vs HO181.out) (Kd.R_base ho11) hb); have HO185 := Aside0.mk (Kd.R_lower (Kd.R_newM (M := fun k_ => (w.heap.size ≤ k_)) ho11 (sz HB.out) (fun k_ h_ => h_)) (sz HB.out)); replace HB := Aside0.mk (bs HB.out hb); clear hb ho11; obtain ⟨Ao12, co12, eo12⟩ := Kd.R_slice HO185.out; subst eo12) | ((with_reducible refine gc 80 rfl ?_); refine gl (some 33) Tryd.func80 #[.slice Ao12 y183.length co12] ?_; (with_reducible refine (natural_limbs_trim.calls k (fun k_ => some k_ = (.slice Ao12 y183.length co12 : Value).ownBlock) _ _ y183 t186 _ ?side1 A8.out).mono ?_); (case side1 => exact Kd.R_V (Kd.R_tight rfl (HO185.out))); rintro e w13 ⟨v187, rfl, ho0, hb⟩; refine ⟨_, rfl, ?_⟩; replace HO0 := Aside0.mk (vb HO0.out hb); replace HO181 := Aside0.mk (vb HO181.out hb); have HO188 := Aside0.mk (Kd.V_lower (Kd.V_mono (ok' := fun k_ => (P0_ k_ ∨ w.heap.size ≤ k_)) ho0 (fun k_ hk_ => Or.elim hk_ (fun hs_ => (.inr (((HO185.out).1 k_ hs_.symm).1))) (fun hn_ => (.inr (Nat.le_trans (sz HB.out) hn_))))) (sz HB.out)); replace HO185 := Aside0.mk (rb HO185.out hb); replace HB := Aside0.mk (bs HB.out hb); (try clear hb ho0)))
   go_ret2
   exact ⟨_, _, fe, vm HO181.out (fun _ hk => hk.1), vs HO188.out, bz HB.out⟩
  ·rw [if_neg c5] at H
   have c5b0 := beq_eq_false_iff_ne.mpr c5
   have c5b1 := bne_iff_ne.mpr c5
   obtain ⟨ji14, hji14⟩ : ∃ j_ : Int, (wrap64 ((l1.length : Int) - 1)) = j_ := ⟨_, rfl⟩
   first | rw [hji14] at H | simp only [hji14] at H
   (try rw [hji14] at A3)
   have hji14w : (IntKind.i64.wrap ((l1.length : Int) - 1)) = ji14 := (i64_w _).trans hji14
   obtain ⟨c15, H⟩ := iN H
   have c15b0 : decide (0 ≤ (ji14)) = true := decide_eq_true c15
   clear c15
   obtain ⟨c16, H⟩ := iN H
   have c16b0 : decide ((ji14) < (l1.length : Int)) = true := decide_eq_true c16
   clear c16
   obtain ⟨t190, A17, H⟩ := bs1 H
   obtain ⟨t191, A18, H⟩ := bs1 H
   obtain ⟨t194, A19, H⟩ := bs1 H
   obtain ⟨ji20, hji20⟩ : ∃ j_ : Int, (wrap64 ((wrap64 ((l0.length : Int) - (l1.length : Int))) + 1)) = j_ := ⟨_, rfl⟩
   first | rw [hji20] at H | simp only [hji20] at H
   (try rw [hji20] at A3)
   (try rw [hji20] at A17)
   (try rw [hji20] at A18)
   (try rw [hji20] at A19)
   have hji20w : (IntKind.i64.wrap ((wrap64 ((l0.length : Int) - (l1.length : Int))) + 1)) = ji20 := (i64_w _).trans hji20
   obtain ⟨c21, H⟩ := iN H
   have c21b0 := eq_true c21
   have c21b1 : decide (0 ≤ (ji20)) = true := decide_eq_true c21
   clear c21
   obtain ⟨c22, H⟩ := iN H
   have c22b0 := eq_true c22
   have c22b1 : decide ((ji20 : Int).toNat ≤ 70368744177664) = true := decide_eq_true c22
   clear c22
   obtain ⟨y197, hy197⟩ : ∃ y_ : List Int, y_ = (List.replicate (ji20 : Int).toNat 0) := ⟨_, rfl⟩
   (try first | rw [← hy197] at H | (dsimp only at H; rw [← hy197] at H)); (try rw [Option.bind_some] at H)
   have Ny197 := Aside0.mk hy197
   clear hy197
   have H' := Aside0.mk H
   clear H
   go_enter Tryd.func55, Tryd.ntmps55
   go_wp2_with (first | ((with_reducible refine gc 81 rfl ?_); refine gl (some 16) Tryd.func81 #[.slice A0 l0.length c0, .slice A1 l1.length c1] ?_; (with_reducible refine (natural_compare.calls k _ _ l0 _ _ l1 t177 _ ?side1 ?side2 ?side3 ?side4 A3.out).mono ?_); (case side1 => exact vs (Kd.V_reads' HO0.out).2.2); (case side2 => exact (Kd.V_reads' HO0.out).2.1); (case side3 => repeat (first | exact HR1.out | (with_reducible refine Kd.C_alloc ?_ _) | (with_reducible refine Kd.C_drewN ?_ _) | (with_reducible refine Kd.C_drew ?_))); (case side4 => exact HC1.out); rintro e w' ⟨rfl, ⟨nd, rfl⟩⟩; refine ⟨_, rfl, ?_⟩; have p189 : 0 ≤ ((ji14) : Int) := oa; have q189 : (ji14) < (l1.length : Int) := oa; obtain ⟨ad189, e189, hx189_0⟩ := Kd.at_int HR1.out (ji14) p189 q189; cases e189; replace p189 := eq_true p189; replace q189 := eq_true q189) | ((with_reducible refine gc 82 rfl ?_); refine goesL_ (some 40) rfl rfl Tryd.func82 (by kernel_rfl) rfl #[.int .u32 (rd l1 (ji14))] rfl (by (try simp only [List.map_toArray, List.map_cons, List.map_nil]); first | done | (simp only [hji14]; rfl) | rfl | (simp only [List.length_drop, List.length_take]; rfl)) ?_; (with_reducible refine (bits_LeadingZeros32.calls (rd l1 (ji14)) t190 _ A17.out).mono ?_); rintro e w' ⟨rfl, ⟨nd, rfl⟩⟩; refine ⟨_, rfl, ?_⟩) | ((with_reducible refine gc 83 rfl ?_); refine gl (some 47) Tryd.func83 #[.slice (some ad189) l1.length c1, .int .u64 (IntKind.u64.wrap (t190)), .int .i64 (l1.length : Int)] ?_; (with_reducible refine (natural_shift.calls k _ _ l1 (IntKind.u64.wrap (t190)) (l1.length : Int) t191 _ ?side1 ?side2 A18.out).mono ?_); (case side1 => repeat (first | exact HR1.out | (with_reducible refine Kd.C_alloc ?_ _) | (with_reducible refine Kd.C_drewN ?_ _) | (with_reducible refine Kd.C_drew ?_))); (case side2 => exact HC1.out); rintro e w23 ⟨v192, rfl, ho0, hb⟩; refine ⟨_, rfl, ?_⟩; replace HO0 := Aside0.mk (Kd.V_elder' (vs HO0.out) (Kd.R_base ho0) hb); have HO193 := Aside0.mk (Kd.R_lower (Kd.R_newM (M := fun k_ => (w.heap.size ≤ k_)) ho0 (sz HB.out) (fun k_ h_ => h_)) (sz HB.out)); replace HB := Aside0.mk (bs HB.out hb); (try clear hb ho0)) | ((with_reducible refine gc 83 rfl ?_); refine gl (some 53) Tryd.func83 #[.slice A0 l0.length c0, .int .u64 (IntKind.u64.wrap (t190)), .int .i64 (wrap64 ((l0.length : Int) + 1))] ?_; (with_reducible refine (natural_shift.calls k _ _ l0 (IntKind.u64.wrap (t190)) (wrap64 ((l0.length : Int) + 1)) t194 _ ?side1 ?side2 A19.out).mono ?_); (case side1 => exact vs (Kd.V_reads' HO0.out).2.2); (case side2 => exact (Kd.V_reads' HO0.out).2.1); rintro e w24 ⟨v195, rfl, ho0, hb⟩; refine ⟨_, rfl, ?_⟩; replace HO0 := Aside0.mk (Kd.V_elder' (vs HO0.out) (Kd.R_base ho0) hb); have HO196 := Aside0.mk (Kd.R_lower (Kd.R_new' (Kd.R_newM (M := fun k_ => (w.heap.size ≤ k_)) ho0 (sz HB.out) (fun k_ h_ => h_)) (Kd.R_lt (vs HO193.out))) (sz HB.out)); replace HO193 := Aside0.mk (Kd.R_elder' (vs HO193.out) (Kd.R_base ho0) hb); replace HB := Aside0.mk (bs HB.out hb); (try clear hb ho0)) | ((with_reducible refine gd 59 rfl ?_); refine Kd.R_make (Kd.int .u32) _ 72 rfl (N := 59) rfl 65 _ _ rfl ji20 rfl rfl Tryd.underlying65 (.int .u32 0) 4 info72 rfl (by decide) (by omega) 0 (ok := fun _ => True) (okp := fun _ => True) rfl (fun _ hk => hk) trivial oa (Nat.le_trans (Nat.mul_le_mul_right _ (oa : ji20.toNat ≤ 70368744177664)) (by omega)) (Below.refl _ _) (Nat.le_refl _) ?_; intro v198 w25 ho26 hb hg_ hnew_; clear hg_ hnew_; (first | rw [← Ny197.out] at ho26 | (simp only [Int.reduceToNat] at ho26; rw [← Ny197.out] at ho26)); replace HO0 := Aside0.mk (Kd.V_elder' (vs HO0.out) (Kd.R_base ho26) hb); have HO199 := Aside0.mk (Kd.R_lower (Kd.R_new' (Kd.R_new' (Kd.R_newM (M := fun k_ => (w.heap.size ≤ k_)) ho26 (sz HB.out) (fun k_ h_ => h_)) (Kd.R_lt (vs HO193.out))) (Kd.R_lt (vs HO196.out))) (sz HB.out)); replace HO193 := Aside0.mk (Kd.R_elder' (vs HO193.out) (Kd.R_base ho26) hb); replace HO196 := Aside0.mk (Kd.R_elder' (vs HO196.out) (Kd.R_base ho26) hb); replace HB := Aside0.mk (bs HB.out hb); clear hb ho26; obtain ⟨Ao27, co27, eo27⟩ := Kd.R_slice HO199.out; subst eo27))
   go_loopg [13] k (fun kq v13 w' => ∃ (x11_1 : List Int) (x12_1 : List Int) (x13_1 : Int), v13 = .int .i64 x13_1 ∧ Aside0 (natural_divide.l0 kq (IntKind.u64.wrap (t190)) (l1.length : Int) t191 x11_1 x12_1 x13_1 = some (r1, r2)) ∧ Aside0 (kq ≤ k) ∧ Aside0 (Kd.R (Kd.int .u32) 72 w' w.heap.size (fun k_ => (w.heap.size ≤ k_) ∧ some k_ ≠ (v195 : Value).ownBlock ∧ some k_ ≠ ((.slice Ao27 y197.length co27) : Value).ownBlock) v192 t191) ∧ Aside0 (Kd.R (Kd.int .u32) 72 w' w.heap.size (fun k_ => (w.heap.size ≤ k_) ∧ some k_ ≠ (v192 : Value).ownBlock ∧ some k_ ≠ ((.slice Ao27 y197.length co27) : Value).ownBlock) v195 x11_1) ∧ Aside0 (Kd.R (Kd.int .u32) 72 w' w.heap.size (fun k_ => (w.heap.size ≤ k_) ∧ some k_ ≠ (v192 : Value).ownBlock ∧ some k_ ≠ (v195 : Value).ownBlock) (.slice Ao27 y197.length co27) x12_1) ∧ Aside0 (Below w.heap.size w w'))
   case atStart => exact ⟨(t194), (y197), (wrap64 ((y197.length : Int) - 1)), fs, H', ⟨Nat.le_refl _⟩, ⟨rm HO193.out (fun _ hk => ⟨hk.1.1.1, ⟨hk.1.2, hk.2⟩⟩)⟩, ⟨rm HO196.out (fun _ hk => ⟨hk.1.1.1, ⟨hk.1.2, hk.2⟩⟩)⟩, ⟨rm HO199.out (fun _ hk => ⟨hk.1.1.1, ⟨hk.1.2, hk.2⟩⟩)⟩, ⟨bz HB.out⟩⟩
   case round =>
    clear H'
    (try clear c1); (try clear c4b0); (try clear c5b0); (try clear c5b1); (try clear c6b0); (try clear c6b1); (try clear c15b0); (try clear c16b0); (try clear c21b0); (try clear c21b1); (try clear c22b0); (try clear c22b1); (try clear hx178_0); (try clear hx189_0); (try clear p178); (try clear p189); (try clear q178); (try clear q189)
    obtain ⟨x11_1, x12_1, x13_1, rfl, HA, HK1, HO_10, HO_11, HO_12, HB⟩ := hrel
    have hl12_1 := (Kd.R_reads' HO_12.out).1
    rw [hl12_1] at HO_12
    (try simp only [hl12_1])
    (try simp only [hl12_1] at HO_10)
    (try simp only [hl12_1] at HO_11)
    cases gk with
    | zero => exact absurd HA.out (by simp [natural_divide.l0])
    | succ k1 =>
     have H := HA.out
     clear HA
     simp only [natural_divide.l0] at H
     by_cases c28 : x13_1 ≥ 0
     ·rw [if_pos c28] at H
      have c28b0 : decide (0 ≤ x13_1) = true := decide_eq_true c28
      clear c28
      obtain ⟨c29, H⟩ := iN H
      have c29b0 := eq_true c29
      have c29b1 : decide (0 ≤ x13_1) = true := decide_eq_true c29
      clear c29
      obtain ⟨c30, H⟩ := iN H
      have c30b0 := eq_true c30
      have c30b1 : decide (x13_1 ≤ (wrap64 ((wrap64 (x13_1 + (l1.length : Int))) + 1))) = true := decide_eq_true c30
      (try (have c30b1_hl12_1 := c30b1; rw [hl12_1] at c30b1_hl12_1))
      obtain ⟨c31, H⟩ := iN H
      have c31b0 := eq_true c31
      have c31b1 : decide ((wrap64 ((wrap64 (x13_1 + (l1.length : Int))) + 1)) ≤ (x11_1.length : Int)) = true := decide_eq_true c31
      (try (have c31b1_hl12_1 := c31b1; rw [hl12_1] at c31b1_hl12_1))
      obtain ⟨y200, hy200⟩ : ∃ y_ : List Int, y_ = ((x11_1.take ((wrap64 ((wrap64 (x13_1 + (l1.length : Int))) + 1)) : Int).toNat).drop (x13_1 : Int).toNat) := ⟨_, rfl⟩
      (try first | rw [← hy200] at H | (dsimp only at H; rw [← hy200] at H)); (try rw [Option.bind_some] at H)
      have Ny200 := Aside0.mk hy200
      clear hy200
      obtain ⟨⟨t204, t205⟩, A32, H⟩ := bs1 H; dsimp only at H
      obtain ⟨c33, H⟩ := iN H
      have c33b0 : decide (x13_1 < (x12_1.length : Int)) = true := decide_eq_true c33
      (try (have c33b0_hl12_1 := c33b0; rw [hl12_1] at c33b0_hl12_1))
      clear c33
      obtain ⟨y206, hy206⟩ : ∃ y_ : List Int, y_ = (x12_1.set (x13_1 : Int).toNat t204) := ⟨_, rfl⟩
      (try first | rw [← hy206] at H | (dsimp only at H; rw [← hy206] at H)); (try rw [Option.bind_some] at H)
      have Ny206 := Aside0.mk hy206
      clear hy206
      have H' := Aside0.mk H
      clear H
      obtain ⟨Ao36, co36, eo36⟩ := Kd.R_slice HO_11.out
      subst eo36
      have q35 : ((wrap64 ((wrap64 (x13_1 + (l1.length : Int))) + 1)) : Int) ≤ ((x11_1.length : Int) : Int) := oa
      obtain ⟨i035, hi035, _, hsz35, _⟩ := info_parts info72
      have hroom35 : x11_1.length ≤ co36 := (Kd.R_reads' HO_11.out).2.1
      have hC35 : Kd.C (Kd.int .u32) _ Ao36 x11_1.length x11_1 := (Kd.R_reads' HO_11.out).2.2
      have ql35 : (x13_1 : Int) ≤ ((wrap64 ((wrap64 (x13_1 + (l1.length : Int))) + 1)) : Int) := oa
      have q035 : (0 : Int) ≤ (x13_1 : Int) := oa
      have hcut35 := cut_mid (P := Tryd.prog) 65 72 .i64 .i64 Tryd.underlying65 hi035 1 hsz35 Ao36 x11_1.length co36 x13_1 (wrap64 ((wrap64 (x13_1 + (l1.length : Int))) + 1)) q035 ql35 q35 hroom35
      have hr35 := Kd.C_mid (lo := (x13_1 : Int).toNat) (hi := ((wrap64 ((wrap64 (x13_1 + (l1.length : Int))) + 1)) : Int).toNat) (c := co36) hC35 (by omega) (by omega) hroom35
      obtain ⟨A35, hA35⟩ : ∃ A1, A1 = (if co36 = (x13_1 : Int).toNat then Ao36 else (Ao36 : Option Addr).map (·.add ((x13_1 : Int).toNat * 1))) := ⟨_, rfl⟩
      obtain ⟨c35, hc35⟩ : ∃ c1, c1 = co36 - (x13_1 : Int).toNat := ⟨_, rfl⟩
      have hy35 : y200.length = ((wrap64 ((wrap64 (x13_1 + (l1.length : Int))) + 1)) : Int).toNat - (x13_1 : Int).toNat := (by rw [Ny200.out, List.length_drop, List.length_take] <;> omega)
      rw [show ((x11_1).take ((wrap64 ((wrap64 (x13_1 + (l1.length : Int))) + 1)) : Int).toNat).drop (x13_1 : Int).toNat = y200 from Ny200.out.symm] at hr35
      replace hr35 : Kd.C (Kd.int .u32) _ A35 y200.length y200 := (by rw [hA35]; exact hr35)
      rw [← hy35, ← hA35, ← hc35] at hcut35
      have HR203 := Aside0.mk hr35
      have HC203 := Aside0.mk (show y200.length ≤ c35 from by rw [hy35, hc35]; exact Nat.sub_le_sub_right (Nat.le_trans (by omega) hroom35) _)
      clear hr35 hC35 hroom35 hi035 hsz35
      have KC35 := Aside0.mk hc35
      clear hc35
      have KY35 := Aside0.mk hy35
      have KA35 := Aside0.mk hA35
      clear hy35 hA35
      have KL35 := Aside0.mk (show ((wrap64 ((wrap64 (x13_1 + (l1.length : Int))) + 1)) : Int).toNat ≤ x11_1.length from by omega)
      have KM35 := Aside0.mk (show (x13_1 : Int).toNat ≤ ((wrap64 ((wrap64 (x13_1 + (l1.length : Int))) + 1)) : Int).toNat from by omega)
      replace q35 := eq_true q35
      obtain ⟨Ao37, co37, eo37⟩ := Kd.R_slice HO_10.out
      subst eo37
      go_wp2_with (first | ((with_reducible refine gc 84 rfl ?_); refine gl (some 77) Tryd.func84 #[.slice A35 y200.length c35, .slice Ao37 t191.length co37] ?_; (with_reducible refine (natural_stepw.calls k1 (fun k_ => some k_ = (.slice Ao36 x11_1.length co36 : Value).ownBlock) (.slice Ao36 x11_1.length co36) x11_1 x13_1 (wrap64 ((wrap64 (x13_1 + (l1.length : Int))) + 1)) _ _ t191 t204 t205 w _ ?side1 ?side2 ?side3 ?side4 A32.out rfl KA35.out KY35.out KC35.out).mono ?_); (case side1 => repeat (first | (with_reducible first | exact HB.out | apply below_alloc | apply pw_below_drewN | apply below_drew1) | exact HB.out)); (case side2 => exact Kd.R_tight rfl HO_11.out); (case side3 => exact Kd.C_kept_own (HO_10.out) (fun k_ hk_ hs_ => (hk_.2.1) hs_)); (case side4 => exact (Kd.R_reads' HO_10.out).2.1); rintro e w38 ⟨rfl, hy0, hb, hkp⟩; refine ⟨_, rfl, ?_⟩; replace HO_10 := Aside0.mk (Kd.R_mono (ok' := fun k_ => (w.heap.size ≤ k_) ∧ some k_ ≠ (.slice Ao36 x11_1.length co36 : Value).ownBlock ∧ some k_ ≠ (.slice Ao27 x12_1.length co27 : Value).ownBlock) (Kd.R_keptB (HO_10.out) hkp (fun k_ hk_ hs_ => (hk_.2.1) hs_)) (fun k_ hk_ => ⟨hk_.1.1, hk_.1.2.1, hk_.1.2.2⟩)); replace HO_11 := Aside0.mk (Kd.R_reok rfl hy0 (fun k_ e_ => HO_11.out.1 k_ e_)); replace HO_12 := Aside0.mk (Kd.R_mono (ok' := fun k_ => (w.heap.size ≤ k_) ∧ some k_ ≠ (.slice Ao37 t191.length co37 : Value).ownBlock ∧ some k_ ≠ (.slice Ao36 x11_1.length co36 : Value).ownBlock) (Kd.R_keptB (HO_12.out) hkp (fun k_ hk_ hs_ => (hk_.2.2) hs_)) (fun k_ hk_ => ⟨hk_.1.1, hk_.1.2.1, hk_.1.2.2⟩)); replace HB := Aside0.mk (hb); (try clear hb hkp hy0); have p34 : 0 ≤ (x13_1 : Int) := oa; have q34 : (x13_1 : Int) < ((x12_1.length : Int) : Int) := oa; obtain ⟨go34, co34, eo34, gb34, gl34, cl34, HG34⟩ := Kd.R_form HO_12.out (by omega); (first | cases eo34 | (injection eo34 with ea_ en_ ec_; (first | subst ea_ | (injection ea_ with ea_; subst ea_)); subst ec_; clear en_)); have GB34 := Aside0.mk gb34; have GG34 := Aside0.mk HG34; clear gb34 gl34 HG34; obtain ⟨hx34_0, hf34_0⟩ := Kd.R_celln 0 HO_12.out (x13_1 : Int) p34 q34; replace p34 := eq_true p34; replace q34 := eq_true q34; obtain ⟨hy39_, hz39_⟩ := Kd.R_celln 0 HO_12.out (x13_1 : Int) oa oa; have HP39 := Kd.R_putg HO_12.out (x13_1 : Int) t204) | ((with_reducible refine gate_store (t := 72) (p := 78) rfl ?_); refine se 72 78 (w1 := (w38.setCell ⟨go34, (x13_1 : Int).toNat, none⟩ (.int .u32 t204))) ?_; intro w40 hw; have hg : w38.grownBy w40 (some go34) := (by rw [hw]; exact HP39.2); have hp_ : Kd.R (Kd.int .u32) 72 w40 w.heap.size (fun k_ => (w.heap.size ≤ k_) ∧ some k_ ≠ (.slice Ao37 t191.length co37 : Value).ownBlock ∧ some k_ ≠ (.slice Ao36 x11_1.length co36 : Value).ownBlock) (.slice (some ⟨go34, 0, none⟩) x12_1.length co27) y206 := (by rw [hw, Ny206.out]; exact HP39.1); clear HP39; replace HO_10 := Aside0.mk (Kd.R_after (v := (.slice (some ⟨go34, 0, none⟩) x12_1.length co27)) (v1 := (.slice (some ⟨go34, 0, none⟩) x12_1.length co27)) (ok := (fun k_ => (w.heap.size ≤ k_) ∧ some k_ ≠ (.slice Ao36 x11_1.length co36 : Value).ownBlock)) (rm HO_10.out (fun _ hk => ⟨⟨hk.1, hk.2.1⟩, hk.2.2⟩)) hg (.inl rfl)); replace HO_11 := Aside0.mk (Kd.R_after (v := (.slice (some ⟨go34, 0, none⟩) x12_1.length co27)) (v1 := (.slice (some ⟨go34, 0, none⟩) x12_1.length co27)) (ok := (fun k_ => (w.heap.size ≤ k_) ∧ some k_ ≠ (.slice Ao37 t191.length co37 : Value).ownBlock)) (rm HO_11.out (fun _ hk => ⟨⟨hk.1, hk.2.1⟩, hk.2.2⟩)) hg (.inl rfl)); replace HO_12 := Aside0.mk (hp_); replace HB := Aside0.mk ((by rw [hw]; exact below_set (HB.out) GB34.out : Below w.heap.size w w40)); clear hg hw hp_))
      (try simp only [← hl12_1])
      go_roundg k1
      case measure => have := HK1.out; omega
      case rel => exact ⟨(t205), (y206), (wrap64 (x13_1 - 1)), fs, H', ⟨by have := HK1.out; omega⟩, ⟨by (try simp only [hl12_1]); (with_reducible repeat (first | apply Kd.R_alloc | apply Kd.R_drewN | apply Kd.R_drew)); exact Kd.R_mono HO_10.out (fun _ hk => ⟨hk.1.1, ⟨hk.1.2, hk.2⟩⟩)⟩, ⟨by (try simp only [hl12_1]); (with_reducible repeat (first | apply Kd.R_alloc | apply Kd.R_drewN | apply Kd.R_drew)); exact Kd.R_mono HO_11.out (fun _ hk => ⟨hk.1.1, ⟨hk.1.2, hk.2⟩⟩)⟩, ⟨by (try simp only [hl12_1]); (with_reducible repeat (first | apply Kd.R_alloc | apply Kd.R_drewN | apply Kd.R_drew)); exact HO_12.out⟩, ⟨bz HB.out⟩⟩
     ·rw [if_neg c28] at H
      have c28b0 : decide (0 ≤ x13_1) = false := decide_eq_false c28
      clear c28
      obtain ⟨t207, A41, H⟩ := bs1 H
      obtain ⟨c42, H⟩ := iN H
      have c42b0 := eq_true c42
      have c42b1 : decide (0 ≤ (l1.length : Int)) = true := decide_eq_true c42
      (try (have c42b1_hl12_1 := c42b1; rw [hl12_1] at c42b1_hl12_1))
      clear c42
      obtain ⟨c43, H⟩ := iN H
      have c43b0 := eq_true c43
      have c43b1 : decide ((l1.length : Int) ≤ (x11_1.length : Int)) = true := decide_eq_true c43
      (try (have c43b1_hl12_1 := c43b1; rw [hl12_1] at c43b1_hl12_1))
      clear c43
      obtain ⟨y210, hy210⟩ : ∃ y_ : List Int, y_ = (x11_1.take ((l1.length : Int) : Int).toNat) := ⟨_, rfl⟩
      (try first | rw [← hy210] at H | (dsimp only at H; rw [← hy210] at H)); (try rw [Option.bind_some] at H)
      have Ny210 := Aside0.mk hy210
      clear hy210
      obtain ⟨t214, A44, H⟩ := bs1 H
      simp only [Option.some.injEq, Prod.mk.injEq] at H
      obtain ⟨rfl, rfl⟩ := H
      try go_wp2
      replace HO_10 := Aside0.mk (Kd.R_drew HO_10.out)
      replace HO_11 := Aside0.mk (Kd.R_drew HO_11.out)
      replace HO_12 := Aside0.mk (Kd.R_drew HO_12.out)
      replace HB := Aside0.mk (below_drew1 HB.out)
      obtain ⟨Ao47, co47, eo47⟩ := Kd.R_slice HO_11.out
      (first | subst eo47 | (injection eo47 with f1_ f2_ f3_; have f4_ := f1_.symm; have f5_ := f3_.symm; clear f1_ f2_ f3_; subst f4_; subst f5_))
      have q46 : ((l1.length : Int) : Int) ≤ ((x11_1.length : Int) : Int) := oa
      obtain ⟨i046, hi046, _, hsz46, _⟩ := info_parts info72
      have hroom46 : x11_1.length ≤ co47 := (Kd.R_reads' HO_11.out).2.1
      have hC46 : Kd.C (Kd.int .u32) _ Ao47 x11_1.length x11_1 := (Kd.R_reads' HO_11.out).2.2
      have hcut46 := cut_to (P := Tryd.prog) 65 72 .i64 Tryd.underlying65 hi046 Ao47 x11_1.length co47 (l1.length : Int) oa q46 hroom46
      have hr46 := Kd.C_take (m := ((l1.length : Int) : Int).toNat) hC46 (by omega)
      have hy46 : y210.length = ((l1.length : Int) : Int).toNat := (by rw [Ny210.out, List.length_take]; omega)
      rw [← Ny210.out] at hr46
      rw [← hy46] at hcut46
      have HR213 := Aside0.mk hr46
      have HC213 := Aside0.mk (show y210.length ≤ co47 from by omega)
      clear hr46 hC46 hroom46 hi046 hsz46
      have KY46 := Aside0.mk hy46
      clear hy46
      have KL46 := Aside0.mk (show ((l1.length : Int) : Int).toNat ≤ x11_1.length from by omega)
      replace q46 := eq_true q46
      refine start_ (n := 9) (S := fun w' => True) (ds := []) #[false, false, false, false, false, false, false, false, false] (by kernel_rfl) rfl rfl trivial (fun hHeld => ?_); refine with_tabW natural_divide.tab15 natural_divide.bits15 (fun HT_ HW_ => ?_)
      generalize wr.drew = w45 at HO_10 HO_11 HO_12 HB HR213 hHeld ⊢
      refine py 0 (some 79) #[true, false, false, false, false, false, false, false, false] HT_ ?_
      refine py 2 (some 81) #[true, false, true, false, false, false, false, false, false] HT_ ?_
      refine py 3 (some 82) #[true, false, true, true, false, false, false, false, false] HT_ ?_
      refine py 4 (some 83) #[true, false, true, true, true, false, false, false, false] HT_ ?_
      refine py 5 (some 84) #[true, false, true, true, true, true, false, false, false] HT_ ?_
      refine one_ (i := 1) (N := some 80) #[true, true, true, true, true, true, false, false, false] rfl rfl (one_of HT_.out (by kernel_rfl)) (by decide) (fun K hK => ?_)
      refine gs Tryd.func80 #[.slice Ao27 x12_1.length co27] ?_
      with_reducible refine (natural_limbs_trim.calls k1 (fun k_ => some k_ = (.slice Ao27 x12_1.length co27 : Value).ownBlock) _ _ x12_1 t207 _ ?side1 A41.out).mono ?_
      (case side1 => exact Kd.R_V (Kd.R_tight rfl (HO_12.out)))
      rintro e w48 ⟨v208, rfl, ho0, hb⟩
      refine ⟨_, rfl, ?_⟩
      have HO209 := Aside0.mk (Kd.V_lower (Kd.V_mono (ok' := fun k_ => (P0_ k_ ∨ w.heap.size ≤ k_) ∧ some k_ ≠ (v192 : Value).ownBlock ∧ some k_ ≠ (.slice Ao47 x11_1.length co47 : Value).ownBlock) ho0 (fun k_ hk_ => ⟨Or.elim hk_ (fun hs_ => (.inr (((HO_12.out).1 k_ hs_.symm).1))) (fun hn_ => (.inr (Nat.le_trans (sz HB.out) hn_))), Or.elim hk_ (fun hs_ => ((HO_12.out).1 k_ hs_.symm).2.1) (fun hn_ => (Kd.fresh' (Kd.R_lt (vs HO_10.out)) k_ hn_)), Or.elim hk_ (fun hs_ => ((HO_12.out).1 k_ hs_.symm).2.2) (fun hn_ => (Kd.fresh' (Kd.R_lt (vs HO_11.out)) k_ hn_))⟩)) (sz HB.out))
      replace HO_10 := Aside0.mk (rb HO_10.out hb)
      replace HO_11 := Aside0.mk (rb HO_11.out hb)
      replace HO_12 := Aside0.mk (rb HO_12.out hb)
      replace HR213 := Aside0.mk (Kd.C_below (by repeat (first | (with_reducible exact HR213.out) | (with_reducible refine Kd.C_alloc ?_ _) | (with_reducible refine Kd.C_drewN ?_ _) | (with_reducible refine Kd.C_drew ?_) | exact HR213.out)) hb)
      replace HB := Aside0.mk (bs HB.out hb)
      (try clear hb); (try clear hb2); (try clear hk); (try clear hi); (try clear ho0)
      refine hK.out _ _ trivial (fun hHeld => ?_)
      clear hK K
      refine nm ?_
      refine one_ (i := 6) (N := some 85) #[true, true, true, true, true, true, true, false, false] rfl rfl (one_of HT_.out (by kernel_rfl)) (by decide) (fun K hK => ?_)
      refine gs Tryd.func85 #[.slice Ao47 y210.length co47, .int .u64 (IntKind.u64.wrap (t190))] ?_
      with_reducible refine (natural_unshift.calls k1 _ _ y210 (IntKind.u64.wrap (t190)) t214 _ ?side1 ?side2 A44.out).mono ?_
      (case side1 => repeat (first | exact (by repeat (first | (with_reducible exact HR213.out) | (with_reducible refine Kd.C_alloc ?_ _) | (with_reducible refine Kd.C_drewN ?_ _) | (with_reducible refine Kd.C_drew ?_) | exact HR213.out)) | (with_reducible refine Kd.C_alloc ?_ _) | (with_reducible refine Kd.C_drewN ?_ _) | (with_reducible refine Kd.C_drew ?_)))
      (case side2 => exact HC213.out)
      rintro e w49 ⟨v215, rfl, ho0, hb⟩
      refine ⟨_, rfl, ?_⟩
      replace HO209 := Aside0.mk (vb HO209.out hb)
      have HO216 := Aside0.mk (Kd.V_lower (Kd.V_mono (ok' := fun k_ => (P0_ k_ ∨ w.heap.size ≤ k_) ∧ some k_ ≠ (v192 : Value).ownBlock ∧ some k_ ≠ (.slice Ao47 x11_1.length co47 : Value).ownBlock ∧ some k_ ≠ (.slice Ao27 x12_1.length co27 : Value).ownBlock) ho0 (fun k_ hk_ => ⟨(.inr (Nat.le_trans (sz HB.out) hk_)), (Kd.fresh' (Kd.R_lt (vs HO_10.out)) k_ hk_), (Kd.fresh' (Kd.R_lt (vs HO_11.out)) k_ hk_), (Kd.fresh' (Kd.R_lt (vs HO_12.out)) k_ hk_)⟩)) (sz HB.out))
      replace HO_10 := Aside0.mk (rb HO_10.out hb)
      replace HO_11 := Aside0.mk (rb HO_11.out hb)
      replace HO_12 := Aside0.mk (rb HO_12.out hb)
      replace HR213 := Aside0.mk (Kd.C_below (by repeat (first | (with_reducible exact HR213.out) | (with_reducible refine Kd.C_alloc ?_ _) | (with_reducible refine Kd.C_drewN ?_ _) | (with_reducible refine Kd.C_drew ?_) | exact HR213.out)) hb)
      replace HB := Aside0.mk (bs HB.out hb)
      (try clear hb); (try clear hb2); (try clear hk); (try clear hi); (try clear ho0)
      refine hK.out _ _ trivial (fun hHeld => ?_)
      clear hK K
      refine nm ?_
      refine py 7 (some 4) #[true, true, true, true, true, true, true, true, false] HT_ ?_
      refine py 8 (some 5) #[true, true, true, true, true, true, true, true, true] HT_ ?_
      refine done_ (done_of HT_.out (by kernel_rfl)) ?_
      try go_wp2
      go_ret2
      exact ⟨_, _, by first | rfl | (simp [errW_none, errW_some] <;> rfl) | (simp only [← hji14, ← hji20]; first | rfl | (simp [errW_none, errW_some] <;> rfl)) | (simp [*, errW_none, errW_some] <;> rfl), vm HO209.out (fun _ hk => hk.1), vm HO216.out (fun _ hk => hk.1), bz HB.out⟩

/-! ### natural_limbs_text: function 56 -/
def natural_limbs_text.l0 : Nat → List Int → List Int → Int → Int → Option (ByteArray)
 | 0, _, _, _, _ => none
 | k + 1, x0, x3, x10, x11 => if x11 < x10 then (if 0 ≤ (wrap64 (Int.tdiv x11 4)) then (if (wrap64 (Int.tdiv x11 4)) < (x0.length : Int) then (if 0 ≤ (wrap64 (8 * (Int.tmod x11 4))) then (if 0 ≤ (wrap64 ((wrap64 ((x3.length : Int) - 1)) - x11)) then (if (wrap64 ((wrap64 ((x3.length : Int) - 1)) - x11)) < (x3.length : Int) then (natural_limbs_text.l0 k x0 (x3.set ((wrap64 ((wrap64 ((x3.length : Int) - 1)) - x11)) : Int).toNat ((shr .u32 (rd x0 (wrap64 (Int.tdiv x11 4))) (wrap64 (8 * (Int.tmod x11 4)))) % 256)) x10 (wrap64 (x11 + 1))) else (none)) else (none)) else (none)) else (none)) else (none)) else ((natural_Normalize.f k (strOfNums x3)).bind fun t222 => (some t222))
def natural_limbs_text.f (k : Nat) (l0 : List Int) : Option (ByteArray) := if 0 ≤ (wrap64 ((l0.length : Int) * 4)) then (if (wrap64 ((l0.length : Int) * 4) : Int).toNat ≤ 281474976710656 then ((some (List.replicate (wrap64 ((l0.length : Int) * 4) : Int).toNat 0 : List Int)).bind fun y217 => (natural_limbs_text.l0 k l0 y217 (y217.length : Int) 0)) else (none)) else (none)
theorem natural_limbs_text.mono_l : ∀ k, (∀ y0 y1 y2 y3, LeO (natural_limbs_text.l0 k y0 y1 y2 y3) (natural_limbs_text.l0 (k + 1) y0 y1 y2 y3))
 | 0 => fun _ _ _ _ r h => by simp [natural_limbs_text.l0] at h
 | k + 1 => by
  have ih0 := natural_limbs_text.mono_l k
  ·intro y0 y1 y2 y3
   unfold natural_limbs_text.l0
   repeat' with_reducible first | exact ih0 _ _ _ _ | exact natural_Normalize.mono _ _ | exact LeO.refl _ | exact LeO.none _ | refine LeO.ite ?_ ?_ | refine LeO.bind ?_ (fun _ => ?_)
theorem natural_limbs_text.mono : ∀ a0 k, LeO (natural_limbs_text.f k a0) (natural_limbs_text.f (k + 1) a0) := by
 intro a0 k
 have ih0 := natural_limbs_text.mono_l k
 unfold natural_limbs_text.f
 repeat' with_reducible first | exact ih0 _ _ _ _ | exact natural_Normalize.mono _ _ | exact LeO.refl _ | exact LeO.none _ | refine LeO.ite ?_ ?_ | refine LeO.bind ?_ (fun _ => ?_)
set_option maxHeartbeats 8000000 in
set_option maxRecDepth 100000 in
theorem natural_limbs_text.calls (k : Nat) (A0 : Option Addr) (c0 : Nat) (l0 : List Int) (r : ByteArray) (w : World) (hr0 : Kd.C (Kd.int .u32) w A0 l0.length l0) (hc0 : l0.length ≤ c0) (h : natural_limbs_text.f k l0 = some r) :
  Calls Tryd.prog 56 #[.slice A0 l0.length c0] w fun e w' => e = .returned (.string r) ∧ Below w.heap.size w w' := by
 have HR0 := Aside0.mk hr0
 have HC0 := Aside0.mk hc0
 clear hr0 hc0
 have HB := Aside0.mk (Below.refl w.heap.size w)
 have H := h
 clear h
 unfold natural_limbs_text.f at H
 obtain ⟨ji2, hji2⟩ : ∃ j_ : Int, (wrap64 ((l0.length : Int) * 4)) = j_ := ⟨_, rfl⟩
 first | rw [hji2] at H | simp only [hji2] at H
 have hji2w : (IntKind.i64.wrap ((l0.length : Int) * 4)) = ji2 := (i64_w _).trans hji2
 obtain ⟨c3, H⟩ := iN H
 have c3b0 := eq_true c3
 have c3b1 : decide (0 ≤ (ji2)) = true := decide_eq_true c3
 clear c3
 obtain ⟨c4, H⟩ := iN H
 have c4b0 := eq_true c4
 have c4b1 : decide ((ji2 : Int).toNat ≤ 281474976710656) = true := decide_eq_true c4
 clear c4
 obtain ⟨y217, hy217⟩ : ∃ y_ : List Int, y_ = (List.replicate (ji2 : Int).toNat 0) := ⟨_, rfl⟩
 (try first | rw [← hy217] at H | (dsimp only at H; rw [← hy217] at H)); (try rw [Option.bind_some] at H)
 have Ny217 := Aside0.mk hy217
 clear hy217
 have H' := Aside0.mk H
 clear H
 go_enter Tryd.func56, Tryd.ntmps56
 go_wp2_with (first | ((with_reducible refine gd 8 rfl ?_); refine Kd.R_make (Kd.int .u8) _ 5 rfl (N := 8) rfl 82 _ _ rfl ji2 rfl rfl Tryd.underlying82 (.int .u8 0) 1 info5 rfl (by decide) (by omega) 0 (ok := fun _ => True) (okp := fun _ => True) rfl (fun _ hk => hk) trivial oa (Nat.le_trans (Nat.mul_le_mul_right _ (oa : ji2.toNat ≤ 281474976710656)) (by omega)) (Below.refl _ _) (Nat.le_refl _) ?_; intro v218 w5 ho6 hb hg_ hnew_; clear hg_ hnew_; (first | rw [← Ny217.out] at ho6 | (simp only [Int.reduceToNat] at ho6; rw [← Ny217.out] at ho6)); have HO219 := Aside0.mk (Kd.R_lower ho6 (sz HB.out)); replace HB := Aside0.mk (bs HB.out hb); clear hb ho6; obtain ⟨Ao7, co7, eo7⟩ := Kd.R_slice HO219.out; subst eo7))
 go_loopg [11] k (fun kq v11 w' => ∃ (x3_1 : List Int) (x11_1 : Int), v11 = .int .i64 x11_1 ∧ Aside0 (natural_limbs_text.l0 kq l0 x3_1 (y217.length : Int) x11_1 = some r) ∧ Aside0 (kq ≤ k) ∧ Aside0 (Kd.R (Kd.int .u8) 5 w' w.heap.size (fun _ => True) (.slice Ao7 y217.length co7) x3_1) ∧ Aside0 (Below w.heap.size w w'))
 case atStart => exact ⟨(y217), (0), fs, H', ⟨Nat.le_refl _⟩, ⟨vs HO219.out⟩, ⟨bz HB.out⟩⟩
 case round =>
  clear H'
  (try clear c3b0); (try clear c3b1); (try clear c4b0); (try clear c4b1)
  obtain ⟨x3_1, x11_1, rfl, HA, HK1, HO_3, HB⟩ := hrel
  have hl3_1 := (Kd.R_reads' HO_3.out).1
  rw [hl3_1] at HO_3
  (try simp only [hl3_1])
  cases gk with
  | zero => exact absurd HA.out (by simp [natural_limbs_text.l0])
  | succ k1 =>
   have H := HA.out
   clear HA
   simp only [natural_limbs_text.l0] at H
   by_cases c8 : x11_1 < (y217.length : Int)
   ·rw [if_pos c8] at H
    have c8b0 : decide (x11_1 < (y217.length : Int)) = true := decide_eq_true c8
    (try (have c8b0_hl3_1 := c8b0; rw [hl3_1] at c8b0_hl3_1))
    clear c8
    obtain ⟨ji9, hji9⟩ : ∃ j_ : Int, (wrap64 (Int.tdiv x11_1 4)) = j_ := ⟨_, rfl⟩
    first | rw [hji9] at H | simp only [hji9] at H
    have hji9w : (IntKind.i64.wrap (Int.tdiv x11_1 4)) = ji9 := (i64_w _).trans hji9
    obtain ⟨c10, H⟩ := iN H
    have c10b0 : decide (0 ≤ (ji9)) = true := decide_eq_true c10
    clear c10
    obtain ⟨c11, H⟩ := iN H
    have c11b0 : decide ((ji9) < (l0.length : Int)) = true := decide_eq_true c11
    (try (have c11b0_hl3_1 := c11b0; rw [hl3_1] at c11b0_hl3_1))
    clear c11
    obtain ⟨ji12, hji12⟩ : ∃ j_ : Int, (wrap64 (8 * (Int.tmod x11_1 4))) = j_ := ⟨_, rfl⟩
    first | rw [hji12] at H | simp only [hji12] at H
    have hji12w : (IntKind.i64.wrap (8 * (Int.tmod x11_1 4))) = ji12 := (i64_w _).trans hji12
    obtain ⟨c13, H⟩ := iN H
    have c13b0 := eq_true c13
    have c13b1 : decide (0 ≤ (ji12)) = true := decide_eq_true c13
    clear c13
    obtain ⟨ji14, hji14⟩ : ∃ j_ : Int, (shr .u32 (rd l0 (ji9)) (ji12)) = j_ := ⟨_, rfl⟩
    first | rw [hji14] at H | simp only [hji14] at H
    have hji14_ : ((rd l0 (ji9)) / 2 ^ min (ji12).toNat 32) = ji14 := hji14
    have hji14z : (ji12) ≤ 32 → ((rd l0 (ji9)) / 2 ^ (ji12).toNat) = ji14 := shr_small hji14
    obtain ⟨ji15, hji15⟩ : ∃ j_ : Int, (wrap64 ((wrap64 ((x3_1.length : Int) - 1)) - x11_1)) = j_ := ⟨_, rfl⟩
    first | rw [hji15] at H | simp only [hji15] at H
    have hji15w : (IntKind.i64.wrap ((wrap64 ((x3_1.length : Int) - 1)) - x11_1)) = ji15 := (i64_w _).trans hji15
    obtain ⟨c16, H⟩ := iN H
    have c16b0 : decide (0 ≤ (ji15)) = true := decide_eq_true c16
    clear c16
    obtain ⟨c17, H⟩ := iN H
    have c17b0 : decide ((ji15) < (x3_1.length : Int)) = true := decide_eq_true c17
    (try (have c17b0_hl3_1 := c17b0; rw [hl3_1] at c17b0_hl3_1))
    clear c17
    obtain ⟨y221, hy221⟩ : ∃ y_ : List Int, y_ = (x3_1.set ((ji15) : Int).toNat ((ji14) % 256)) := ⟨_, rfl⟩
    (try first | rw [← hy221] at H | (dsimp only at H; rw [← hy221] at H)); (try rw [Option.bind_some] at H)
    have Ny221 := Aside0.mk hy221
    clear hy221
    have H' := Aside0.mk H
    clear H
    have p220 : 0 ≤ ((ji9) : Int) := oa
    have q220 : (ji9) < (l0.length : Int) := oa
    obtain ⟨ad220, e220, hx220_0⟩ := Kd.at_int HR0.out (ji9) p220 q220
    cases e220
    try replace hx220_0 := (HB.out.cell (World.block_lt_of_cell? w _ hx220_0)).trans hx220_0
    replace p220 := eq_true p220
    replace q220 := eq_true q220
    have p18 : 0 ≤ ((ji15) : Int) := oa
    have q18 : ((ji15) : Int) < ((x3_1.length : Int) : Int) := oa
    obtain ⟨go18, co18, eo18, gb18, gl18, cl18, HG18⟩ := Kd.R_form HO_3.out (by omega)
    (first | cases eo18 | (injection eo18 with ea_ en_ ec_; (first | subst ea_ | (injection ea_ with ea_; subst ea_)); subst ec_; clear en_))
    have GB18 := Aside0.mk gb18
    have GG18 := Aside0.mk HG18
    clear gb18 gl18 HG18
    obtain ⟨hx18_0, hf18_0⟩ := Kd.R_celln 0 HO_3.out ((ji15) : Int) p18 q18
    replace p18 := eq_true p18
    replace q18 := eq_true q18
    have HP19 := Kd.R_putg HO_3.out ((ji15) : Int) ((ji14) % 256)
    go_wp2_with (first | ((with_reducible refine gate_store (t := 5) (p := 30) rfl ?_); refine se 5 30 (w1 := (wr.setCell ⟨go18, ((ji15) : Int).toNat, none⟩ (.int .u8 ((ji14) % 256)))) ?_; intro w20 hw; have hg : wr.grownBy w20 (some go18) := (by rw [hw]; exact HP19.2); have hp_ : Kd.R (Kd.int .u8) 5 w20 w.heap.size (fun _ => True) (.slice (some ⟨go18, 0, none⟩) x3_1.length co7) y221 := (by rw [hw, Ny221.out]; exact HP19.1); clear HP19; replace HO_3 := Aside0.mk (hp_); replace HB := Aside0.mk ((by rw [hw]; exact below_set (HB.out) GB18.out : Below w.heap.size w w20)); clear hg hw hp_))
    (try simp only [← hl3_1])
    go_roundg k1
    case measure => have := HK1.out; omega
    case rel => exact ⟨(y221), (wrap64 (x11_1 + 1)), fs, H', ⟨by have := HK1.out; omega⟩, ⟨by (try simp only [hl3_1]); (with_reducible repeat (first | apply Kd.R_alloc | apply Kd.R_drewN | apply Kd.R_drew)); exact HO_3.out⟩, ⟨bz HB.out⟩⟩
   ·rw [if_neg c8] at H
    have c8b0 : decide (x11_1 < (y217.length : Int)) = false := decide_eq_false c8
    (try (have c8b0_hl3_1 := c8b0; rw [hl3_1] at c8b0_hl3_1))
    clear c8
    obtain ⟨t222, A21, H⟩ := bs1 H
    obtain rfl := Option.some.inj H
    have hcv22 := own_string (P := Tryd.prog) Tryd.underlying82 Tryd.underlying5 Tryd.underlying9 (Kd.own_of_R HO_3.out)
    go_wp2_with (first | ((with_reducible refine gc 26 rfl ?_); refine gl (some 34) Tryd.func26 #[.string (strOfNums x3_1)] ?_; (with_reducible refine (natural_Normalize.calls k1 (strOfNums x3_1) t222 _ A21.out).mono ?_); rintro e w23 ⟨rfl, hb⟩; refine ⟨_, rfl, ?_⟩; replace HO_3 := Aside0.mk (rb HO_3.out hb); replace HB := Aside0.mk (bs HB.out hb); (try clear hb)))
    go_ret
    exact ⟨by first | rfl | (simp [errW_none, errW_some] <;> rfl) | (simp only [← hji2]; first | rfl | (simp [errW_none, errW_some] <;> rfl)) | (simp [*, errW_none, errW_some] <;> rfl), bz HB.out⟩

/-! ### natural_GCD: function 27 -/
def natural_GCD.l0 : Nat → List Int → List Int → Option (ByteArray)
 | 0, _, _ => none
 | k + 1, x5, x6 => if (x6.length : Int) > 0 then ((natural_divide.f k x5 x6).bind fun bt229 => (natural_GCD.l0 k x6 bt229.2)) else ((natural_limbs_text.f k x5).bind fun t235 => (some t235))
def natural_GCD.f (k : Nat) (a0 : ByteArray) (a1 : ByteArray) : Option (ByteArray) := (natural_parse.f k a0).bind fun t223 => ((natural_parse.f k a1).bind fun t226 => (natural_GCD.l0 k t223 t226))
theorem natural_GCD.mono_l : ∀ k, (∀ y0 y1, LeO (natural_GCD.l0 k y0 y1) (natural_GCD.l0 (k + 1) y0 y1))
 | 0 => fun _ _ r h => by simp [natural_GCD.l0] at h
 | k + 1 => by
  have ih0 := natural_GCD.mono_l k
  ·intro y0 y1
   unfold natural_GCD.l0
   repeat' with_reducible first | exact ih0 _ _ | exact natural_divide.mono _ _ _ | exact natural_limbs_text.mono _ _ | exact natural_parse.mono _ _ | exact LeO.refl _ | exact LeO.none _ | refine LeO.ite ?_ ?_ | refine LeO.bind ?_ (fun _ => ?_)
theorem natural_GCD.mono : ∀ a0 a1 k, LeO (natural_GCD.f k a0 a1) (natural_GCD.f (k + 1) a0 a1) := by
 intro a0 a1 k
 have ih0 := natural_GCD.mono_l k
 unfold natural_GCD.f
 repeat' with_reducible first | exact ih0 _ _ | exact natural_divide.mono _ _ _ | exact natural_limbs_text.mono _ _ | exact natural_parse.mono _ _ | exact LeO.refl _ | exact LeO.none _ | refine LeO.ite ?_ ?_ | refine LeO.bind ?_ (fun _ => ?_)
set_option maxHeartbeats 8000000 in
set_option maxRecDepth 100000 in
theorem natural_GCD.calls (k : Nat) (a0 : ByteArray) (a1 : ByteArray) (r : ByteArray) (w : World) (h : natural_GCD.f k a0 a1 = some r) :
  Calls Tryd.prog 27 #[.string a0, .string a1] w fun e w' => e = .returned (.string r) ∧ Below w.heap.size w w' := by
 have HB := Aside0.mk (Below.refl w.heap.size w)
 have H := h
 clear h
 unfold natural_GCD.f at H
 obtain ⟨t223, A3, H⟩ := bs1 H
 obtain ⟨t226, A4, H⟩ := bs1 H
 have H' := Aside0.mk H
 clear H
 go_enter Tryd.func27, Tryd.ntmps27
 go_wp2_with (first | ((with_reducible refine gc 54 rfl ?_); refine gl (some 10) Tryd.func54 #[.string a0] ?_; (with_reducible refine (natural_parse.calls k a0 t223 _ A3.out).mono ?_); rintro e w5 ⟨v224, rfl, ho0, hb⟩; refine ⟨_, rfl, ?_⟩; have HO225 := Aside0.mk (Kd.V_lower (Kd.V_mono (ok' := fun k_ => True) ho0 (fun k_ hk_ => trivial)) (sz HB.out)); replace HB := Aside0.mk (bs HB.out hb); (try clear hb ho0)) | ((with_reducible refine gc 54 rfl ?_); refine gl (some 12) Tryd.func54 #[.string a1] ?_; (with_reducible refine (natural_parse.calls k a1 t226 _ A4.out).mono ?_); rintro e w6 ⟨v227, rfl, ho0, hb⟩; refine ⟨_, rfl, ?_⟩; replace HO225 := Aside0.mk (vb HO225.out hb); have HO228 := Aside0.mk (Kd.V_lower (Kd.V_mono (ok' := fun k_ => True) ho0 (fun k_ hk_ => trivial)) (sz HB.out)); replace HB := Aside0.mk (bs HB.out hb); (try clear hb ho0)))
 go_loopg [5, 6] k (fun kq v5 v6 w' => ∃ (x5_1 : List Int) (x6_1 : List Int), Aside0 (natural_GCD.l0 kq x5_1 x6_1 = some r) ∧ Aside0 (kq ≤ k) ∧ Aside0 (Kd.V (Kd.int .u32) 72 w' w.heap.size (fun _ => True) v5 x5_1) ∧ Aside0 (Kd.V (Kd.int .u32) 72 w' w.heap.size (fun _ => True) v6 x6_1) ∧ Aside0 (Below w.heap.size w w'))
 case atStart => exact ⟨(t223), (t226), H', ⟨Nat.le_refl _⟩, ⟨vs HO225.out⟩, ⟨vs HO228.out⟩, ⟨bz HB.out⟩⟩
 case round =>
  clear H'
  obtain ⟨x5_1, x6_1, HA, HK1, HO_5, HO_6, HB⟩ := hrel
  cases gk with
  | zero => exact absurd HA.out (by simp [natural_GCD.l0])
  | succ k1 =>
   have H := HA.out
   clear HA
   simp only [natural_GCD.l0] at H
   by_cases c7 : (x6_1.length : Int) > 0
   ·rw [if_pos c7] at H
    have c7b0 : decide (0 < (x6_1.length : Int)) = true := decide_eq_true c7
    have c7b1 : decide (0 < x6_1.length) = true := decide_eq_true (by omega)
    clear c7
    obtain ⟨⟨t229, t232⟩, A8, H⟩ := bs1 H; dsimp only at H
    have H' := Aside0.mk H
    clear H
    obtain ⟨Ao9, co9, rfl⟩ := Kd.V_slice HO_6.out
    obtain ⟨Ao10, co10, rfl⟩ := Kd.V_slice HO_5.out
    go_wp2_with (first | ((with_reducible refine gc 55 rfl ?_); refine gl (some 19) Tryd.func55 #[.slice Ao10 x5_1.length co10, .slice Ao9 x6_1.length co9] ?_; (with_reducible refine (natural_divide.calls k1 (fun k_ => True) _ _ x5_1 _ _ x6_1 t229 t232 _ ?side1 ?side2 ?side3 A8.out).mono ?_); (case side1 => exact HO_5.out); (case side2 => exact vs (Kd.V_reads' HO_6.out).2.2); (case side3 => exact (Kd.V_reads' HO_6.out).2.1); rintro e w11 ⟨v230, v233, rfl, ho0, ho1, hb⟩; refine ⟨_, rfl, ?_⟩; replace HO_5 := Aside0.mk (vb HO_5.out hb); replace HO_6 := Aside0.mk (vb HO_6.out hb); have HO231 := Aside0.mk (Kd.V_lower (Kd.V_mono (ok' := fun k_ => True) ho0 (fun k_ hk_ => trivial)) (sz HB.out)); have HO234 := Aside0.mk (Kd.V_lower (Kd.V_mono (ok' := fun k_ => True) ho1 (fun k_ hk_ => trivial)) (sz HB.out)); replace HB := Aside0.mk (bs HB.out hb); (try clear hb ho0 ho1)))
    go_roundg k1
    case measure => have := HK1.out; omega
    case rel => exact ⟨(x6_1), (t232), H', ⟨by have := HK1.out; omega⟩, ⟨vs HO_6.out⟩, ⟨vs HO234.out⟩, ⟨bz HB.out⟩⟩
   ·rw [if_neg c7] at H
    have c7b0 : decide (0 < (x6_1.length : Int)) = false := decide_eq_false c7
    have c7b1 : decide (0 < x6_1.length) = false := decide_eq_false (by omega)
    clear c7
    obtain ⟨t235, A12, H⟩ := bs1 H
    obtain rfl := Option.some.inj H
    obtain ⟨Ao13, co13, rfl⟩ := Kd.V_slice HO_6.out
    obtain ⟨Ao14, co14, rfl⟩ := Kd.V_slice HO_5.out
    go_wp2_with (first | ((with_reducible refine gc 56 rfl ?_); refine gl (some 25) Tryd.func56 #[.slice Ao14 x5_1.length co14] ?_; (with_reducible refine (natural_limbs_text.calls k1 _ _ x5_1 t235 _ ?side1 ?side2 A12.out).mono ?_); (case side1 => exact vs (Kd.V_reads' HO_5.out).2.2); (case side2 => exact (Kd.V_reads' HO_5.out).2.1); rintro e w15 ⟨rfl, hb⟩; refine ⟨_, rfl, ?_⟩; replace HO_5 := Aside0.mk (vb HO_5.out hb); replace HO_6 := Aside0.mk (vb HO_6.out hb); replace HB := Aside0.mk (bs HB.out hb); (try clear hb)))
    go_ret
    exact ⟨fe, bz HB.out⟩

/-! ### natural_Divide: function 51 -/
def natural_Divide.f (k : Nat) (a0 : ByteArray) (a1 : ByteArray) : Option (ByteArray × ByteArray × Bool) := (natural_parse.f k a1).bind fun t236 => (if (t236.length : Int) = 0 then (some ((⟨#[]⟩ : ByteArray), (⟨#[]⟩ : ByteArray), false)) else ((natural_parse.f k a0).bind fun t239 => ((natural_divide.f k t239 t236).bind fun bt242 => ((natural_limbs_text.f k bt242.1).bind fun t248 => ((natural_limbs_text.f k bt242.2).bind fun t249 => (some (t248, t249, true)))))))
theorem natural_Divide.mono : ∀ a0 a1 k, LeO (natural_Divide.f k a0 a1) (natural_Divide.f (k + 1) a0 a1) := by
 intro a0 a1 k
 unfold natural_Divide.f
 repeat' with_reducible first | exact natural_divide.mono _ _ _ | exact natural_limbs_text.mono _ _ | exact natural_parse.mono _ _ | exact LeO.refl _ | exact LeO.none _ | refine LeO.ite ?_ ?_ | refine LeO.bind ?_ (fun _ => ?_)
set_option maxHeartbeats 8000000 in
set_option maxRecDepth 100000 in
theorem natural_Divide.calls (k : Nat) (a0 : ByteArray) (a1 : ByteArray) (r1 : ByteArray) (r2 : ByteArray) (r3 : Bool) (w : World) (h : natural_Divide.f k a0 a1 = some (r1, r2, r3)) :
  Calls Tryd.prog 51 #[.string a0, .string a1] w fun e w' => e = .returned (.tuple #[.string r1, .string r2, .bool r3]) ∧ Below w.heap.size w w' := by
 have HB := Aside0.mk (Below.refl w.heap.size w)
 have H := h
 clear h
 unfold natural_Divide.f at H
 obtain ⟨t236, A3, H⟩ := bs1 H
 by_cases c4 : (t236.length : Int) = 0
 ·rw [if_pos c4] at H
  have c4b0 := beq_iff_eq.mpr c4
  have c4b1 := bne_eq_false_iff_eq.mpr c4
  clear c4
  simp only [Option.some.injEq, Prod.mk.injEq] at H
  obtain ⟨rfl, rfl, rfl⟩ := H
  go_enter Tryd.func51, Tryd.ntmps51
  go_wp2_with (first | ((with_reducible refine gc 54 rfl ?_); refine gl (some 11) Tryd.func54 #[.string a1] ?_; (with_reducible refine (natural_parse.calls k a1 t236 _ A3.out).mono ?_); rintro e w5 ⟨v237, rfl, ho0, hb⟩; refine ⟨_, rfl, ?_⟩; have HO238 := Aside0.mk (Kd.V_lower (Kd.V_mono (ok' := fun k_ => True) ho0 (fun k_ hk_ => trivial)) (sz HB.out)); replace HB := Aside0.mk (bs HB.out hb); (try clear hb ho0); obtain ⟨Ao6, co6, rfl⟩ := Kd.V_slice HO238.out))
  go_ret3
  exact ⟨fe, bz HB.out⟩
 ·rw [if_neg c4] at H
  have c4b0 := beq_eq_false_iff_ne.mpr c4
  have c4b1 := bne_iff_ne.mpr c4
  have c4b2 : ¬ (t236 = []) := fun h_ => c4 (by rw [h_]; rfl)
  obtain ⟨t239, A7, H⟩ := bs1 H
  obtain ⟨⟨t242, t245⟩, A8, H⟩ := bs1 H; dsimp only at H
  obtain ⟨t248, A9, H⟩ := bs1 H
  obtain ⟨t249, A10, H⟩ := bs1 H
  simp only [Option.some.injEq, Prod.mk.injEq] at H
  obtain ⟨rfl, rfl, rfl⟩ := H
  go_enter Tryd.func51, Tryd.ntmps51
  go_wp2_with (first | ((with_reducible refine gc 54 rfl ?_); refine gl (some 11) Tryd.func54 #[.string a1] ?_; (with_reducible refine (natural_parse.calls k a1 t236 _ A3.out).mono ?_); rintro e w11 ⟨v237, rfl, ho0, hb⟩; refine ⟨_, rfl, ?_⟩; have HO238 := Aside0.mk (Kd.V_lower (Kd.V_mono (ok' := fun k_ => True) ho0 (fun k_ hk_ => trivial)) (sz HB.out)); replace HB := Aside0.mk (bs HB.out hb); (try clear hb ho0); obtain ⟨Ao12, co12, rfl⟩ := Kd.V_slice HO238.out) | ((with_reducible refine gc 54 rfl ?_); refine gl (some 17) Tryd.func54 #[.string a0] ?_; (with_reducible refine (natural_parse.calls k a0 t239 _ A7.out).mono ?_); rintro e w13 ⟨v240, rfl, ho0, hb⟩; refine ⟨_, rfl, ?_⟩; replace HO238 := Aside0.mk (vb HO238.out hb); have HO241 := Aside0.mk (Kd.V_lower (Kd.V_mono (ok' := fun k_ => True) ho0 (fun k_ hk_ => trivial)) (sz HB.out)); replace HB := Aside0.mk (bs HB.out hb); (try clear hb ho0); obtain ⟨Ao14, co14, rfl⟩ := Kd.V_slice HO241.out) | ((with_reducible refine gc 55 rfl ?_); refine gl (some 19) Tryd.func55 #[.slice Ao14 t239.length co14, .slice Ao12 t236.length co12] ?_; (with_reducible refine (natural_divide.calls k (fun k_ => True) _ _ t239 _ _ t236 t242 t245 _ ?side1 ?side2 ?side3 A8.out).mono ?_); (case side1 => exact HO241.out); (case side2 => exact vs (Kd.V_reads' HO238.out).2.2); (case side3 => exact (Kd.V_reads' HO238.out).2.1); rintro e w15 ⟨v243, v246, rfl, ho0, ho1, hb⟩; refine ⟨_, rfl, ?_⟩; replace HO238 := Aside0.mk (vb HO238.out hb); replace HO241 := Aside0.mk (vb HO241.out hb); have HO244 := Aside0.mk (Kd.V_lower (Kd.V_mono (ok' := fun k_ => True) ho0 (fun k_ hk_ => trivial)) (sz HB.out)); have HO247 := Aside0.mk (Kd.V_lower (Kd.V_mono (ok' := fun k_ => True) ho1 (fun k_ hk_ => trivial)) (sz HB.out)); replace HB := Aside0.mk (bs HB.out hb); (try clear hb ho0 ho1); obtain ⟨Ao16, co16, rfl⟩ := Kd.V_slice HO244.out) | ((with_reducible refine gc 56 rfl ?_); refine gl (some 23) Tryd.func56 #[.slice Ao16 t242.length co16] ?_; (with_reducible refine (natural_limbs_text.calls k _ _ t242 t248 _ ?side1 ?side2 A9.out).mono ?_); (case side1 => exact vs (Kd.V_reads' HO244.out).2.2); (case side2 => exact (Kd.V_reads' HO244.out).2.1); rintro e w17 ⟨rfl, hb⟩; refine ⟨_, rfl, ?_⟩; replace HO238 := Aside0.mk (vb HO238.out hb); replace HO241 := Aside0.mk (vb HO241.out hb); replace HO244 := Aside0.mk (vb HO244.out hb); replace HO247 := Aside0.mk (vb HO247.out hb); replace HB := Aside0.mk (bs HB.out hb); (try clear hb); obtain ⟨Ao18, co18, rfl⟩ := Kd.V_slice HO247.out) | ((with_reducible refine gc 56 rfl ?_); refine gl (some 25) Tryd.func56 #[.slice Ao18 t245.length co18] ?_; (with_reducible refine (natural_limbs_text.calls k _ _ t245 t249 _ ?side1 ?side2 A10.out).mono ?_); (case side1 => exact vs (Kd.V_reads' HO247.out).2.2); (case side2 => exact (Kd.V_reads' HO247.out).2.1); rintro e w19 ⟨rfl, hb⟩; refine ⟨_, rfl, ?_⟩; replace HO238 := Aside0.mk (vb HO238.out hb); replace HO241 := Aside0.mk (vb HO241.out hb); replace HO244 := Aside0.mk (vb HO244.out hb); replace HO247 := Aside0.mk (vb HO247.out hb); replace HB := Aside0.mk (bs HB.out hb); (try clear hb)))
  go_ret3
  exact ⟨fe, bz HB.out⟩

/-! ### rational_reduced: function 30 -/
def rational_reduced.f (k : Nat) (a0 : Bool) (a1 : ByteArray) (a2 : ByteArray) : Option (Bool × ByteArray × ByteArray) := (natural_Normalize.f k a1).bind fun t251 => ((natural_Normalize.f k a2).bind fun t252 => (if t251.toList = ([] : List UInt8) then (some (false, (⟨#[]⟩ : ByteArray), (⟨#[]⟩ : ByteArray))) else (if t252.toList = ([1] : List UInt8) then (some (a0, t251, (⟨#[]⟩ : ByteArray))) else ((natural_GCD.f k t251 t252).bind fun t253 => (if t253.toList = ([1] : List UInt8) then (some (a0, t251, t252)) else ((natural_Divide.f k t251 t253).bind fun bt254 => ((natural_Divide.f k t252 t253).bind fun bt257 => (if bt257.1.toList = ([1] : List UInt8) then (some (a0, bt254.1, (⟨#[]⟩ : ByteArray))) else (some (a0, bt254.1, bt257.1))))))))))
theorem rational_reduced.mono : ∀ a0 a1 a2 k, LeO (rational_reduced.f k a0 a1 a2) (rational_reduced.f (k + 1) a0 a1 a2) := by
 intro a0 a1 a2 k
 unfold rational_reduced.f
 repeat' with_reducible first | exact natural_Divide.mono _ _ _ | exact natural_GCD.mono _ _ _ | exact natural_Normalize.mono _ _ | exact LeO.refl _ | exact LeO.none _ | refine LeO.ite ?_ ?_ | refine LeO.bind ?_ (fun _ => ?_)
set_option maxHeartbeats 8000000 in
set_option maxRecDepth 100000 in
theorem rational_reduced.calls (k : Nat) (a0 : Bool) (a1 : ByteArray) (a2 : ByteArray) (r1 : Bool) (r2 : ByteArray) (r3 : ByteArray) (w : World) (h : rational_reduced.f k a0 a1 a2 = some (r1, r2, r3)) :
  Calls Tryd.prog 30 #[.bool a0, .string a1, .string a2] w fun e w' => e = .returned (.agg #[.bool r1, .string r2, .string r3]) ∧ Below w.heap.size w w' := by
 have hu23 := Tryd.underlying23
 have HB := Aside0.mk (Below.refl w.heap.size w)
 have H := h
 clear h
 unfold rational_reduced.f at H
 obtain ⟨t251, A4, H⟩ := bs1 H
 obtain ⟨t252, A5, H⟩ := bs1 H
 by_cases c6 : t251.toList = ([] : List UInt8)
 ·rw [if_pos c6] at H
  have c6b0 := beq_iff_eq.mpr c6
  have c6b1 := bne_eq_false_iff_eq.mpr c6
  clear c6
  simp only [Option.some.injEq, Prod.mk.injEq] at H
  obtain ⟨rfl, rfl, rfl⟩ := H
  go_enter Tryd.func30, Tryd.ntmps30
  go_wp2_with (first | ((with_reducible refine gd 6 rfl ?_); refine bx 6 (#[.bool false, .string (⟨#[]⟩ : ByteArray), .string (⟨#[]⟩ : ByteArray)]) 23 ?_; intro gb250 hg w7 hbox hb; have BK250 := Aside0.mk (hbox); have GW250 := sg hg HB.out; have GE250 := sg hg HB.out; replace HB := Aside0.mk (bs HB.out hb); clear hb hbox hg) | ((with_reducible refine gc 26 rfl ?_); refine gl (some 9) Tryd.func26 #[.string a1] ?_; (with_reducible refine (natural_Normalize.calls k a1 t251 _ A4.out).mono ?_); rintro e w8 ⟨rfl, hb⟩; refine ⟨_, rfl, ?_⟩; replace BK250 := Aside0.mk (bk0 BK250.out hb); replace HB := Aside0.mk (bs HB.out hb); (try clear hb)) | ((with_reducible refine gc 26 rfl ?_); refine gl (some 11) Tryd.func26 #[.string a2] ?_; (with_reducible refine (natural_Normalize.calls k a2 t252 _ A5.out).mono ?_); rintro e w9 ⟨rfl, hb⟩; refine ⟨_, rfl, ?_⟩; replace BK250 := Aside0.mk (bk0 BK250.out hb); replace HB := Aside0.mk (bs HB.out hb); (try clear hb); obtain ⟨hcz10_0, hcz10_1, hcz10_2, hfz10_0, hfz10_1, hfz10_2⟩ := c3 BK250.out))
  refine bodyPost_ret (results_cell_row rfl _ _ gb250 23 #[.bool false, .string (⟨#[]⟩ : ByteArray), .string (⟨#[]⟩ : ByteArray)] (0, 0) _ rfl (bq BK250.out) Tryd.underlying23 rfl (by kernel_rfl)) rfl ?_
  exact ⟨fe, bz HB.out⟩
 ·rw [if_neg c6] at H
  have c6b0 := beq_eq_false_iff_ne.mpr c6
  have c6b1 := bne_iff_ne.mpr c6
  by_cases c11 : t252.toList = ([1] : List UInt8)
  ·rw [if_pos c11] at H
   have c11b0 := beq_iff_eq.mpr c11
   have c11b1 := bne_eq_false_iff_eq.mpr c11
   clear c11
   simp only [Option.some.injEq, Prod.mk.injEq] at H
   obtain ⟨rfl, rfl, rfl⟩ := H
   go_enter Tryd.func30, Tryd.ntmps30
   go_wp2_with (first | ((with_reducible refine gd 6 rfl ?_); refine bx 6 (#[.bool false, .string (⟨#[]⟩ : ByteArray), .string (⟨#[]⟩ : ByteArray)]) 23 ?_; intro gb250 hg w12 hbox hb; have BK250 := Aside0.mk (hbox); have GW250 := sg hg HB.out; have GE250 := sg hg HB.out; replace HB := Aside0.mk (bs HB.out hb); clear hb hbox hg) | ((with_reducible refine gc 26 rfl ?_); refine gl (some 9) Tryd.func26 #[.string a1] ?_; (with_reducible refine (natural_Normalize.calls k a1 t251 _ A4.out).mono ?_); rintro e w13 ⟨rfl, hb⟩; refine ⟨_, rfl, ?_⟩; replace BK250 := Aside0.mk (bk0 BK250.out hb); replace HB := Aside0.mk (bs HB.out hb); (try clear hb)) | ((with_reducible refine gc 26 rfl ?_); refine gl (some 11) Tryd.func26 #[.string a2] ?_; (with_reducible refine (natural_Normalize.calls k a2 t252 _ A5.out).mono ?_); rintro e w14 ⟨rfl, hb⟩; refine ⟨_, rfl, ?_⟩; replace BK250 := Aside0.mk (bk0 BK250.out hb); replace HB := Aside0.mk (bs HB.out hb); (try clear hb); obtain ⟨hcz15_0, hcz15_1, hcz15_2, hfz15_0, hfz15_1, hfz15_2⟩ := c3 BK250.out))
   refine bodyPost_ret (results_cell_row rfl _ _ gb250 23 #[.bool a0, .string t251, .string (⟨#[]⟩ : ByteArray)] (0, 0) _ rfl (bq BK250.out) Tryd.underlying23 rfl (by kernel_rfl)) rfl ?_
   exact ⟨fe, bz HB.out⟩
  ·rw [if_neg c11] at H
   have c11b0 := beq_eq_false_iff_ne.mpr c11
   have c11b1 := bne_iff_ne.mpr c11
   obtain ⟨t253, A16, H⟩ := bs1 H
   by_cases c17 : t253.toList = ([1] : List UInt8)
   ·rw [if_pos c17] at H
    have c17b0 := beq_iff_eq.mpr c17
    have c17b1 := bne_eq_false_iff_eq.mpr c17
    clear c17
    simp only [Option.some.injEq, Prod.mk.injEq] at H
    obtain ⟨rfl, rfl, rfl⟩ := H
    go_enter Tryd.func30, Tryd.ntmps30
    go_wp2_with (first | ((with_reducible refine gd 6 rfl ?_); refine bx 6 (#[.bool false, .string (⟨#[]⟩ : ByteArray), .string (⟨#[]⟩ : ByteArray)]) 23 ?_; intro gb250 hg w18 hbox hb; have BK250 := Aside0.mk (hbox); have GW250 := sg hg HB.out; have GE250 := sg hg HB.out; replace HB := Aside0.mk (bs HB.out hb); clear hb hbox hg) | ((with_reducible refine gc 26 rfl ?_); refine gl (some 9) Tryd.func26 #[.string a1] ?_; (with_reducible refine (natural_Normalize.calls k a1 t251 _ A4.out).mono ?_); rintro e w19 ⟨rfl, hb⟩; refine ⟨_, rfl, ?_⟩; replace BK250 := Aside0.mk (bk0 BK250.out hb); replace HB := Aside0.mk (bs HB.out hb); (try clear hb)) | ((with_reducible refine gc 26 rfl ?_); refine gl (some 11) Tryd.func26 #[.string a2] ?_; (with_reducible refine (natural_Normalize.calls k a2 t252 _ A5.out).mono ?_); rintro e w20 ⟨rfl, hb⟩; refine ⟨_, rfl, ?_⟩; replace BK250 := Aside0.mk (bk0 BK250.out hb); replace HB := Aside0.mk (bs HB.out hb); (try clear hb)) | ((with_reducible refine gc 27 rfl ?_); refine gl (some 19) Tryd.func27 #[.string t251, .string t252] ?_; (with_reducible refine (natural_GCD.calls k t251 t252 t253 _ A16.out).mono ?_); rintro e w21 ⟨rfl, hb⟩; refine ⟨_, rfl, ?_⟩; replace BK250 := Aside0.mk (bk0 BK250.out hb); replace HB := Aside0.mk (bs HB.out hb); (try clear hb); obtain ⟨hcz22_0, hcz22_1, hcz22_2, hfz22_0, hfz22_1, hfz22_2⟩ := c3 BK250.out))
    refine bodyPost_ret (results_cell_row rfl _ _ gb250 23 #[.bool a0, .string t251, .string t252] (0, 0) _ rfl (bq BK250.out) Tryd.underlying23 rfl (by kernel_rfl)) rfl ?_
    exact ⟨fe, bz HB.out⟩
   ·rw [if_neg c17] at H
    have c17b0 := beq_eq_false_iff_ne.mpr c17
    have c17b1 := bne_iff_ne.mpr c17
    obtain ⟨⟨t254, t255, t256⟩, A23, H⟩ := bs1 H; dsimp only at H
    obtain ⟨⟨t257, t258, t259⟩, A24, H⟩ := bs1 H; dsimp only at H
    by_cases c25 : t257.toList = ([1] : List UInt8)
    ·rw [if_pos c25] at H
     have c25b0 := beq_iff_eq.mpr c25
     have c25b1 := bne_eq_false_iff_eq.mpr c25
     clear c25
     simp only [Option.some.injEq, Prod.mk.injEq] at H
     obtain ⟨rfl, rfl, rfl⟩ := H
     go_enter Tryd.func30, Tryd.ntmps30
     go_wp2_with (first | ((with_reducible refine gd 6 rfl ?_); refine bx 6 (#[.bool false, .string (⟨#[]⟩ : ByteArray), .string (⟨#[]⟩ : ByteArray)]) 23 ?_; intro gb250 hg w26 hbox hb; have BK250 := Aside0.mk (hbox); have GW250 := sg hg HB.out; have GE250 := sg hg HB.out; replace HB := Aside0.mk (bs HB.out hb); clear hb hbox hg) | ((with_reducible refine gc 26 rfl ?_); refine gl (some 9) Tryd.func26 #[.string a1] ?_; (with_reducible refine (natural_Normalize.calls k a1 t251 _ A4.out).mono ?_); rintro e w27 ⟨rfl, hb⟩; refine ⟨_, rfl, ?_⟩; replace BK250 := Aside0.mk (bk0 BK250.out hb); replace HB := Aside0.mk (bs HB.out hb); (try clear hb)) | ((with_reducible refine gc 26 rfl ?_); refine gl (some 11) Tryd.func26 #[.string a2] ?_; (with_reducible refine (natural_Normalize.calls k a2 t252 _ A5.out).mono ?_); rintro e w28 ⟨rfl, hb⟩; refine ⟨_, rfl, ?_⟩; replace BK250 := Aside0.mk (bk0 BK250.out hb); replace HB := Aside0.mk (bs HB.out hb); (try clear hb)) | ((with_reducible refine gc 27 rfl ?_); refine gl (some 19) Tryd.func27 #[.string t251, .string t252] ?_; (with_reducible refine (natural_GCD.calls k t251 t252 t253 _ A16.out).mono ?_); rintro e w29 ⟨rfl, hb⟩; refine ⟨_, rfl, ?_⟩; replace BK250 := Aside0.mk (bk0 BK250.out hb); replace HB := Aside0.mk (bs HB.out hb); (try clear hb)) | ((with_reducible refine gc 51 rfl ?_); refine gl (some 25) Tryd.func51 #[.string t251, .string t253] ?_; (with_reducible refine (natural_Divide.calls k t251 t253 t254 t255 t256 _ A23.out).mono ?_); rintro e w30 ⟨rfl, hb⟩; refine ⟨_, rfl, ?_⟩; replace BK250 := Aside0.mk (bk0 BK250.out hb); replace HB := Aside0.mk (bs HB.out hb); (try clear hb)) | ((with_reducible refine gc 51 rfl ?_); refine gl (some 32) Tryd.func51 #[.string t252, .string t253] ?_; (with_reducible refine (natural_Divide.calls k t252 t253 t257 t258 t259 _ A24.out).mono ?_); rintro e w31 ⟨rfl, hb⟩; refine ⟨_, rfl, ?_⟩; replace BK250 := Aside0.mk (bk0 BK250.out hb); replace HB := Aside0.mk (bs HB.out hb); (try clear hb); obtain ⟨hcz32_0, hcz32_1, hcz32_2, hfz32_0, hfz32_1, hfz32_2⟩ := c3 BK250.out))
     refine bodyPost_ret (results_cell_row rfl _ _ gb250 23 #[.bool a0, .string t254, .string (⟨#[]⟩ : ByteArray)] (0, 0) _ rfl (bq BK250.out) Tryd.underlying23 rfl (by kernel_rfl)) rfl ?_
     exact ⟨fe, bz HB.out⟩
    ·rw [if_neg c25] at H
     have c25b0 := beq_eq_false_iff_ne.mpr c25
     have c25b1 := bne_iff_ne.mpr c25
     simp only [Option.some.injEq, Prod.mk.injEq] at H
     obtain ⟨rfl, rfl, rfl⟩ := H
     go_enter Tryd.func30, Tryd.ntmps30
     go_wp2_with (first | ((with_reducible refine gd 6 rfl ?_); refine bx 6 (#[.bool false, .string (⟨#[]⟩ : ByteArray), .string (⟨#[]⟩ : ByteArray)]) 23 ?_; intro gb250 hg w33 hbox hb; have BK250 := Aside0.mk (hbox); have GW250 := sg hg HB.out; have GE250 := sg hg HB.out; replace HB := Aside0.mk (bs HB.out hb); clear hb hbox hg) | ((with_reducible refine gc 26 rfl ?_); refine gl (some 9) Tryd.func26 #[.string a1] ?_; (with_reducible refine (natural_Normalize.calls k a1 t251 _ A4.out).mono ?_); rintro e w34 ⟨rfl, hb⟩; refine ⟨_, rfl, ?_⟩; replace BK250 := Aside0.mk (bk0 BK250.out hb); replace HB := Aside0.mk (bs HB.out hb); (try clear hb)) | ((with_reducible refine gc 26 rfl ?_); refine gl (some 11) Tryd.func26 #[.string a2] ?_; (with_reducible refine (natural_Normalize.calls k a2 t252 _ A5.out).mono ?_); rintro e w35 ⟨rfl, hb⟩; refine ⟨_, rfl, ?_⟩; replace BK250 := Aside0.mk (bk0 BK250.out hb); replace HB := Aside0.mk (bs HB.out hb); (try clear hb)) | ((with_reducible refine gc 27 rfl ?_); refine gl (some 19) Tryd.func27 #[.string t251, .string t252] ?_; (with_reducible refine (natural_GCD.calls k t251 t252 t253 _ A16.out).mono ?_); rintro e w36 ⟨rfl, hb⟩; refine ⟨_, rfl, ?_⟩; replace BK250 := Aside0.mk (bk0 BK250.out hb); replace HB := Aside0.mk (bs HB.out hb); (try clear hb)) | ((with_reducible refine gc 51 rfl ?_); refine gl (some 25) Tryd.func51 #[.string t251, .string t253] ?_; (with_reducible refine (natural_Divide.calls k t251 t253 t254 t255 t256 _ A23.out).mono ?_); rintro e w37 ⟨rfl, hb⟩; refine ⟨_, rfl, ?_⟩; replace BK250 := Aside0.mk (bk0 BK250.out hb); replace HB := Aside0.mk (bs HB.out hb); (try clear hb)) | ((with_reducible refine gc 51 rfl ?_); refine gl (some 32) Tryd.func51 #[.string t252, .string t253] ?_; (with_reducible refine (natural_Divide.calls k t252 t253 t257 t258 t259 _ A24.out).mono ?_); rintro e w38 ⟨rfl, hb⟩; refine ⟨_, rfl, ?_⟩; replace BK250 := Aside0.mk (bk0 BK250.out hb); replace HB := Aside0.mk (bs HB.out hb); (try clear hb); obtain ⟨hcz39_0, hcz39_1, hcz39_2, hfz39_0, hfz39_1, hfz39_2⟩ := c3 BK250.out))
     refine bodyPost_ret (results_cell_row rfl _ _ gb250 23 #[.bool a0, .string t254, .string t257] (0, 0) _ rfl (bq BK250.out) Tryd.underlying23 rfl (by kernel_rfl)) rfl ?_
     exact ⟨fe, bz HB.out⟩

/-! ### rational_Make: function 11 -/
def rational_Make.f (k : Nat) (a0 : Bool) (a1 : ByteArray) (a2 : ByteArray) : Option (Bool × ByteArray × ByteArray × Bool) := (natural_Normalize.f k a2).bind fun t261 => (if t261.toList = ([] : List UInt8) then (some (false, (⟨#[]⟩ : ByteArray), (⟨#[]⟩ : ByteArray), false)) else ((rational_reduced.f k a0 a1 a2).bind fun bt262 => (some (bt262.1, bt262.2.1, bt262.2.2, true))))
theorem rational_Make.mono : ∀ a0 a1 a2 k, LeO (rational_Make.f k a0 a1 a2) (rational_Make.f (k + 1) a0 a1 a2) := by
 intro a0 a1 a2 k
 unfold rational_Make.f
 repeat' with_reducible first | exact natural_Normalize.mono _ _ | exact rational_reduced.mono _ _ _ _ | exact LeO.refl _ | exact LeO.none _ | refine LeO.ite ?_ ?_ | refine LeO.bind ?_ (fun _ => ?_)
set_option maxHeartbeats 8000000 in
set_option maxRecDepth 100000 in
theorem rational_Make.calls (k : Nat) (a0 : Bool) (a1 : ByteArray) (a2 : ByteArray) (r1 : Bool) (r2 : ByteArray) (r3 : ByteArray) (r4 : Bool) (w : World) (h : rational_Make.f k a0 a1 a2 = some (r1, r2, r3, r4)) :
  Calls Tryd.prog 11 #[.bool a0, .string a1, .string a2] w fun e w' => e = .returned (.tuple #[.agg #[.bool r1, .string r2, .string r3], .bool r4]) ∧ Below w.heap.size w w' := by
 have hu23 := Tryd.underlying23
 have HB := Aside0.mk (Below.refl w.heap.size w)
 have H := h
 clear h
 unfold rational_Make.f at H
 obtain ⟨t261, A4, H⟩ := bs1 H
 by_cases c5 : t261.toList = ([] : List UInt8)
 ·rw [if_pos c5] at H
  have c5b0 := beq_iff_eq.mpr c5
  have c5b1 := bne_eq_false_iff_eq.mpr c5
  clear c5
  simp only [Option.some.injEq, Prod.mk.injEq] at H
  obtain ⟨rfl, rfl, rfl, rfl⟩ := H
  go_enter Tryd.func11, Tryd.ntmps11
  go_wp2_with (first | ((with_reducible refine gd 6 rfl ?_); refine bx 6 (#[.bool false, .string (⟨#[]⟩ : ByteArray), .string (⟨#[]⟩ : ByteArray)]) 23 ?_; intro gb260 hg w6 hbox hb; have BK260 := Aside0.mk (hbox); have GW260 := sg hg HB.out; have GE260 := sg hg HB.out; replace HB := Aside0.mk (bs HB.out hb); clear hb hbox hg) | ((with_reducible refine gc 26 rfl ?_); refine gl (some 9) Tryd.func26 #[.string a2] ?_; (with_reducible refine (natural_Normalize.calls k a2 t261 _ A4.out).mono ?_); rintro e w7 ⟨rfl, hb⟩; refine ⟨_, rfl, ?_⟩; replace BK260 := Aside0.mk (bk0 BK260.out hb); replace HB := Aside0.mk (bs HB.out hb); (try clear hb); obtain ⟨hcz8_0, hcz8_1, hcz8_2, hfz8_0, hfz8_1, hfz8_2⟩ := c3 BK260.out))
  refine bodyPost_ret (results_ct rfl _ _ gb260 23 #[.bool false, .string (⟨#[]⟩ : ByteArray), .string (⟨#[]⟩ : ByteArray)] (0, 0) _ rfl (bq BK260.out) Tryd.underlying23 rfl (by kernel_rfl)) rfl ?_
  exact ⟨fe, bz HB.out⟩
 ·rw [if_neg c5] at H
  have c5b0 := beq_eq_false_iff_ne.mpr c5
  have c5b1 := bne_iff_ne.mpr c5
  obtain ⟨⟨t262, t263, t264⟩, A9, H⟩ := bs1 H; dsimp only at H
  simp only [Option.some.injEq, Prod.mk.injEq] at H
  obtain ⟨rfl, rfl, rfl, rfl⟩ := H
  go_enter Tryd.func11, Tryd.ntmps11
  go_wp2_with (first | ((with_reducible refine gd 6 rfl ?_); refine bx 6 (#[.bool false, .string (⟨#[]⟩ : ByteArray), .string (⟨#[]⟩ : ByteArray)]) 23 ?_; intro gb260 hg w10 hbox hb; have BK260 := Aside0.mk (hbox); have GW260 := sg hg HB.out; have GE260 := sg hg HB.out; replace HB := Aside0.mk (bs HB.out hb); clear hb hbox hg) | ((with_reducible refine gc 26 rfl ?_); refine gl (some 9) Tryd.func26 #[.string a2] ?_; (with_reducible refine (natural_Normalize.calls k a2 t261 _ A4.out).mono ?_); rintro e w11 ⟨rfl, hb⟩; refine ⟨_, rfl, ?_⟩; replace BK260 := Aside0.mk (bk0 BK260.out hb); replace HB := Aside0.mk (bs HB.out hb); (try clear hb)) | ((with_reducible refine gc 30 rfl ?_); refine gl (some 15) Tryd.func30 #[.bool a0, .string a1, .string a2] ?_; (with_reducible refine (rational_reduced.calls k a0 a1 a2 t262 t263 t264 _ A9.out).mono ?_); rintro e w12 ⟨rfl, hb⟩; refine ⟨_, rfl, ?_⟩; replace BK260 := Aside0.mk (bk0 BK260.out hb); replace HB := Aside0.mk (bs HB.out hb); (try clear hb); obtain ⟨hcz13_0, hcz13_1, hcz13_2, hfz13_0, hfz13_1, hfz13_2⟩ := c3 BK260.out))
  refine bodyPost_ret (results_ct rfl _ _ gb260 23 #[.bool t262, .string t263, .string t264] (0, 0) _ rfl (bq BK260.out) Tryd.underlying23 rfl (by kernel_rfl)) rfl ?_
  exact ⟨fe, bz HB.out⟩

/-! ### natural_FromUint: function 60 -/
def natural_FromUint.f (k : Nat) (a0 : Int) : Option (ByteArray) := (natural_limbs_text.f k (([(a0) % 4294967296, (a0 / 4294967296) % 4294967296] : List Int))).bind fun t268 => (some t268)
theorem natural_FromUint.mono : ∀ a0 k, LeO (natural_FromUint.f k a0) (natural_FromUint.f (k + 1) a0) := by
 intro a0 k
 unfold natural_FromUint.f
 repeat' with_reducible first | exact natural_limbs_text.mono _ _ | exact LeO.refl _ | exact LeO.none _ | refine LeO.ite ?_ ?_ | refine LeO.bind ?_ (fun _ => ?_)
set_option maxHeartbeats 8000000 in
set_option maxRecDepth 100000 in
theorem natural_FromUint.calls (k : Nat) (a0 : Int) (r : ByteArray) (w : World) (h : natural_FromUint.f k a0 = some r) :
  Calls Tryd.prog 60 #[.int .u64 a0] w fun e w' => e = .returned (.string r) ∧ Below w.heap.size w w' := by
 have HB := Aside0.mk (Below.refl w.heap.size w)
 have H := h
 clear h
 unfold natural_FromUint.f at H
 obtain ⟨y265, hy265⟩ : ∃ y_ : List Int, y_ = (([(a0) % 4294967296, (a0 / 4294967296) % 4294967296] : List Int)) := ⟨_, rfl⟩
 (try first | rw [← hy265] at H | (dsimp only at H; rw [← hy265] at H)); (try rw [Option.bind_some] at H)
 have Ny265 := Aside0.mk hy265
 clear hy265
 obtain ⟨t268, A2, H⟩ := bs1 H
 obtain rfl := Option.some.inj H
 go_enter Tryd.func60, Tryd.ntmps60
 go_wp2_with (first | ((with_reducible refine gd 8 rfl ?_); refine Kd.R_lit (Kd.int .u32) _ 72 ?hg (N := 8) ?hd (xs := ([(a0) % 4294967296, (a0 / 4294967296) % 4294967296] : List Int)) (inner := [.int .u32 ((a0) % 4294967296), .int .u32 ((a0 / 4294967296) % 4294967296)]) (ok := fun _ => True) (okp := fun _ => True) ?hr ?hp (fun _ hk => hk) trivial (Below.refl _ _) (Nat.le_refl _) (by simp) ?_; (case hd => rfl); (case hg => rfl); (case hr => first | (go_simp; done) | (go_simp; rfl)); (case hp => exact (Reps.one (show Kd.M (Kd.int .u32) _ _ _ ((a0) % 4294967296) [.int .u32 ((a0) % 4294967296)] from rfl) (Reps.one (show Kd.M (Kd.int .u32) _ _ _ ((a0 / 4294967296) % 4294967296) [.int .u32 ((a0 / 4294967296) % 4294967296)] from rfl) (Reps.none _ _)))); intro v266 w3 ho4 hb hg_ hnew_; clear hg_ hnew_; (first | rw [← Ny265.out] at ho4 | (simp only [Int.reduceToNat] at ho4; rw [← Ny265.out] at ho4)); have HO267 := Aside0.mk (Kd.R_lower ho4 (sz HB.out)); replace HB := Aside0.mk (bs HB.out hb); clear hb ho4; obtain ⟨Ao5, co5, eo5⟩ := Kd.R_slice HO267.out; subst eo5) | ((with_reducible refine gc 56 rfl ?_); refine gl (some 9) Tryd.func56 #[.slice Ao5 y265.length co5] ?_; (with_reducible refine (natural_limbs_text.calls k _ _ y265 t268 _ ?side1 ?side2 A2.out).mono ?_); (case side1 => exact vs (Kd.R_reads' HO267.out).2.2); (case side2 => exact (Kd.R_reads' HO267.out).2.1); rintro e w6 ⟨rfl, hb⟩; refine ⟨_, rfl, ?_⟩; replace HO267 := Aside0.mk (rb HO267.out hb); replace HB := Aside0.mk (bs HB.out hb); (try clear hb)))
 go_ret
 exact ⟨fe, bz HB.out⟩

/-! ### rational_magnitude: function 33 -/
def rational_magnitude.f (k : Nat) (a0 : Int) : Option (ByteArray) := if a0 < 0 then ((natural_FromUint.f k (IntKind.u64.wrap (-(IntKind.u64.wrap (a0))))).bind fun t269 => (some t269)) else ((natural_FromUint.f k (IntKind.u64.wrap (a0))).bind fun t270 => (some t270))
theorem rational_magnitude.mono : ∀ a0 k, LeO (rational_magnitude.f k a0) (rational_magnitude.f (k + 1) a0) := by
 intro a0 k
 unfold rational_magnitude.f
 repeat' with_reducible first | exact natural_FromUint.mono _ _ | exact LeO.refl _ | exact LeO.none _ | refine LeO.ite ?_ ?_ | refine LeO.bind ?_ (fun _ => ?_)
set_option maxHeartbeats 8000000 in
set_option maxRecDepth 100000 in
theorem rational_magnitude.calls (k : Nat) (a0 : Int) (r : ByteArray) (w : World) (h : rational_magnitude.f k a0 = some r) :
  Calls Tryd.prog 33 #[.int .i64 a0] w fun e w' => e = .returned (.string r) ∧ Below w.heap.size w w' := by
 have HB := Aside0.mk (Below.refl w.heap.size w)
 have H := h
 clear h
 unfold rational_magnitude.f at H
 by_cases c2 : a0 < 0
 ·rw [if_pos c2] at H
  have c2b0 : decide (a0 < 0) = true := decide_eq_true c2
  clear c2
  obtain ⟨t269, A3, H⟩ := bs1 H
  obtain rfl := Option.some.inj H
  go_enter Tryd.func33, Tryd.ntmps33
  go_wp2_with (first | ((with_reducible refine gc 60 rfl ?_); refine gl (some 8) Tryd.func60 #[.int .u64 (IntKind.u64.wrap (-(IntKind.u64.wrap (a0))))] ?_; (with_reducible refine (natural_FromUint.calls k (IntKind.u64.wrap (-(IntKind.u64.wrap (a0)))) t269 _ A3.out).mono ?_); rintro e w4 ⟨rfl, hb⟩; refine ⟨_, rfl, ?_⟩; replace HB := Aside0.mk (bs HB.out hb); (try clear hb)))
  go_ret
  exact ⟨fe, bz HB.out⟩
 ·rw [if_neg c2] at H
  have c2b0 : decide (a0 < 0) = false := decide_eq_false c2
  clear c2
  obtain ⟨t270, A5, H⟩ := bs1 H
  obtain rfl := Option.some.inj H
  go_enter Tryd.func33, Tryd.ntmps33
  go_wp2_with (first | ((with_reducible refine gc 60 rfl ?_); refine gl (some 11) Tryd.func60 #[.int .u64 (IntKind.u64.wrap (a0))] ?_; (with_reducible refine (natural_FromUint.calls k (IntKind.u64.wrap (a0)) t270 _ A5.out).mono ?_); rintro e w6 ⟨rfl, hb⟩; refine ⟨_, rfl, ?_⟩; replace HB := Aside0.mk (bs HB.out hb); (try clear hb)))
  go_ret
  exact ⟨fe, bz HB.out⟩

/-! ### rational_Fraction: function 21 -/
def rational_Fraction.f (k : Nat) (a0 : Int) (a1 : Int) : Option (Bool × ByteArray × ByteArray × Bool) := (rational_magnitude.f k a0).bind fun t272 => ((rational_magnitude.f k a1).bind fun t273 => ((rational_Make.f k ((decide (a0 < 0)) != (decide (a1 < 0))) t272 t273).bind fun bt274 => (some (bt274.1, bt274.2.1, bt274.2.2.1, bt274.2.2.2))))
theorem rational_Fraction.mono : ∀ a0 a1 k, LeO (rational_Fraction.f k a0 a1) (rational_Fraction.f (k + 1) a0 a1) := by
 intro a0 a1 k
 unfold rational_Fraction.f
 repeat' with_reducible first | exact rational_Make.mono _ _ _ _ | exact rational_magnitude.mono _ _ | exact LeO.refl _ | exact LeO.none _ | refine LeO.ite ?_ ?_ | refine LeO.bind ?_ (fun _ => ?_)
set_option maxHeartbeats 8000000 in
set_option maxRecDepth 100000 in
theorem rational_Fraction.calls (k : Nat) (a0 : Int) (a1 : Int) (r1 : Bool) (r2 : ByteArray) (r3 : ByteArray) (r4 : Bool) (w : World) (h : rational_Fraction.f k a0 a1 = some (r1, r2, r3, r4)) :
  Calls Tryd.prog 21 #[.int .i64 a0, .int .i64 a1] w fun e w' => e = .returned (.tuple #[.agg #[.bool r1, .string r2, .string r3], .bool r4]) ∧ Below w.heap.size w w' := by
 have hu23 := Tryd.underlying23
 have HB := Aside0.mk (Below.refl w.heap.size w)
 have H := h
 clear h
 unfold rational_Fraction.f at H
 obtain ⟨t272, A3, H⟩ := bs1 H
 obtain ⟨t273, A4, H⟩ := bs1 H
 obtain ⟨⟨t274, t275, t276, t277⟩, A5, H⟩ := bs1 H; dsimp only at H
 simp only [Option.some.injEq, Prod.mk.injEq] at H
 obtain ⟨rfl, rfl, rfl, rfl⟩ := H
 go_enter Tryd.func21, Tryd.ntmps21
 go_wp2_with (first | ((with_reducible refine gd 4 rfl ?_); refine bx 4 (#[.bool false, .string (⟨#[]⟩ : ByteArray), .string (⟨#[]⟩ : ByteArray)]) 23 ?_; intro gb271 hg w6 hbox hb; have BK271 := Aside0.mk (hbox); have GW271 := sg hg HB.out; have GE271 := sg hg HB.out; replace HB := Aside0.mk (bs HB.out hb); clear hb hbox hg) | ((with_reducible refine gc 33 rfl ?_); refine gl (some 12) Tryd.func33 #[.int .i64 a0] ?_; (with_reducible refine (rational_magnitude.calls k a0 t272 _ A3.out).mono ?_); rintro e w7 ⟨rfl, hb⟩; refine ⟨_, rfl, ?_⟩; replace BK271 := Aside0.mk (bk0 BK271.out hb); replace HB := Aside0.mk (bs HB.out hb); (try clear hb)) | ((with_reducible refine gc 33 rfl ?_); refine gl (some 14) Tryd.func33 #[.int .i64 a1] ?_; (with_reducible refine (rational_magnitude.calls k a1 t273 _ A4.out).mono ?_); rintro e w8 ⟨rfl, hb⟩; refine ⟨_, rfl, ?_⟩; replace BK271 := Aside0.mk (bk0 BK271.out hb); replace HB := Aside0.mk (bs HB.out hb); (try clear hb)) | ((with_reducible refine gc 11 rfl ?_); refine gl (some 15) Tryd.func11 #[.bool ((decide (a0 < 0)) != (decide (a1 < 0))), .string t272, .string t273] ?_; (with_reducible refine (rational_Make.calls k ((decide (a0 < 0)) != (decide (a1 < 0))) t272 t273 t274 t275 t276 t277 _ A5.out).mono ?_); rintro e w9 ⟨rfl, hb⟩; refine ⟨_, rfl, ?_⟩; replace BK271 := Aside0.mk (bk0 BK271.out hb); replace HB := Aside0.mk (bs HB.out hb); (try clear hb); obtain ⟨hcz10_0, hcz10_1, hcz10_2, hfz10_0, hfz10_1, hfz10_2⟩ := c3 BK271.out))
 refine bodyPost_ret (results_ct rfl _ _ gb271 23 #[.bool t274, .string t275, .string t276] (0, 0) _ rfl (bq BK271.out) Tryd.underlying23 rfl (by kernel_rfl)) rfl ?_
 exact ⟨fe, bz HB.out⟩

/-! ### natural_Multiply: function 40 -/
mutual
def natural_Multiply.l0 : Nat → List Int → List Int → List Int → Int → Int → Option (ByteArray)
 | 0, _, _, _, _, _ => none
 | k + 1, x6, x7, x24, x25, x26 => if x26 < x25 then (if 0 ≤ x26 then (if x26 < (x24.length : Int) then (natural_Multiply.l1 k x6 x7 x26 (rd x24 x26) 0 x24 x25 x26 x6 (x6.length : Int) 0) else (none)) else (none)) else ((natural_limbs_text.f k x7).bind fun t287 => (some t287))
def natural_Multiply.l1 : Nat → List Int → List Int → Int → Int → Int → List Int → Int → Int → List Int → Int → Int → Option (ByteArray)
 | 0, _, _, _, _, _, _, _, _, _, _, _ => none
 | k + 1, x6, x7, x8, x9, x10, x24, x25, x26, x31, x32, x33 => if x33 < x32 then (if 0 ≤ x33 then (if x33 < (x31.length : Int) then (if 0 ≤ (wrap64 (x8 + x33)) then (if (wrap64 (x8 + x33)) < (x7.length : Int) then (natural_Multiply.l1 k x6 (x7.set ((wrap64 (x8 + x33)) : Int).toNat ((IntKind.u64.wrap ((IntKind.u64.wrap ((IntKind.u64.wrap ((IntKind.u64.wrap (x9)) * (IntKind.u64.wrap (rd x31 x33)))) + (IntKind.u64.wrap (rd x7 (wrap64 (x8 + x33)))))) + x10)) % 4294967296)) x8 x9 ((IntKind.u64.wrap ((IntKind.u64.wrap ((IntKind.u64.wrap ((IntKind.u64.wrap (x9)) * (IntKind.u64.wrap (rd x31 x33)))) + (IntKind.u64.wrap (rd x7 (wrap64 (x8 + x33)))))) + x10)) / 4294967296) x24 x25 x26 x31 x32 (wrap64 (x33 + 1))) else (none)) else (none)) else (none)) else (none)) else (if 0 ≤ (wrap64 (x8 + (x6.length : Int))) then (if (wrap64 (x8 + (x6.length : Int))) < (x7.length : Int) then (natural_Multiply.l0 k x6 (x7.set ((wrap64 (x8 + (x6.length : Int))) : Int).toNat ((x10) % 4294967296)) x24 x25 (wrap64 (x26 + 1))) else (none)) else (none))
end
def natural_Multiply.f (k : Nat) (a0 : ByteArray) (a1 : ByteArray) : Option (ByteArray) := (natural_parse.f k a0).bind fun t278 => ((natural_parse.f k a1).bind fun t281 => (if 0 ≤ (wrap64 ((t278.length : Int) + (t281.length : Int))) then (if (wrap64 ((t278.length : Int) + (t281.length : Int)) : Int).toNat ≤ 70368744177664 then (natural_Multiply.l0 k t281 (List.replicate (wrap64 ((t278.length : Int) + (t281.length : Int)) : Int).toNat 0) t278 (t278.length : Int) 0) else (none)) else (none)))
theorem natural_Multiply.mono_l : ∀ k, (∀ y0 y1 y2 y3 y4, LeO (natural_Multiply.l0 k y0 y1 y2 y3 y4) (natural_Multiply.l0 (k + 1) y0 y1 y2 y3 y4)) ∧ (∀ y0 y1 y2 y3 y4 y5 y6 y7 y8 y9 y10, LeO (natural_Multiply.l1 k y0 y1 y2 y3 y4 y5 y6 y7 y8 y9 y10) (natural_Multiply.l1 (k + 1) y0 y1 y2 y3 y4 y5 y6 y7 y8 y9 y10))
 | 0 => ⟨fun _ _ _ _ _ r h => by simp [natural_Multiply.l0] at h, fun _ _ _ _ _ _ _ _ _ _ _ r h => by simp [natural_Multiply.l1] at h⟩
 | k + 1 => by
  obtain ⟨ih0, ih1⟩ := natural_Multiply.mono_l k
  refine ⟨?_, ?_⟩
  ·intro y0 y1 y2 y3 y4
   unfold natural_Multiply.l0
   repeat' with_reducible first | exact ih0 _ _ _ _ _ | exact ih1 _ _ _ _ _ _ _ _ _ _ _ | exact natural_limbs_text.mono _ _ | exact natural_parse.mono _ _ | exact LeO.refl _ | exact LeO.none _ | refine LeO.ite ?_ ?_ | refine LeO.bind ?_ (fun _ => ?_)
  ·intro y0 y1 y2 y3 y4 y5 y6 y7 y8 y9 y10
   unfold natural_Multiply.l1
   repeat' with_reducible first | exact ih0 _ _ _ _ _ | exact ih1 _ _ _ _ _ _ _ _ _ _ _ | exact natural_limbs_text.mono _ _ | exact natural_parse.mono _ _ | exact LeO.refl _ | exact LeO.none _ | refine LeO.ite ?_ ?_ | refine LeO.bind ?_ (fun _ => ?_)
theorem natural_Multiply.mono : ∀ a0 a1 k, LeO (natural_Multiply.f k a0 a1) (natural_Multiply.f (k + 1) a0 a1) := by
 intro a0 a1 k
 obtain ⟨ih0, ih1⟩ := natural_Multiply.mono_l k
 unfold natural_Multiply.f
 repeat' with_reducible first | exact ih0 _ _ _ _ _ | exact ih1 _ _ _ _ _ _ _ _ _ _ _ | exact natural_limbs_text.mono _ _ | exact natural_parse.mono _ _ | exact LeO.refl _ | exact LeO.none _ | refine LeO.ite ?_ ?_ | refine LeO.bind ?_ (fun _ => ?_)
set_option maxHeartbeats 8000000 in
set_option maxRecDepth 100000 in
theorem natural_Multiply.calls (k : Nat) (a0 : ByteArray) (a1 : ByteArray) (r : ByteArray) (w : World) (h : natural_Multiply.f k a0 a1 = some r) :
  Calls Tryd.prog 40 #[.string a0, .string a1] w fun e w' => e = .returned (.string r) ∧ Below w.heap.size w w' := by
 have HB := Aside0.mk (Below.refl w.heap.size w)
 have H := h
 clear h
 unfold natural_Multiply.f at H
 obtain ⟨t278, A3, H⟩ := bs1 H
 obtain ⟨t281, A4, H⟩ := bs1 H
 obtain ⟨ji5, hji5⟩ : ∃ j_ : Int, (wrap64 ((t278.length : Int) + (t281.length : Int))) = j_ := ⟨_, rfl⟩
 first | rw [hji5] at H | simp only [hji5] at H
 (try rw [hji5] at A3)
 (try rw [hji5] at A4)
 have hji5w : (IntKind.i64.wrap ((t278.length : Int) + (t281.length : Int))) = ji5 := (i64_w _).trans hji5
 obtain ⟨c6, H⟩ := iN H
 have c6b0 := eq_true c6
 have c6b1 : decide (0 ≤ (ji5)) = true := decide_eq_true c6
 clear c6
 obtain ⟨c7, H⟩ := iN H
 have c7b0 := eq_true c7
 have c7b1 : decide ((ji5 : Int).toNat ≤ 70368744177664) = true := decide_eq_true c7
 clear c7
 obtain ⟨y284, hy284⟩ : ∃ y_ : List Int, y_ = (List.replicate (ji5 : Int).toNat 0) := ⟨_, rfl⟩
 (try first | rw [← hy284] at H | (dsimp only at H; rw [← hy284] at H)); (try rw [Option.bind_some] at H)
 have Ny284 := Aside0.mk hy284
 clear hy284
 have H' := Aside0.mk H
 clear H
 go_enter Tryd.func40, Tryd.ntmps40
 go_wp2_with (first | ((with_reducible refine gc 54 rfl ?_); refine gl (some 15) Tryd.func54 #[.string a0] ?_; (with_reducible refine (natural_parse.calls k a0 t278 _ A3.out).mono ?_); rintro e w8 ⟨v279, rfl, ho0, hb⟩; refine ⟨_, rfl, ?_⟩; have HO280 := Aside0.mk (Kd.V_lower (Kd.V_mono (ok' := fun k_ => True) ho0 (fun k_ hk_ => trivial)) (sz HB.out)); replace HB := Aside0.mk (bs HB.out hb); (try clear hb ho0)) | ((with_reducible refine gc 54 rfl ?_); refine gl (some 17) Tryd.func54 #[.string a1] ?_; (with_reducible refine (natural_parse.calls k a1 t281 _ A4.out).mono ?_); rintro e w9 ⟨v282, rfl, ho0, hb⟩; refine ⟨_, rfl, ?_⟩; replace HO280 := Aside0.mk (vb HO280.out hb); have HO283 := Aside0.mk (Kd.V_lower (Kd.V_mono (ok' := fun k_ => True) ho0 (fun k_ hk_ => trivial)) (sz HB.out)); replace HB := Aside0.mk (bs HB.out hb); (try clear hb ho0); obtain ⟨Ao10, co10, rfl⟩ := Kd.V_slice HO280.out; obtain ⟨Ao11, co11, rfl⟩ := Kd.V_slice HO283.out) | ((with_reducible refine gd 23 rfl ?_); refine Kd.R_make (Kd.int .u32) _ 72 rfl (N := 23) rfl 65 _ _ rfl ji5 rfl rfl Tryd.underlying65 (.int .u32 0) 4 info72 rfl (by decide) (by omega) 0 (ok := fun _ => True) (okp := fun _ => True) rfl (fun _ hk => hk) trivial oa (Nat.le_trans (Nat.mul_le_mul_right _ (oa : ji5.toNat ≤ 70368744177664)) (by omega)) (Below.refl _ _) (Nat.le_refl _) ?_; intro v285 w12 ho13 hb hg_ hnew_; clear hg_ hnew_; (first | rw [← Ny284.out] at ho13 | (simp only [Int.reduceToNat] at ho13; rw [← Ny284.out] at ho13)); replace HO280 := Aside0.mk (Kd.V_elder' (vs HO280.out) (Kd.R_base ho13) hb); replace HO283 := Aside0.mk (Kd.V_elder' (vs HO283.out) (Kd.R_base ho13) hb); have HO286 := Aside0.mk (Kd.R_lower ho13 (sz HB.out)); replace HB := Aside0.mk (bs HB.out hb); clear hb ho13))
 go_loopg [26] k (fun kq v26 w' => ∃ (x7_1 : List Int) (x26_1 : Int), v26 = .int .i64 x26_1 ∧ Aside0 (natural_Multiply.l0 kq t281 x7_1 t278 (t278.length : Int) x26_1 = some r) ∧ Aside0 (kq ≤ k) ∧ Aside0 (Kd.V (Kd.int .u32) 72 w' w.heap.size (fun k_ => some k_ ≠ (v285 : Value).ownBlock) (.slice Ao11 t281.length co11) t281) ∧ Aside0 (Kd.R (Kd.int .u32) 72 w' w.heap.size (fun _ => True) v285 x7_1) ∧ Aside0 (Kd.V (Kd.int .u32) 72 w' w.heap.size (fun k_ => some k_ ≠ (v285 : Value).ownBlock) (.slice Ao10 t278.length co10) t278) ∧ Aside0 (Below w.heap.size w w'))
 case atStart => exact ⟨(y284), (0), fs, H', ⟨Nat.le_refl _⟩, ⟨vm HO283.out (fun _ hk => hk.2)⟩, ⟨vs HO286.out⟩, ⟨vm HO280.out (fun _ hk => hk.2)⟩, ⟨bz HB.out⟩⟩
 case round =>
  clear H'
  (try clear c6b0); (try clear c6b1); (try clear c7b0); (try clear c7b1)
  obtain ⟨x7_1, x26_1, rfl, HA, HK1, HO_6, HO_7, HO_24, HB⟩ := hrel
  cases gk with
  | zero => exact absurd HA.out (by simp [natural_Multiply.l0])
  | succ k1 =>
   have H := HA.out
   clear HA
   simp only [natural_Multiply.l0] at H
   by_cases c14 : x26_1 < (t278.length : Int)
   ·rw [if_pos c14] at H
    have c14b0 : decide (x26_1 < (t278.length : Int)) = true := decide_eq_true c14
    clear c14
    obtain ⟨c15, H⟩ := iN H
    have c15b0 : decide (0 ≤ x26_1) = true := decide_eq_true c15
    clear c15
    obtain ⟨c16, H⟩ := iN H
    have c16b0 : decide (x26_1 < (t278.length : Int)) = true := decide_eq_true c16
    clear c16
    have H' := Aside0.mk H
    clear H
    have p288 : 0 ≤ (x26_1 : Int) := oa
    have q288 : x26_1 < (t278.length : Int) := oa
    obtain ⟨ad288, e288, hx288_0⟩ := Kd.at_int (Kd.V_reads' HO_24.out).2.2 x26_1 p288 q288
    cases e288
    replace p288 := eq_true p288
    replace q288 := eq_true q288
    go_wp2
    go_loopg [10, 33] k1 (fun kq v10 v33 w' => ∃ (x7_2 : List Int) (x10_2 : Int) (x33_2 : Int), v10 = .int .u64 x10_2 ∧ v33 = .int .i64 x33_2 ∧ Aside0 (natural_Multiply.l1 kq t281 x7_2 x26_1 (rd t278 x26_1) x10_2 t278 (t278.length : Int) x26_1 t281 (t281.length : Int) x33_2 = some r) ∧ Aside0 (kq ≤ k1) ∧ Aside0 (Kd.V (Kd.int .u32) 72 w' w.heap.size (fun k_ => some k_ ≠ (v285 : Value).ownBlock) (.slice Ao11 t281.length co11) t281) ∧ Aside0 (Kd.R (Kd.int .u32) 72 w' w.heap.size (fun _ => True) v285 x7_2) ∧ Aside0 (Kd.V (Kd.int .u32) 72 w' w.heap.size (fun k_ => some k_ ≠ (v285 : Value).ownBlock) (.slice (some ad288) t278.length co10) t278) ∧ Aside0 (Kd.V (Kd.int .u32) 72 w' w.heap.size (fun k_ => some k_ ≠ (v285 : Value).ownBlock) (.slice Ao11 t281.length co11) t281) ∧ Aside0 (Below w.heap.size w w'))
    case atStart => exact ⟨(x7_1), (0), (0), fs, fs, H', ⟨Nat.le_refl _⟩, ⟨vs HO_6.out⟩, ⟨vs HO_7.out⟩, ⟨vs HO_24.out⟩, ⟨vs HO_6.out⟩, ⟨bz HB.out⟩⟩
    case round =>
     clear H'
     (try clear c6b0); (try clear c6b1); (try clear c7b0); (try clear c7b1); (try clear c14b0); (try clear c15b0); (try clear c16b0); (try clear hx288_0); (try clear p288); (try clear q288)
     obtain ⟨x7_2, x10_2, x33_2, rfl, rfl, HA, HK2, HO_6, HO_7, HO_24, HO_31, HB⟩ := hrel
     cases gk with
     | zero => exact absurd HA.out (by simp [natural_Multiply.l1])
     | succ k2 =>
      have H := HA.out
      clear HA
      simp only [natural_Multiply.l1] at H
      by_cases c17 : x33_2 < (t281.length : Int)
      ·rw [if_pos c17] at H
       have c17b0 : decide (x33_2 < (t281.length : Int)) = true := decide_eq_true c17
       clear c17
       obtain ⟨c18, H⟩ := iN H
       have c18b0 : decide (0 ≤ x33_2) = true := decide_eq_true c18
       clear c18
       obtain ⟨c19, H⟩ := iN H
       have c19b0 : decide (x33_2 < (t281.length : Int)) = true := decide_eq_true c19
       clear c19
       obtain ⟨ji20, hji20⟩ : ∃ j_ : Int, (wrap64 (x26_1 + x33_2)) = j_ := ⟨_, rfl⟩
       first | rw [hji20] at H | simp only [hji20] at H
       have hji20w : (IntKind.i64.wrap (x26_1 + x33_2)) = ji20 := (i64_w _).trans hji20
       obtain ⟨c21, H⟩ := iN H
       have c21b0 : decide (0 ≤ (ji20)) = true := decide_eq_true c21
       clear c21
       obtain ⟨c22, H⟩ := iN H
       have c22b0 : decide ((ji20) < (x7_2.length : Int)) = true := decide_eq_true c22
       clear c22
       obtain ⟨y291, hy291⟩ : ∃ y_ : List Int, y_ = (x7_2.set ((ji20) : Int).toNat ((IntKind.u64.wrap ((IntKind.u64.wrap ((IntKind.u64.wrap ((IntKind.u64.wrap ((rd t278 x26_1))) * (IntKind.u64.wrap (rd t281 x33_2)))) + (IntKind.u64.wrap (rd x7_2 (ji20))))) + x10_2)) % 4294967296)) := ⟨_, rfl⟩
       (try first | rw [← hy291] at H | (dsimp only at H; rw [← hy291] at H)); (try rw [Option.bind_some] at H)
       have Ny291 := Aside0.mk hy291
       clear hy291
       have H' := Aside0.mk H
       clear H
       have p289 : 0 ≤ (x33_2 : Int) := oa
       have q289 : x33_2 < (t281.length : Int) := oa
       obtain ⟨ad289, e289, hx289_0⟩ := Kd.at_int (Kd.V_reads' HO_31.out).2.2 x33_2 p289 q289
       cases e289
       replace p289 := eq_true p289
       replace q289 := eq_true q289
       obtain ⟨Ao24, co24, eo24⟩ := Kd.R_slice HO_7.out
       subst eo24
       have p290 : 0 ≤ ((ji20) : Int) := oa
       have q290 : (ji20) < (x7_2.length : Int) := oa
       obtain ⟨ad290, e290, hx290_0⟩ := Kd.at_int (Kd.R_reads' HO_7.out).2.2 (ji20) p290 q290
       cases e290
       replace p290 := eq_true p290
       replace q290 := eq_true q290
       have p23 : 0 ≤ ((ji20) : Int) := oa
       have q23 : ((ji20) : Int) < ((x7_2.length : Int) : Int) := oa
       obtain ⟨go23, co23, eo23, gb23, gl23, cl23, HG23⟩ := Kd.R_form HO_7.out (by omega)
       (first | cases eo23 | (injection eo23 with ea_ en_ ec_; (first | subst ea_ | (injection ea_ with ea_; subst ea_)); subst ec_; clear en_))
       have GB23 := Aside0.mk gb23
       have GG23 := Aside0.mk HG23
       clear gb23 gl23 HG23
       (first | simp only [add_plain] at hx290_0 | skip)
       obtain ⟨hx23_0, hf23_0⟩ := Kd.R_celln 0 HO_7.out ((ji20) : Int) p23 q23
       replace p23 := eq_true p23
       replace q23 := eq_true q23
       have HP25 := Kd.R_putg HO_7.out ((ji20) : Int) ((IntKind.u64.wrap ((IntKind.u64.wrap ((IntKind.u64.wrap ((IntKind.u64.wrap ((rd t278 x26_1))) * (IntKind.u64.wrap (rd t281 x33_2)))) + (IntKind.u64.wrap (rd x7_2 (ji20))))) + x10_2)) % 4294967296)
       go_wp2_with (first | ((with_reducible refine gate_store (t := 72) (p := 59) rfl ?_); refine se 72 59 (w1 := (wr.setCell ⟨go23, ((ji20) : Int).toNat, none⟩ (.int .u32 ((IntKind.u64.wrap ((IntKind.u64.wrap ((IntKind.u64.wrap ((IntKind.u64.wrap ((rd t278 x26_1))) * (IntKind.u64.wrap (rd t281 x33_2)))) + (IntKind.u64.wrap (rd x7_2 (ji20))))) + x10_2)) % 4294967296)))) ?_; intro w26 hw; have hg : wr.grownBy w26 (some go23) := (by rw [hw]; exact HP25.2); have hp_ : Kd.R (Kd.int .u32) 72 w26 w.heap.size (fun _ => True) (.slice (some ⟨go23, 0, none⟩) x7_2.length co24) y291 := (by rw [hw, Ny291.out]; exact HP25.1); clear HP25; replace HO_6 := Aside0.mk (Kd.V_afterv (v := (.slice (some ⟨go23, 0, none⟩) x7_2.length co24)) (v1 := (.slice (some ⟨go23, 0, none⟩) x7_2.length co24)) (ok := (fun _ => True)) (vm HO_6.out (fun _ hk => ⟨trivial, hk⟩)) hg (.inl rfl)); replace HO_7 := Aside0.mk (hp_); replace HO_24 := Aside0.mk (Kd.V_afterv (v := (.slice (some ⟨go23, 0, none⟩) x7_2.length co24)) (v1 := (.slice (some ⟨go23, 0, none⟩) x7_2.length co24)) (ok := (fun _ => True)) (vm HO_24.out (fun _ hk => ⟨trivial, hk⟩)) hg (.inl rfl)); replace HO_31 := Aside0.mk (Kd.V_afterv (v := (.slice (some ⟨go23, 0, none⟩) x7_2.length co24)) (v1 := (.slice (some ⟨go23, 0, none⟩) x7_2.length co24)) (ok := (fun _ => True)) (vm HO_31.out (fun _ hk => ⟨trivial, hk⟩)) hg (.inl rfl)); replace HB := Aside0.mk ((by rw [hw]; exact below_set (HB.out) GB23.out : Below w.heap.size w w26)); clear hg hw hp_))
       go_roundg k2
       case measure => have := HK1.out; have := HK2.out; omega
       case rel => exact ⟨(y291), ((IntKind.u64.wrap ((IntKind.u64.wrap ((IntKind.u64.wrap ((IntKind.u64.wrap ((rd t278 x26_1))) * (IntKind.u64.wrap (rd t281 x33_2)))) + (IntKind.u64.wrap (rd x7_2 (ji20))))) + x10_2)) / 4294967296), (wrap64 (x33_2 + 1)), (by first | rfl | (simp; done) | (simp only [← hji20] <;> (first | rfl | simp)) | (simp [*]; done)), fs, H', ⟨by have := HK1.out; have := HK2.out; omega⟩, ⟨vm HO_6.out (fun _ hk => hk.2)⟩, ⟨vs HO_7.out⟩, ⟨vm HO_24.out (fun _ hk => hk.2)⟩, ⟨vm HO_31.out (fun _ hk => hk.2)⟩, ⟨bz HB.out⟩⟩
      ·rw [if_neg c17] at H
       have c17b0 : decide (x33_2 < (t281.length : Int)) = false := decide_eq_false c17
       clear c17
       obtain ⟨ji27, hji27⟩ : ∃ j_ : Int, (wrap64 (x26_1 + (t281.length : Int))) = j_ := ⟨_, rfl⟩
       first | rw [hji27] at H | simp only [hji27] at H
       have hji27w : (IntKind.i64.wrap (x26_1 + (t281.length : Int))) = ji27 := (i64_w _).trans hji27
       obtain ⟨c28, H⟩ := iN H
       have c28b0 : decide (0 ≤ (ji27)) = true := decide_eq_true c28
       clear c28
       obtain ⟨c29, H⟩ := iN H
       have c29b0 : decide ((ji27) < (x7_2.length : Int)) = true := decide_eq_true c29
       clear c29
       obtain ⟨y292, hy292⟩ : ∃ y_ : List Int, y_ = (x7_2.set ((ji27) : Int).toNat ((x10_2) % 4294967296)) := ⟨_, rfl⟩
       (try first | rw [← hy292] at H | (dsimp only at H; rw [← hy292] at H)); (try rw [Option.bind_some] at H)
       have Ny292 := Aside0.mk hy292
       clear hy292
       have H' := Aside0.mk H
       clear H
       have p30 : 0 ≤ ((ji27) : Int) := oa
       have q30 : ((ji27) : Int) < ((x7_2.length : Int) : Int) := oa
       obtain ⟨go30, co30, eo30, gb30, gl30, cl30, HG30⟩ := Kd.R_form HO_7.out (by omega)
       (first | cases eo30 | (injection eo30 with ea_ en_ ec_; (first | subst ea_ | (injection ea_ with ea_; subst ea_)); subst ec_; clear en_))
       have GB30 := Aside0.mk gb30
       have GG30 := Aside0.mk HG30
       clear gb30 gl30 HG30
       obtain ⟨hx30_0, hf30_0⟩ := Kd.R_celln 0 HO_7.out ((ji27) : Int) p30 q30
       replace p30 := eq_true p30
       replace q30 := eq_true q30
       have HP31 := Kd.R_putg HO_7.out ((ji27) : Int) ((x10_2) % 4294967296)
       go_wp2_with (first | ((with_reducible refine gate_store (t := 72) (p := 70) rfl ?_); refine se 72 70 (w1 := (wr.setCell ⟨go30, ((ji27) : Int).toNat, none⟩ (.int .u32 ((x10_2) % 4294967296)))) ?_; intro w32 hw; have hg : wr.grownBy w32 (some go30) := (by rw [hw]; exact HP31.2); have hp_ : Kd.R (Kd.int .u32) 72 w32 w.heap.size (fun _ => True) (.slice (some ⟨go30, 0, none⟩) x7_2.length co30) y292 := (by rw [hw, Ny292.out]; exact HP31.1); clear HP31; replace HO_6 := Aside0.mk (Kd.V_afterv (v := (.slice (some ⟨go30, 0, none⟩) x7_2.length co30)) (v1 := (.slice (some ⟨go30, 0, none⟩) x7_2.length co30)) (ok := (fun _ => True)) (vm HO_6.out (fun _ hk => ⟨trivial, hk⟩)) hg (.inl rfl)); replace HO_7 := Aside0.mk (hp_); replace HO_24 := Aside0.mk (Kd.V_afterv (v := (.slice (some ⟨go30, 0, none⟩) x7_2.length co30)) (v1 := (.slice (some ⟨go30, 0, none⟩) x7_2.length co30)) (ok := (fun _ => True)) (vm HO_24.out (fun _ hk => ⟨trivial, hk⟩)) hg (.inl rfl)); replace HO_31 := Aside0.mk (Kd.V_afterv (v := (.slice (some ⟨go30, 0, none⟩) x7_2.length co30)) (v1 := (.slice (some ⟨go30, 0, none⟩) x7_2.length co30)) (ok := (fun _ => True)) (vm HO_31.out (fun _ hk => ⟨trivial, hk⟩)) hg (.inl rfl)); replace HB := Aside0.mk ((by rw [hw]; exact below_set (HB.out) GB30.out : Below w.heap.size w w32)); clear hg hw hp_))
       go_roundg k2
       case measure => have := HK1.out; have := HK2.out; omega
       case rel => exact ⟨(y292), (wrap64 (x26_1 + 1)), fs, H', ⟨by have := HK1.out; have := HK2.out; omega⟩, ⟨vm HO_6.out (fun _ hk => hk.2)⟩, ⟨vs HO_7.out⟩, ⟨vm HO_24.out (fun _ hk => hk.2)⟩, ⟨bz HB.out⟩⟩
   ·rw [if_neg c14] at H
    have c14b0 : decide (x26_1 < (t278.length : Int)) = false := decide_eq_false c14
    clear c14
    obtain ⟨t287, A33, H⟩ := bs1 H
    obtain rfl := Option.some.inj H
    obtain ⟨Ao34, co34, eo34⟩ := Kd.R_slice HO_7.out
    subst eo34
    go_wp2_with (first | ((with_reducible refine gc 56 rfl ?_); refine gl (some 73) Tryd.func56 #[.slice Ao34 x7_1.length co34] ?_; (with_reducible refine (natural_limbs_text.calls k1 _ _ x7_1 t287 _ ?side1 ?side2 A33.out).mono ?_); (case side1 => exact vs (Kd.R_reads' HO_7.out).2.2); (case side2 => exact (Kd.R_reads' HO_7.out).2.1); rintro e w35 ⟨rfl, hb⟩; refine ⟨_, rfl, ?_⟩; replace HO_6 := Aside0.mk (vb HO_6.out hb); replace HO_7 := Aside0.mk (rb HO_7.out hb); replace HO_24 := Aside0.mk (vb HO_24.out hb); replace HB := Aside0.mk (bs HB.out hb); (try clear hb)))
    go_ret
    exact ⟨by first | rfl | (simp [errW_none, errW_some] <;> rfl) | (simp only [← hji5]; first | rfl | (simp [errW_none, errW_some] <;> rfl)) | (simp [*, errW_none, errW_some] <;> rfl), bz HB.out⟩

/-! ### stringslite_HasPrefix: function 92 -/
def stringslite_HasPrefix.f (a0 : ByteArray) (a1 : ByteArray) : Option (Bool) := if (a0.size : Int) ≥ (a1.size : Int) then (if 0 ≤ (a1.size : Int) then (if (a1.size : Int) ≤ (a0.size : Int) then (some ((a0.extract 0 ((a1.size : Int) : Int).toNat).toList == a1.toList)) else (none)) else (none)) else (some false)
set_option maxHeartbeats 8000000 in
set_option maxRecDepth 100000 in
theorem stringslite_HasPrefix.calls (a0 : ByteArray) (a1 : ByteArray) (r : Bool) (w : World) (h : stringslite_HasPrefix.f a0 a1 = some r) :
  Calls Tryd.prog 92 #[.string a0, .string a1] w fun e w' => e = .returned (.bool r) ∧ Drawn0 w w' := by
 have H := h
 clear h
 unfold stringslite_HasPrefix.f at H
 by_cases c3 : (a0.size : Int) ≥ (a1.size : Int)
 ·rw [if_pos c3] at H
  have c3b0 : decide ((a1.size : Int) ≤ (a0.size : Int)) = true := decide_eq_true c3
  have c3b1 : decide (a1.size ≤ a0.size) = true := decide_eq_true (Int.ofNat_le.mp c3)
  clear c3
  obtain ⟨c4, H⟩ := iN H
  have c4b0 := eq_true c4
  have c4b1 : decide (0 ≤ (a1.size : Int)) = true := decide_eq_true c4
  clear c4
  obtain ⟨c5, H⟩ := iN H
  have c5b0 := eq_true c5
  have c5b1 : decide ((a1.size : Int) ≤ (a0.size : Int)) = true := decide_eq_true c5
  clear c5
  obtain rfl := Option.some.inj H
  go_enter Tryd.func92, Tryd.ntmps92
  go_wp2
  go_ret
  exact ⟨fs, dz⟩
 ·rw [if_neg c3] at H
  have c3b0 : decide ((a1.size : Int) ≤ (a0.size : Int)) = false := decide_eq_false c3
  have c3b1 : decide (a1.size ≤ a0.size) = false := decide_eq_false (fun h => c3 (Int.ofNat_le.mpr h))
  clear c3
  obtain rfl := Option.some.inj H
  go_enter Tryd.func92, Tryd.ntmps92
  go_wp2
  go_ret
  exact ⟨fs, dz⟩

/-! ### stringslite_CutPrefix: function 64 -/
def stringslite_CutPrefix.f (a0 : ByteArray) (a1 : ByteArray) : Option (ByteArray × Bool) := (stringslite_HasPrefix.f a0 a1).bind fun t293 => (if t293 = true then (if 0 ≤ (a1.size : Int) then (if (a1.size : Int) ≤ (a0.size : Int) then (some (a0.extract ((a1.size : Int) : Int).toNat a0.size, true)) else (none)) else (none)) else (some (a0, false)))
set_option maxHeartbeats 8000000 in
set_option maxRecDepth 100000 in
theorem stringslite_CutPrefix.calls (a0 : ByteArray) (a1 : ByteArray) (r1 : ByteArray) (r2 : Bool) (w : World) (h : stringslite_CutPrefix.f a0 a1 = some (r1, r2)) :
  Calls Tryd.prog 64 #[.string a0, .string a1] w fun e w' => e = .returned (.tuple #[.string r1, .bool r2]) ∧ Drawn0 w w' := by
 have H := h
 clear h
 unfold stringslite_CutPrefix.f at H
 obtain ⟨t293, A3, H⟩ := bs1 H
 by_cases c4 : t293 = true
 ·subst c4
  have H1 : (if 0 ≤ (a1.size : Int) then (if (a1.size : Int) ≤ (a0.size : Int) then (some (a0.extract ((a1.size : Int) : Int).toNat a0.size, true)) else (none)) else (none)) = some (r1, r2) := by rw [if_pos rfl] at H; exact H
  clear H
  have H := H1
  clear H1
  obtain ⟨c5, H⟩ := iN H
  have c5b0 := eq_true c5
  have c5b1 : decide (0 ≤ (a1.size : Int)) = true := decide_eq_true c5
  clear c5
  obtain ⟨c6, H⟩ := iN H
  have c6b0 := eq_true c6
  have c6b1 : decide ((a1.size : Int) ≤ (a0.size : Int)) = true := decide_eq_true c6
  clear c6
  simp only [Option.some.injEq, Prod.mk.injEq] at H
  obtain ⟨rfl, rfl⟩ := H
  go_enter Tryd.func64, Tryd.ntmps64
  go_wp2_with (first | ((with_reducible refine gc 92 rfl ?_); refine gl (some 8) Tryd.func92 #[.string a0, .string a1] ?_; (with_reducible refine (stringslite_HasPrefix.calls a0 a1 true _ A3.out).mono ?_); rintro e w' ⟨rfl, ⟨nd, rfl⟩⟩; refine ⟨_, rfl, ?_⟩))
  go_ret2
  exact ⟨fs, dz⟩
 ·replace c4 := Bool.eq_false_iff.mpr c4
  subst c4
  have H1 : (some (a0, false)) = some (r1, r2) := by rw [if_neg (show ¬ (false = true) by decide)] at H; exact H
  clear H
  have H := H1
  clear H1
  simp only [Option.some.injEq, Prod.mk.injEq] at H
  obtain ⟨rfl, rfl⟩ := H
  go_enter Tryd.func64, Tryd.ntmps64
  go_wp2_with (first | ((with_reducible refine gc 92 rfl ?_); refine gl (some 8) Tryd.func92 #[.string a0, .string a1] ?_; (with_reducible refine (stringslite_HasPrefix.calls a0 a1 false _ A3.out).mono ?_); rintro e w' ⟨rfl, ⟨nd, rfl⟩⟩; refine ⟨_, rfl, ?_⟩))
  go_ret2
  exact ⟨fs, dz⟩

/-! ### strings_CutPrefix: function 43 -/
def strings_CutPrefix.f (a0 : ByteArray) (a1 : ByteArray) : Option (ByteArray × Bool) := (stringslite_CutPrefix.f a0 a1).bind fun bt294 => (some (bt294.1, bt294.2))
set_option maxHeartbeats 8000000 in
set_option maxRecDepth 100000 in
theorem strings_CutPrefix.calls (a0 : ByteArray) (a1 : ByteArray) (r1 : ByteArray) (r2 : Bool) (w : World) (h : strings_CutPrefix.f a0 a1 = some (r1, r2)) :
  Calls Tryd.prog 43 #[.string a0, .string a1] w fun e w' => e = .returned (.tuple #[.string r1, .bool r2]) ∧ Drawn0 w w' := by
 have H := h
 clear h
 unfold strings_CutPrefix.f at H
 obtain ⟨⟨t294, t295⟩, A3, H⟩ := bs1 H; dsimp only at H
 simp only [Option.some.injEq, Prod.mk.injEq] at H
 obtain ⟨rfl, rfl⟩ := H
 go_enter Tryd.func43, Tryd.ntmps43
 go_wp2_with (first | ((with_reducible refine gc 64 rfl ?_); refine gl (some 8) Tryd.func64 #[.string a0, .string a1] ?_; (with_reducible refine (stringslite_CutPrefix.calls a0 a1 t294 t295 _ A3.out).mono ?_); rintro e w' ⟨rfl, ⟨nd, rfl⟩⟩; refine ⟨_, rfl, ?_⟩))
 go_ret2
 exact ⟨fs, dz⟩

-- NOT PRINTED: function 119 (bytealg_hashStr_string)

-- NOT PRINTED: function 110 (bytealg_IndexRabinKarp_string)

/-! ### stringslite_Index: function 93 -/
def stringslite_Index.j0 : Nat → ByteArray → ByteArray → Int → Bool → Option (Int)
 | 0, _, _, _, _ => none
 | k + 1, x0, x1, x5, x16 => if x16 = true then (some 0) else (if x5 = 1 then (if 0 < (x1.size : Int) then ((stringslite_IndexByte.f x0 (bt x1 0)).bind fun t296 => (some t296)) else (none)) else (if x5 ≥ (x0.size : Int) then (some (-1)) else (none)))
def stringslite_Index.f (k : Nat) (a0 : ByteArray) (a1 : ByteArray) : Option (Int) := if (a1.size : Int) = 0 then (stringslite_Index.j0 k a0 a1 (a1.size : Int) true) else (stringslite_Index.j0 k a0 a1 (a1.size : Int) (a1.toList == a0.toList))
theorem stringslite_Index.mono_l : ∀ k, (∀ y0 y1 y2 y3, LeO (stringslite_Index.j0 k y0 y1 y2 y3) (stringslite_Index.j0 (k + 1) y0 y1 y2 y3))
 | 0 => fun _ _ _ _ r h => by simp [stringslite_Index.j0] at h
 | k + 1 => by
  have ih0 := stringslite_Index.mono_l k
  ·intro y0 y1 y2 y3
   unfold stringslite_Index.j0
   repeat' with_reducible first | exact ih0 _ _ _ _ | exact LeO.refl _ | exact LeO.none _ | refine LeO.ite ?_ ?_ | refine LeO.bind ?_ (fun _ => ?_)
theorem stringslite_Index.mono : ∀ a0 a1 k, LeO (stringslite_Index.f k a0 a1) (stringslite_Index.f (k + 1) a0 a1) := by
 intro a0 a1 k
 have ih0 := stringslite_Index.mono_l k
 unfold stringslite_Index.f
 repeat' with_reducible first | exact ih0 _ _ _ _ | exact LeO.refl _ | exact LeO.none _ | refine LeO.ite ?_ ?_ | refine LeO.bind ?_ (fun _ => ?_)
set_option maxHeartbeats 8000000 in
set_option maxRecDepth 100000 in
theorem stringslite_Index.calls (k : Nat) (a0 : ByteArray) (a1 : ByteArray) (r : Int) (w : World) (h : stringslite_Index.f k a0 a1 = some r) :
  Calls Tryd.prog 93 #[.string a0, .string a1] w fun e w' => e = .returned (.int .i64 r) ∧ Drawn0 w w' := by
 have H := h
 clear h
 unfold stringslite_Index.f at H
 have HC3 := Aside0.mk H
 clear H
 go_enter Tryd.func93, Tryd.ntmps93
 (try (simp only [Exit.then]; refine (by assumption : ∀ (a : Act) (w : World), Code.wp _ _ _ a w → _) _ _ ?_))
 go_upto_region 2 with (fail)
 go_cut [16] (fun v16 wc => ∃ (kq : Nat) (x16_2 : Bool), v16 = .bool x16_2 ∧ Aside0 (stringslite_Index.j0 kq a0 a1 (a1.size : Int) x16_2 = some r) ∧ Aside0 (kq ≤ k) ∧ Drawn0 w wc)
 case first =>
  have H := HC3.out
  clear HC3
  by_cases c4 : (a1.size : Int) = 0
  ·rw [if_pos c4] at H
   have c4b0 := beq_iff_eq.mpr c4
   have c4b1 := bne_eq_false_iff_eq.mpr c4
   clear c4
   (first | rw [c4b0] | (simp only [i64_w, i32_w]; rw [c4b0]) | skip)
   have H' := Aside0.mk H
   clear H
   go_wp2
   go_meet
   case rel => exact ⟨_, (true), fs, H', ⟨by first | omega | exact Nat.le_refl _⟩, dz⟩
  ·rw [if_neg c4] at H
   have c4b0 := beq_eq_false_iff_ne.mpr c4
   have c4b1 := bne_iff_ne.mpr c4
   (first | rw [c4b0] | (simp only [i64_w, i32_w]; rw [c4b0]) | skip)
   have H' := Aside0.mk H
   clear H
   go_wp2
   go_meet
   case rel => exact ⟨_, ((a1.toList == a0.toList)), fs, H', ⟨by first | omega | exact Nat.le_refl _⟩, dz⟩
 case rest =>
  clear HC3
  (try clear c4b0); (try clear c4b1)
  obtain ⟨kq, x16_2, rfl, HA, HJ2, ⟨mc2, rfl⟩⟩ := hcut
  cases kq with
  | zero => exact absurd HA.out (by simp [stringslite_Index.j0])
  | succ kj2 =>
   have H := HA.out
   clear HA
   simp only [stringslite_Index.j0] at H
   by_cases c5 : x16_2 = true
   ·subst c5
    have H1 : (some 0) = some r := by rw [if_pos rfl] at H; exact H
    clear H
    have H := H1
    clear H1
    obtain rfl := Option.some.inj H
    go_wp2
    go_ret
    exact ⟨fs, dz⟩
   ·replace c5 := Bool.eq_false_iff.mpr c5
    subst c5
    have H1 : (if (a1.size : Int) = 1 then (if 0 < (a1.size : Int) then ((stringslite_IndexByte.f a0 (bt a1 0)).bind fun t296 => (some t296)) else (none)) else (if (a1.size : Int) ≥ (a0.size : Int) then (some (-1)) else (none))) = some r := by rw [if_neg (show ¬ (false = true) by decide)] at H; exact H
    clear H
    have H := H1
    clear H1
    by_cases c6 : (a1.size : Int) = 1
    ·rw [if_pos c6] at H
     have c6b0 := beq_iff_eq.mpr c6
     have c6b1 := bne_eq_false_iff_eq.mpr c6
     clear c6
     obtain ⟨c7, H⟩ := iN H
     have c7b0 : decide (0 < (a1.size : Int)) = true := decide_eq_true c7
     have c7b1 : decide (0 < a1.size) = true := decide_eq_true (by omega)
     clear c7
     obtain ⟨t296, A9, H⟩ := bs1 H
     obtain rfl := Option.some.inj H
     have p8 : 0 ≤ (0 : Int) := (by omega)
     have q8 : 0 < a1.size := (by have : (0 : Int) < (a1.size : Int) := oa; omega)
     have hx8 : ∀ h : 0 < a1.size, ((a1[0]'h).toNat : Int) = bt a1 0 := bt_at a1 0
     clear p8
     have qi8 : (0 < (a1.size : Int)) = True := eq_true oa
     replace q8 := eq_true q8
     go_wp2_with (first | ((with_reducible refine gc 107 rfl ?_); refine gl (some 30) Tryd.func107 #[.string a0, .int .u8 (bt a1 0)] ?_; (with_reducible refine (stringslite_IndexByte.calls a0 (bt a1 0) t296 _ A9.out).mono ?_); rintro e w' ⟨rfl, ⟨nd, rfl⟩⟩; refine ⟨_, rfl, ?_⟩))
     go_ret
     exact ⟨fs, dz⟩
    ·rw [if_neg c6] at H
     have c6b0 := beq_eq_false_iff_ne.mpr c6
     have c6b1 := bne_iff_ne.mpr c6
     obtain ⟨c10, H⟩ := iN H
     have c10b0 : decide ((a0.size : Int) ≤ (a1.size : Int)) = true := decide_eq_true c10
     have c10b1 : decide (a0.size ≤ a1.size) = true := decide_eq_true (Int.ofNat_le.mp c10)
     clear c10
     obtain rfl := Option.some.inj H
     go_wp2
     go_ret
     exact ⟨fs, dz⟩

/-! ### stringslite_Cut: function 65 -/
def stringslite_Cut.f (k : Nat) (a0 : ByteArray) (a1 : ByteArray) : Option (ByteArray × ByteArray × Bool) := (stringslite_Index.f k a0 a1).bind fun t297 => (if t297 ≥ 0 then (if 0 ≤ t297 then (if t297 ≤ (a0.size : Int) then (if 0 ≤ (wrap64 (t297 + (a1.size : Int))) then (if (wrap64 (t297 + (a1.size : Int))) ≤ (a0.size : Int) then (some (a0.extract 0 (t297 : Int).toNat, a0.extract ((wrap64 (t297 + (a1.size : Int))) : Int).toNat a0.size, true)) else (none)) else (none)) else (none)) else (none)) else (some (a0, (⟨#[]⟩ : ByteArray), false)))
theorem stringslite_Cut.mono : ∀ a0 a1 k, LeO (stringslite_Cut.f k a0 a1) (stringslite_Cut.f (k + 1) a0 a1) := by
 intro a0 a1 k
 unfold stringslite_Cut.f
 repeat' with_reducible first | exact stringslite_Index.mono _ _ _ | exact LeO.refl _ | exact LeO.none _ | refine LeO.ite ?_ ?_ | refine LeO.bind ?_ (fun _ => ?_)
set_option maxHeartbeats 8000000 in
set_option maxRecDepth 100000 in
theorem stringslite_Cut.calls (k : Nat) (a0 : ByteArray) (a1 : ByteArray) (r1 : ByteArray) (r2 : ByteArray) (r3 : Bool) (w : World) (h : stringslite_Cut.f k a0 a1 = some (r1, r2, r3)) :
  Calls Tryd.prog 65 #[.string a0, .string a1] w fun e w' => e = .returned (.tuple #[.string r1, .string r2, .bool r3]) ∧ Drawn0 w w' := by
 have H := h
 clear h
 unfold stringslite_Cut.f at H
 obtain ⟨t297, A3, H⟩ := bs1 H
 by_cases c4 : t297 ≥ 0
 ·rw [if_pos c4] at H
  have c4b0 : decide (0 ≤ t297) = true := decide_eq_true c4
  clear c4
  obtain ⟨c5, H⟩ := iN H
  have c5b0 := eq_true c5
  have c5b1 : decide (0 ≤ t297) = true := decide_eq_true c5
  clear c5
  obtain ⟨c6, H⟩ := iN H
  have c6b0 := eq_true c6
  have c6b1 : decide (t297 ≤ (a0.size : Int)) = true := decide_eq_true c6
  clear c6
  obtain ⟨ji7, hji7⟩ : ∃ j_ : Int, (wrap64 (t297 + (a1.size : Int))) = j_ := ⟨_, rfl⟩
  first | rw [hji7] at H | simp only [hji7] at H
  (try rw [hji7] at A3)
  have hji7w : (IntKind.i64.wrap (t297 + (a1.size : Int))) = ji7 := (i64_w _).trans hji7
  obtain ⟨c8, H⟩ := iN H
  have c8b0 := eq_true c8
  have c8b1 : decide (0 ≤ (ji7)) = true := decide_eq_true c8
  clear c8
  obtain ⟨c9, H⟩ := iN H
  have c9b0 := eq_true c9
  have c9b1 : decide ((ji7) ≤ (a0.size : Int)) = true := decide_eq_true c9
  clear c9
  simp only [Option.some.injEq, Prod.mk.injEq] at H
  obtain ⟨rfl, rfl, rfl⟩ := H
  go_enter Tryd.func65, Tryd.ntmps65
  go_wp2_with (first | (go_at_call 93; (with_reducible refine (stringslite_Index.calls k a0 a1 t297 _ A3.out).mono ?_); rintro e w' ⟨rfl, ⟨nd, rfl⟩⟩; (try exact dw)))
  repeat (go_quiet (first | (go_at_call 93; (with_reducible refine (stringslite_Index.calls k a0 a1 t297 _ A3.out).mono ?_); rintro e w' ⟨rfl, ⟨nd, rfl⟩⟩; (try exact dw))); try go_wp2_with (first | (go_at_call 93; (with_reducible refine (stringslite_Index.calls k a0 a1 t297 _ A3.out).mono ?_); rintro e w' ⟨rfl, ⟨nd, rfl⟩⟩; (try exact dw))))
  go_ret3
  exact ⟨by first | rfl | (simp; done) | (simp only [← hji7] <;> (first | rfl | simp)) | (simp [*]; done), dz⟩
 ·rw [if_neg c4] at H
  have c4b0 : decide (0 ≤ t297) = false := decide_eq_false c4
  clear c4
  simp only [Option.some.injEq, Prod.mk.injEq] at H
  obtain ⟨rfl, rfl, rfl⟩ := H
  go_enter Tryd.func65, Tryd.ntmps65
  go_wp2_with (first | (go_at_call 93; (with_reducible refine (stringslite_Index.calls k a0 a1 t297 _ A3.out).mono ?_); rintro e w' ⟨rfl, ⟨nd, rfl⟩⟩; (try exact dw)))
  repeat (go_quiet (first | (go_at_call 93; (with_reducible refine (stringslite_Index.calls k a0 a1 t297 _ A3.out).mono ?_); rintro e w' ⟨rfl, ⟨nd, rfl⟩⟩; (try exact dw))); try go_wp2_with (first | (go_at_call 93; (with_reducible refine (stringslite_Index.calls k a0 a1 t297 _ A3.out).mono ?_); rintro e w' ⟨rfl, ⟨nd, rfl⟩⟩; (try exact dw))))
  go_ret3
  exact ⟨fs, dz⟩

/-! ### strings_Cut: function 44 -/
def strings_Cut.f (k : Nat) (a0 : ByteArray) (a1 : ByteArray) : Option (ByteArray × ByteArray × Bool) := (stringslite_Cut.f k a0 a1).bind fun bt298 => (some (bt298.1, bt298.2.1, bt298.2.2))
theorem strings_Cut.mono : ∀ a0 a1 k, LeO (strings_Cut.f k a0 a1) (strings_Cut.f (k + 1) a0 a1) := by
 intro a0 a1 k
 unfold strings_Cut.f
 repeat' with_reducible first | exact stringslite_Cut.mono _ _ _ | exact LeO.refl _ | exact LeO.none _ | refine LeO.ite ?_ ?_ | refine LeO.bind ?_ (fun _ => ?_)
set_option maxHeartbeats 8000000 in
set_option maxRecDepth 100000 in
theorem strings_Cut.calls (k : Nat) (a0 : ByteArray) (a1 : ByteArray) (r1 : ByteArray) (r2 : ByteArray) (r3 : Bool) (w : World) (h : strings_Cut.f k a0 a1 = some (r1, r2, r3)) :
  Calls Tryd.prog 44 #[.string a0, .string a1] w fun e w' => e = .returned (.tuple #[.string r1, .string r2, .bool r3]) ∧ Drawn0 w w' := by
 have H := h
 clear h
 unfold strings_Cut.f at H
 obtain ⟨⟨t298, t299, t300⟩, A3, H⟩ := bs1 H; dsimp only at H
 simp only [Option.some.injEq, Prod.mk.injEq] at H
 obtain ⟨rfl, rfl, rfl⟩ := H
 go_enter Tryd.func44, Tryd.ntmps44
 go_wp2_with (first | ((with_reducible refine gc 65 rfl ?_); refine gl (some 9) Tryd.func65 #[.string a0, .string a1] ?_; (with_reducible refine (stringslite_Cut.calls k a0 a1 t298 t299 t300 _ A3.out).mono ?_); rintro e w' ⟨rfl, ⟨nd, rfl⟩⟩; refine ⟨_, rfl, ?_⟩))
 go_ret3
 exact ⟨fs, dz⟩
end Go.Proofs.YtgepdnoaemeofaaDoor.M
