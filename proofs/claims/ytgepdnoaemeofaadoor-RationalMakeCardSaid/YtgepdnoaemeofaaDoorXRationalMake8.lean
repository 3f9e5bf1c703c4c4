/- Printed by a program of this session (wip/tools) out of the translation: plain functions and the proofs that the code comes to their answers. -/
import Derived.Test.YtgepdnoaemeofaaDoorXRationalMake7
namespace Go.Proofs.YtgepdnoaemeofaaDoor.M
open Go.RowKit Go.Proofs.YtgepdnoaemeofaaDoorW.PrintWords Go.Proofs.YtgepdnoaemeofaaDoorW.PrintLast Go.Proofs.YtgepdnoaemeofaaDoorW.PrintMore Go.Proofs.YtgepdnoaemeofaaDoorW.PK
attribute [local go_sem] max2_int min2_int max_two min_two max_three min_three max_four min_four   -- for this text's walks alone
set_option linter.unusedVariables false
set_option linter.unusedSimpArgs false

attribute [local go_sem high] eqA23
/-! ### insolvencyref1_divide: function 59 -/
def insolvencyref1_divide.f (k : Nat) (l0 : List Int) (l1 : List Int) : Option (List Int × List Int) := (insolvencyref1_order.f k l0 l1).bind fun t553 => (if t553 < 0 then (some (([] : List Int), l0)) else (if (l1.length : Int) = 1 then (if 0 < (l1.length : Int) then ((insolvencyref1_short.f k l0 (rd l1 0)).bind fun bt555 => ((insolvencyref1_strip.f k (([bt555.2] : List Int))).bind fun t562 => (some (bt555.1, t562)))) else (none)) else ((insolvencyref1_long.f k l0 l1).bind fun bt565 => (some (bt565.1, bt565.2)))))
theorem insolvencyref1_divide.mono : ∀ a0 a1 k, LeO (insolvencyref1_divide.f k a0 a1) (insolvencyref1_divide.f (k + 1) a0 a1) := by
 intro a0 a1 k
 unfold insolvencyref1_divide.f
 repeat' with_reducible first | exact insolvencyref1_long.mono _ _ _ | exact insolvencyref1_order.mono _ _ _ | exact insolvencyref1_short.mono _ _ _ | exact insolvencyref1_strip.mono _ _ | exact LeO.refl _ | exact LeO.none _ | refine LeO.ite ?_ ?_ | refine LeO.bind ?_ (fun _ => ?_)
set_option maxHeartbeats 8000000 in
set_option maxRecDepth 100000 in
theorem insolvencyref1_divide.calls (k : Nat) (P0_ : Nat → Prop) (A0 : Option Addr) (c0 : Nat) (l0 : List Int) (A1 : Option Addr) (c1 : Nat) (l1 : List Int) (r1 : List Int) (r2 : List Int) (w : World) (hs0 : Kd.V (Kd.int .u32) 72 w w.heap.size (fun k_ => P0_ k_) (.slice A0 l0.length c0) l0) (hr1 : Kd.C (Kd.int .u32) w A1 l1.length l1) (hc1 : l1.length ≤ c1) (h : insolvencyref1_divide.f k l0 l1 = some (r1, r2)) :
  Calls Tryd.prog 59 #[.slice A0 l0.length c0, .slice A1 l1.length c1] w fun e w' => ∃ v0_ v1_ : Value, e = .returned (.tuple #[v0_, v1_]) ∧ Kd.V (Kd.int .u32) 72 w' w.heap.size (fun k_ => (P0_ k_ ∨ w.heap.size ≤ k_)) v0_ r1 ∧ Kd.V (Kd.int .u32) 72 w' w.heap.size (fun k_ => (P0_ k_ ∨ w.heap.size ≤ k_)) v1_ r2 ∧ Below w.heap.size w w' := by
 have HO0 := Aside0.mk (show Kd.V (Kd.int .u32) 72 w w.heap.size (fun k_ => (P0_ k_ ∨ w.heap.size ≤ k_)) (.slice A0 l0.length c0) l0 from Kd.V_mono hs0 (fun k_ hk => .inl hk))
 have HR1 := Aside0.mk hr1
 have HC1 := Aside0.mk hc1
 clear hr1 hc1
 have HB := Aside0.mk (Below.refl w.heap.size w)
 have H := h
 clear h
 unfold insolvencyref1_divide.f at H
 obtain ⟨t553, A3, H⟩ := bs1 H
 by_cases c4 : t553 < 0
 ·rw [if_pos c4] at H
  have c4b0 : decide (t553 < 0) = true := decide_eq_true c4
  clear c4
  simp only [Option.some.injEq, Prod.mk.injEq] at H
  obtain ⟨rfl, rfl⟩ := H
  go_enter Tryd.func59, Tryd.ntmps59
  go_wp2_with (first | ((with_reducible refine gc 87 rfl ?_); refine gl (some 10) Tryd.func87 #[.slice A0 l0.length c0, .slice A1 l1.length c1] ?_; (with_reducible refine (insolvencyref1_order.calls k _ _ l0 _ _ l1 t553 _ ?side1 ?side2 ?side3 ?side4 A3.out).mono ?_); (case side1 => exact vs (Kd.V_reads' HO0.out).2.2); (case side2 => exact (Kd.V_reads' HO0.out).2.1); (case side3 => repeat (first | exact HR1.out | (with_reducible refine Kd.C_alloc ?_ _) | (with_reducible refine Kd.C_drewN ?_ _) | (with_reducible refine Kd.C_drew ?_))); (case side4 => exact HC1.out); rintro e w' ⟨rfl, ⟨nd, rfl⟩⟩; refine ⟨_, rfl, ?_⟩))
  go_ret2
  exact ⟨_, _, fe, (by first | exact Kd.V_nil _ _ _ _ _ | exact Kd.V_mono (Kd.R_V (by first | exact Kd.R_nil _ _ _ _ _ | exact Kd.N_nil _ _ _ _ _ | exact Kd.V_nil _ _ _ _ _ | exact Kd.Q_nil _ _ _ _ _ | exact Kd.S_nil _ _ _ _ _)) (fun k_ hk => by first | exact ⟨(.inr (hk.1)), hk.2⟩ | exact (.inr (hk)))), vs HO0.out, bz HB.out⟩
 ·rw [if_neg c4] at H
  have c4b0 : decide (t553 < 0) = false := decide_eq_false c4
  clear c4
  by_cases c5 : (l1.length : Int) = 1
  ·rw [if_pos c5] at H
   have c5b0 := beq_iff_eq.mpr c5
   have c5b1 := bne_eq_false_iff_eq.mpr c5
   clear c5
   obtain ⟨c6, H⟩ := iN H
   have c6b0 : decide (0 < (l1.length : Int)) = true := decide_eq_true c6
   have c6b1 : decide (0 < l1.length) = true := decide_eq_true (by omega)
   clear c6
   obtain ⟨⟨t555, t558⟩, A7, H⟩ := bs1 H; dsimp only at H
   obtain ⟨y559, hy559⟩ : ∃ y_ : List Int, y_ = (([t558] : List Int)) := ⟨_, rfl⟩
   (try first | rw [← hy559] at H | (dsimp only at H; rw [← hy559] at H)); (try rw [Option.bind_some] at H)
   have Ny559 := Aside0.mk hy559
   clear hy559
   obtain ⟨t562, A8, H⟩ := bs1 H
   simp only [Option.some.injEq, Prod.mk.injEq] at H
   obtain ⟨rfl, rfl⟩ := H
   go_enter Tryd.func59, Tryd.ntmps59
   go_wp2_with (first | ((with_reducible refine gc 87 rfl ?_); refine gl (some 10) Tryd.func87 #[.slice A0 l0.length c0, .slice A1 l1.length c1] ?_; (with_reducible refine (insolvencyref1_order.calls k _ _ l0 _ _ l1 t553 _ ?side1 ?side2 ?side3 ?side4 A3.out).mono ?_); (case side1 => exact vs (Kd.V_reads' HO0.out).2.2); (case side2 => exact (Kd.V_reads' HO0.out).2.1); (case side3 => repeat (first | exact HR1.out | (with_reducible refine Kd.C_alloc ?_ _) | (with_reducible refine Kd.C_drewN ?_ _) | (with_reducible refine Kd.C_drew ?_))); (case side4 => exact HC1.out); rintro e w' ⟨rfl, ⟨nd, rfl⟩⟩; refine ⟨_, rfl, ?_⟩; have p554 : 0 ≤ (0 : Int) := (by omega); have q554 : 0 < (l1.length : Int) := oa; obtain ⟨ad554, e554, hx554_0⟩ := Kd.at_int HR1.out 0 p554 q554; cases e554; have qi554 : (0 < l1.length) = True := eq_true (by omega); (try rw [show ((0 : Int)).toNat = 0 from rfl] at hx554_0); (try rw [Addr.add_zero'] at hx554_0); replace p554 := eq_true p554; replace q554 := eq_true q554) | ((with_reducible refine gc 88 rfl ?_); refine gl (some 21) Tryd.func88 #[.slice A0 l0.length c0, .int .u32 (rd l1 0)] ?_; (with_reducible refine (insolvencyref1_short.calls k _ _ l0 (rd l1 0) t555 t558 _ ?side1 ?side2 A7.out).mono ?_); (case side1 => exact vs (Kd.V_reads' HO0.out).2.2); (case side2 => exact (Kd.V_reads' HO0.out).2.1); rintro e w9 ⟨v556, rfl, ho0, hb⟩; refine ⟨_, rfl, ?_⟩; replace HO0 := Aside0.mk (vb HO0.out hb); have HO557 := Aside0.mk (Kd.V_lower (Kd.V_mono (ok' := fun k_ => (P0_ k_ ∨ w.heap.size ≤ k_)) ho0 (fun k_ hk_ => (.inr (Nat.le_trans (sz HB.out) hk_)))) (sz HB.out)); replace HB := Aside0.mk (bs HB.out hb); (try clear hb ho0)) | ((with_reducible refine gd 26 rfl ?_); refine Kd.R_lit (Kd.int .u32) _ 72 ?hg (N := 26) ?hd (xs := ([t558] : List Int)) (inner := [.int .u32 t558]) (ok := fun _ => True) (okp := fun _ => True) ?hr ?hp (fun _ hk => hk) trivial (Below.refl _ _) (Nat.le_refl _) (by simp) ?_; (case hd => rfl); (case hg => rfl); (case hr => first | (go_simp; done) | (go_simp; rfl)); (case hp => exact (Reps.one (show Kd.M (Kd.int .u32) _ _ _ t558 [.int .u32 t558] from rfl) (Reps.none _ _))); intro v560 w10 ho11 hb hg_ hnew_; clear hg_ hnew_; (first | rw [← Ny559.out] at ho11 | (simp only [Int.reduceToNat] at ho11; rw [← Ny559.out] at ho11)); replace HO0 := Aside0.mk (Kd.V_elder' (vs HO0.out) (Kd.R_base ho11) hb); replace HO557 := Aside0.mk (Kd.V_elder' (vs HO557.out) (Kd.R_base ho11) hb); have HO561 := Aside0.mk (Kd.R_lower (Kd.R_newM (M := fun k_ => (w.heap.size ≤ k_)) ho11 (sz HB.out) (fun k_ h_ => h_)) (sz HB.out)); replace HB := Aside0.mk (bs HB.out hb); clear hb ho11; obtain ⟨Ao12, co12, eo12⟩ := Kd.R_slice HO561.out; subst eo12) | ((with_reducible refine gc 86 rfl ?_); refine gl (some 27) Tryd.func86 #[.slice Ao12 y559.length co12] ?_; (with_reducible refine (insolvencyref1_strip.calls k (fun k_ => some k_ = (.slice Ao12 y559.length co12 : Value).ownBlock) _ _ y559 t562 _ ?side1 A8.out).mono ?_); (case side1 => exact Kd.R_V (Kd.R_tight rfl (HO561.out))); rintro e w13 ⟨v563, rfl, ho0, hb⟩; refine ⟨_, rfl, ?_⟩; replace HO0 := Aside0.mk (vb HO0.out hb); replace HO557 := Aside0.mk (vb HO557.out hb); have HO564 := Aside0.mk (Kd.V_lower (Kd.V_mono (ok' := fun k_ => (P0_ k_ ∨ w.heap.size ≤ k_)) ho0 (fun k_ hk_ => Or.elim hk_ (fun hs_ => (.inr (((HO561.out).1 k_ hs_.symm).1))) (fun hn_ => (.inr (Nat.le_trans (sz HB.out) hn_))))) (sz HB.out)); replace HO561 := Aside0.mk (rb HO561.out hb); replace HB := Aside0.mk (bs HB.out hb); (try clear hb ho0)))
   go_ret2
   exact ⟨_, _, fe, vm HO557.out (fun _ hk => hk.1), vs HO564.out, bz HB.out⟩
  ·rw [if_neg c5] at H
   have c5b0 := beq_eq_false_iff_ne.mpr c5
   have c5b1 := bne_iff_ne.mpr c5
   obtain ⟨⟨t565, t568⟩, A14, H⟩ := bs1 H; dsimp only at H
   simp only [Option.some.injEq, Prod.mk.injEq] at H
   obtain ⟨rfl, rfl⟩ := H
   go_enter Tryd.func59, Tryd.ntmps59
   go_wp2_with (first | ((with_reducible refine gc 87 rfl ?_); refine gl (some 10) Tryd.func87 #[.slice A0 l0.length c0, .slice A1 l1.length c1] ?_; (with_reducible refine (insolvencyref1_order.calls k _ _ l0 _ _ l1 t553 _ ?side1 ?side2 ?side3 ?side4 A3.out).mono ?_); (case side1 => exact vs (Kd.V_reads' HO0.out).2.2); (case side2 => exact (Kd.V_reads' HO0.out).2.1); (case side3 => repeat (first | exact HR1.out | (with_reducible refine Kd.C_alloc ?_ _) | (with_reducible refine Kd.C_drewN ?_ _) | (with_reducible refine Kd.C_drew ?_))); (case side4 => exact HC1.out); rintro e w' ⟨rfl, ⟨nd, rfl⟩⟩; refine ⟨_, rfl, ?_⟩) | ((with_reducible refine gc 89 rfl ?_); refine gl (some 30) Tryd.func89 #[.slice A0 l0.length c0, .slice A1 l1.length c1] ?_; (with_reducible refine (insolvencyref1_long.calls k _ _ l0 _ _ l1 t565 t568 _ ?side1 ?side2 ?side3 ?side4 A14.out).mono ?_); (case side1 => exact vs (Kd.V_reads' HO0.out).2.2); (case side2 => exact (Kd.V_reads' HO0.out).2.1); (case side3 => repeat (first | exact HR1.out | (with_reducible refine Kd.C_alloc ?_ _) | (with_reducible refine Kd.C_drewN ?_ _) | (with_reducible refine Kd.C_drew ?_))); (case side4 => exact HC1.out); rintro e w15 ⟨v566, v569, rfl, ho0, ho1, hb⟩; refine ⟨_, rfl, ?_⟩; replace HO0 := Aside0.mk (vb HO0.out hb); have HO567 := Aside0.mk (Kd.V_lower (Kd.V_mono (ok' := fun k_ => (P0_ k_ ∨ w.heap.size ≤ k_)) ho0 (fun k_ hk_ => (.inr (Nat.le_trans (sz HB.out) hk_)))) (sz HB.out)); have HO570 := Aside0.mk (Kd.V_lower (Kd.V_mono (ok' := fun k_ => (P0_ k_ ∨ w.heap.size ≤ k_)) ho1 (fun k_ hk_ => (.inr (Nat.le_trans (sz HB.out) hk_)))) (sz HB.out)); replace HB := Aside0.mk (bs HB.out hb); (try clear hb ho0 ho1)))
   go_ret2
   exact ⟨_, _, fe, vs HO567.out, vs HO570.out, bz HB.out⟩

/-! ### insolvencyref1_common: function 58 -/
def insolvencyref1_common.l0 : Nat → List Int → List Int → Option (List Int)
 | 0, _, _ => none
 | k + 1, x0, x1 => if (x1.length : Int) > 0 then ((insolvencyref1_divide.f k x0 x1).bind fun bt571 => (insolvencyref1_common.l0 k x1 bt571.2)) else (some x0)
def insolvencyref1_common.f (k : Nat) (l0 : List Int) (l1 : List Int) : Option (List Int) := insolvencyref1_common.l0 k l0 l1
theorem insolvencyref1_common.mono_l : ∀ k, (∀ y0 y1, LeO (insolvencyref1_common.l0 k y0 y1) (insolvencyref1_common.l0 (k + 1) y0 y1))
 | 0 => fun _ _ r h => by simp [insolvencyref1_common.l0] at h
 | k + 1 => by
  have ih0 := insolvencyref1_common.mono_l k
  ·intro y0 y1
   unfold insolvencyref1_common.l0
   repeat' with_reducible first | exact ih0 _ _ | exact insolvencyref1_divide.mono _ _ _ | exact LeO.refl _ | exact LeO.none _ | refine LeO.ite ?_ ?_ | refine LeO.bind ?_ (fun _ => ?_)
theorem insolvencyref1_common.mono : ∀ a0 a1 k, LeO (insolvencyref1_common.f k a0 a1) (insolvencyref1_common.f (k + 1) a0 a1) := by
 intro a0 a1 k
 have ih0 := insolvencyref1_common.mono_l k
 unfold insolvencyref1_common.f
 repeat' with_reducible first | exact ih0 _ _ | exact insolvencyref1_divide.mono _ _ _ | exact LeO.refl _ | exact LeO.none _ | refine LeO.ite ?_ ?_ | refine LeO.bind ?_ (fun _ => ?_)
set_option maxHeartbeats 8000000 in
set_option maxRecDepth 100000 in
theorem insolvencyref1_common.calls (k : Nat) (P0_ : Nat → Prop) (A0 : Option Addr) (c0 : Nat) (l0 : List Int) (P1_ : Nat → Prop) (A1 : Option Addr) (c1 : Nat) (l1 : List Int) (r : List Int) (w : World) (hs0 : Kd.V (Kd.int .u32) 72 w w.heap.size (fun k_ => P0_ k_) (.slice A0 l0.length c0) l0) (hs1 : Kd.V (Kd.int .u32) 72 w w.heap.size (fun k_ => P1_ k_) (.slice A1 l1.length c1) l1) (h : insolvencyref1_common.f k l0 l1 = some r) :
  Calls Tryd.prog 58 #[.slice A0 l0.length c0, .slice A1 l1.length c1] w fun e w' => ∃ v0_ : Value, e = .returned (v0_) ∧ Kd.V (Kd.int .u32) 72 w' w.heap.size (fun k_ => ((P0_ k_ ∨ P1_ k_) ∨ w.heap.size ≤ k_)) v0_ r ∧ Below w.heap.size w w' := by
 have HO0 := Aside0.mk (show Kd.V (Kd.int .u32) 72 w w.heap.size (fun k_ => ((P0_ k_ ∨ P1_ k_) ∨ w.heap.size ≤ k_)) (.slice A0 l0.length c0) l0 from Kd.V_mono hs0 (fun k_ hk => .inl (.inl hk)))
 have HO1 := Aside0.mk (show Kd.V (Kd.int .u32) 72 w w.heap.size (fun k_ => ((P0_ k_ ∨ P1_ k_) ∨ w.heap.size ≤ k_)) (.slice A1 l1.length c1) l1 from Kd.V_mono hs1 (fun k_ hk => .inl (.inr hk)))
 have HB := Aside0.mk (Below.refl w.heap.size w)
 have H := h
 clear h
 unfold insolvencyref1_common.f at H
 have H' := Aside0.mk H
 clear H
 go_enter Tryd.func58, Tryd.ntmps58
 go_wp2
 go_loopg [0, 1] k (fun kq v0 v1 w' => ∃ (x0_1 : List Int) (x1_1 : List Int), Aside0 (insolvencyref1_common.l0 kq x0_1 x1_1 = some r) ∧ Aside0 (kq ≤ k) ∧ Aside0 (Kd.V (Kd.int .u32) 72 w' w.heap.size (fun k_ => ((P0_ k_ ∨ P1_ k_) ∨ w.heap.size ≤ k_)) v0 x0_1) ∧ Aside0 (Kd.V (Kd.int .u32) 72 w' w.heap.size (fun k_ => ((P0_ k_ ∨ P1_ k_) ∨ w.heap.size ≤ k_)) v1 x1_1) ∧ Aside0 (Below w.heap.size w w'))
 case atStart => exact ⟨(l0), (l1), H', ⟨Nat.le_refl _⟩, ⟨vs HO0.out⟩, ⟨vs HO1.out⟩, ⟨bz HB.out⟩⟩
 case round =>
  clear H'
  (try clear c1)
  obtain ⟨x0_1, x1_1, HA, HK1, HO_0, HO_1, HB⟩ := hrel
  cases gk with
  | zero => exact absurd HA.out (by simp [insolvencyref1_common.l0])
  | succ k1 =>
   have H := HA.out
   clear HA
   simp only [insolvencyref1_common.l0] at H
   by_cases c3 : (x1_1.length : Int) > 0
   ·rw [if_pos c3] at H
    have c3b0 : decide (0 < (x1_1.length : Int)) = true := decide_eq_true c3
    have c3b1 : decide (0 < x1_1.length) = true := decide_eq_true (by omega)
    clear c3
    obtain ⟨⟨t571, t574⟩, A4, H⟩ := bs1 H; dsimp only at H
    have H' := Aside0.mk H
    clear H
    obtain ⟨Ao5, co5, rfl⟩ := Kd.V_slice HO_1.out
    obtain ⟨Ao6, co6, rfl⟩ := Kd.V_slice HO_0.out
    go_wp2_with (first | ((with_reducible refine gc 59 rfl ?_); refine gl (some 13) Tryd.func59 #[.slice Ao6 x0_1.length co6, .slice Ao5 x1_1.length co5] ?_; (with_reducible refine (insolvencyref1_divide.calls k1 (fun k_ => ((P0_ k_ ∨ P1_ k_) ∨ w.heap.size ≤ k_)) _ _ x0_1 _ _ x1_1 t571 t574 _ ?side1 ?side2 ?side3 A4.out).mono ?_); (case side1 => exact HO_0.out); (case side2 => exact vs (Kd.V_reads' HO_1.out).2.2); (case side3 => exact (Kd.V_reads' HO_1.out).2.1); rintro e w7 ⟨v572, v575, rfl, ho0, ho1, hb⟩; refine ⟨_, rfl, ?_⟩; replace HO_0 := Aside0.mk (vb HO_0.out hb); replace HO_1 := Aside0.mk (vb HO_1.out hb); have HO573 := Aside0.mk (Kd.V_lower (Kd.V_mono (ok' := fun k_ => ((P0_ k_ ∨ P1_ k_) ∨ w.heap.size ≤ k_)) ho0 (fun k_ hk_ => Or.elim hk_ (fun hs_ => hs_) (fun hn_ => (.inr (Nat.le_trans (sz HB.out) hn_))))) (sz HB.out)); have HO576 := Aside0.mk (Kd.V_lower (Kd.V_mono (ok' := fun k_ => ((P0_ k_ ∨ P1_ k_) ∨ w.heap.size ≤ k_)) ho1 (fun k_ hk_ => Or.elim hk_ (fun hs_ => hs_) (fun hn_ => (.inr (Nat.le_trans (sz HB.out) hn_))))) (sz HB.out)); replace HB := Aside0.mk (bs HB.out hb); (try clear hb ho0 ho1)))
    go_roundg k1
    case measure => have := HK1.out; omega
    case rel => exact ⟨(x1_1), (t574), H', ⟨by have := HK1.out; omega⟩, ⟨vs HO_1.out⟩, ⟨vs HO576.out⟩, ⟨bz HB.out⟩⟩
   ·rw [if_neg c3] at H
    have c3b0 : decide (0 < (x1_1.length : Int)) = false := decide_eq_false c3
    have c3b1 : decide (0 < x1_1.length) = false := decide_eq_false (by omega)
    clear c3
    obtain rfl := Option.some.inj H
    obtain ⟨Ao8, co8, rfl⟩ := Kd.V_slice HO_1.out
    go_wp2
    go_ret
    exact ⟨_, fe, vs HO_0.out, bz HB.out⟩

/-! ### insolvencyref1_reduced: function 32 -/
mutual
def insolvencyref1_reduced.j0 : Nat → Bool → List Int → List Int → List Int → Bool → Option (Bool × ByteArray × ByteArray)
 | 0, _, _, _, _, _ => none
 | k + 1, x0, x1, x2, x7, x24 => if x24 = true then ((insolvencyref1_divide.f k x1 x7).bind fun bt582 => ((insolvencyref1_divide.f k x2 x7).bind fun bt588 => (insolvencyref1_reduced.j1 k x0 bt582.1 bt588.1))) else (insolvencyref1_reduced.j1 k x0 x1 x2)
def insolvencyref1_reduced.j1 : Nat → Bool → List Int → List Int → Option (Bool × ByteArray × ByteArray)
 | 0, _, _, _ => none
 | k + 1, x0, x1, x2 => (insolvencyref1_text.f k x1).bind fun t594 => (if (x2.length : Int) > 1 then ((insolvencyref1_text.f k x2).bind fun t596 => (some (x0, t594, t596))) else (if 0 < (x2.length : Int) then (if (rd x2 0) > 1 then ((insolvencyref1_text.f k x2).bind fun t598 => (some (x0, t594, t598))) else (some (x0, t594, (⟨#[]⟩ : ByteArray)))) else (none)))
end
def insolvencyref1_reduced.f (k : Nat) (a0 : Bool) (l1 : List Int) (l2 : List Int) : Option (Bool × ByteArray × ByteArray) := if (l1.length : Int) = 0 then (some (false, (⟨#[]⟩ : ByteArray), (⟨#[]⟩ : ByteArray))) else ((insolvencyref1_common.f k l1 l2).bind fun t578 => (if (t578.length : Int) > 1 then (insolvencyref1_reduced.j0 k a0 l1 l2 t578 true) else (if 0 < (t578.length : Int) then (insolvencyref1_reduced.j0 k a0 l1 l2 t578 (decide ((rd t578 0) > 1))) else (none))))
theorem insolvencyref1_reduced.mono_l : ∀ k, (∀ y0 y1 y2 y3 y4, LeO (insolvencyref1_reduced.j0 k y0 y1 y2 y3 y4) (insolvencyref1_reduced.j0 (k + 1) y0 y1 y2 y3 y4)) ∧ (∀ y0 y1 y2, LeO (insolvencyref1_reduced.j1 k y0 y1 y2) (insolvencyref1_reduced.j1 (k + 1) y0 y1 y2))
 | 0 => ⟨fun _ _ _ _ _ r h => by simp [insolvencyref1_reduced.j0] at h, fun _ _ _ r h => by simp [insolvencyref1_reduced.j1] at h⟩
 | k + 1 => by
  obtain ⟨ih0, ih1⟩ := insolvencyref1_reduced.mono_l k
  refine ⟨?_, ?_⟩
  ·intro y0 y1 y2 y3 y4
   unfold insolvencyref1_reduced.j0
   repeat' with_reducible first | exact ih0 _ _ _ _ _ | exact ih1 _ _ _ | exact insolvencyref1_common.mono _ _ _ | exact insolvencyref1_divide.mono _ _ _ | exact insolvencyref1_text.mono _ _ | exact LeO.refl _ | exact LeO.none _ | refine LeO.ite ?_ ?_ | refine LeO.bind ?_ (fun _ => ?_)
  ·intro y0 y1 y2
   unfold insolvencyref1_reduced.j1
   repeat' with_reducible first | exact ih0 _ _ _ _ _ | exact ih1 _ _ _ | exact insolvencyref1_common.mono _ _ _ | exact insolvencyref1_divide.mono _ _ _ | exact insolvencyref1_text.mono _ _ | exact LeO.refl _ | exact LeO.none _ | refine LeO.ite ?_ ?_ | refine LeO.bind ?_ (fun _ => ?_)
theorem insolvencyref1_reduced.mono : ∀ a0 a1 a2 k, LeO (insolvencyref1_reduced.f k a0 a1 a2) (insolvencyref1_reduced.f (k + 1) a0 a1 a2) := by
 intro a0 a1 a2 k
 obtain ⟨ih0, ih1⟩ := insolvencyref1_reduced.mono_l k
 unfold insolvencyref1_reduced.f
 repeat' with_reducible first | exact ih0 _ _ _ _ _ | exact ih1 _ _ _ | exact insolvencyref1_common.mono _ _ _ | exact insolvencyref1_divide.mono _ _ _ | exact insolvencyref1_text.mono _ _ | exact LeO.refl _ | exact LeO.none _ | refine LeO.ite ?_ ?_ | refine LeO.bind ?_ (fun _ => ?_)
set_option maxHeartbeats 8000000 in
set_option maxRecDepth 100000 in
theorem insolvencyref1_reduced.calls (k : Nat) (a0 : Bool) (P1_ : Nat → Prop) (A1 : Option Addr) (c1 : Nat) (l1 : List Int) (P2_ : Nat → Prop) (A2 : Option Addr) (c2 : Nat) (l2 : List Int) (r1 : Bool) (r2 : ByteArray) (r3 : ByteArray) (w : World) (hs1 : Kd.V (Kd.int .u32) 72 w w.heap.size (fun k_ => P1_ k_) (.slice A1 l1.length c1) l1) (hs2 : Kd.V (Kd.int .u32) 72 w w.heap.size (fun k_ => P2_ k_) (.slice A2 l2.length c2) l2) (h : insolvencyref1_reduced.f k a0 l1 l2 = some (r1, r2, r3)) :
  Calls Tryd.prog 32 #[.bool a0, .slice A1 l1.length c1, .slice A2 l2.length c2] w fun e w' => e = .returned (.agg #[.bool r1, .string r2, .string r3]) ∧ Below w.heap.size w w' := by
 have hu23 := Tryd.underlying23
 have HO1 := Aside0.mk (show Kd.V (Kd.int .u32) 72 w w.heap.size (fun k_ => ((P1_ k_ ∨ P2_ k_) ∨ w.heap.size ≤ k_)) (.slice A1 l1.length c1) l1 from Kd.V_mono hs1 (fun k_ hk => .inl (.inl hk)))
 have HO2 := Aside0.mk (show Kd.V (Kd.int .u32) 72 w w.heap.size (fun k_ => ((P1_ k_ ∨ P2_ k_) ∨ w.heap.size ≤ k_)) (.slice A2 l2.length c2) l2 from Kd.V_mono hs2 (fun k_ hk => .inl (.inr hk)))
 have HB := Aside0.mk (Below.refl w.heap.size w)
 have H := h
 clear h
 unfold insolvencyref1_reduced.f at H
 by_cases c4 : (l1.length : Int) = 0
 ·rw [if_pos c4] at H
  have c4b0 := beq_iff_eq.mpr c4
  have c4b1 := bne_eq_false_iff_eq.mpr c4
  clear c4
  simp only [Option.some.injEq, Prod.mk.injEq] at H
  obtain ⟨rfl, rfl, rfl⟩ := H
  go_enter Tryd.func32, Tryd.ntmps32
  go_wp2_with (first | ((with_reducible refine gd 6 rfl ?_); refine bx 6 (#[.bool false, .string (⟨#[]⟩ : ByteArray), .string (⟨#[]⟩ : ByteArray)]) 23 ?_; intro gb577 hg w5 hbox hb; replace HO1 := Aside0.mk (Kd.V_below (Kd.V_elderB (vs HO1.out) gb577 (Nat.le_of_eq hg.symm)) hb); replace HO2 := Aside0.mk (Kd.V_below (Kd.V_elderB (vs HO2.out) gb577 (Nat.le_of_eq hg.symm)) hb); have BK577 := Aside0.mk (hbox); have GW577 := sg hg HB.out; have GE577 := sg hg HB.out; replace HB := Aside0.mk (bs HB.out hb); clear hb hbox hg; obtain ⟨hcz6_0, hcz6_1, hcz6_2, hfz6_0, hfz6_1, hfz6_2⟩ := c3 BK577.out))
  refine bodyPost_ret (results_cell_row rfl _ _ gb577 23 #[.bool false, .string (⟨#[]⟩ : ByteArray), .string (⟨#[]⟩ : ByteArray)] (0, 0) _ rfl (bq BK577.out) Tryd.underlying23 rfl (by kernel_rfl)) rfl ?_
  exact ⟨fe, bz HB.out⟩
 ·rw [if_neg c4] at H
  have c4b0 := beq_eq_false_iff_ne.mpr c4
  have c4b1 := bne_iff_ne.mpr c4
  have c4b2 : ¬ (l1 = []) := fun h_ => c4 (by rw [h_]; rfl)
  obtain ⟨t578, A7, H⟩ := bs1 H
  have HC8 := Aside0.mk H
  clear H
  go_enter Tryd.func32, Tryd.ntmps32
  (try (simp only [Exit.then]; refine (by assumption : ∀ (a : Act) (w : World), Code.wp _ _ _ a w → _) _ _ ?_))
  go_upto_region 4 with (first | ((with_reducible refine gd 6 rfl ?_); refine bx 6 (#[.bool false, .string (⟨#[]⟩ : ByteArray), .string (⟨#[]⟩ : ByteArray)]) 23 ?_; intro gb577 hg w9 hbox hb; replace HO1 := Aside0.mk (Kd.V_below (Kd.V_elderB (vs HO1.out) gb577 (Nat.le_of_eq hg.symm)) hb); replace HO2 := Aside0.mk (Kd.V_below (Kd.V_elderB (vs HO2.out) gb577 (Nat.le_of_eq hg.symm)) hb); have BK577 := Aside0.mk (hbox); have GW577 := sg hg HB.out; have GE577 := sg hg HB.out; replace HB := Aside0.mk (bs HB.out hb); clear hb hbox hg) | ((with_reducible refine gc 58 rfl ?_); refine gl (some 15) Tryd.func58 #[.slice A1 l1.length c1, .slice A2 l2.length c2] ?_; (with_reducible refine (insolvencyref1_common.calls k (fun k_ => (((P1_ k_ ∨ P2_ k_) ∨ w.heap.size ≤ k_) ∧ k_ ≠ gb577)) _ _ l1 (fun k_ => (((P1_ k_ ∨ P2_ k_) ∨ w.heap.size ≤ k_) ∧ k_ ≠ gb577)) _ _ l2 t578 _ ?side1 ?side2 A7.out).mono ?_); (case side1 => exact HO1.out); (case side2 => exact HO2.out); rintro e w10 ⟨v579, rfl, ho0, hb⟩; refine ⟨_, rfl, ?_⟩; replace HO1 := Aside0.mk (vb HO1.out hb); replace HO2 := Aside0.mk (vb HO2.out hb); have HO580 := Aside0.mk (Kd.V_lower (Kd.V_mono (ok' := fun k_ => ((P1_ k_ ∨ P2_ k_) ∨ w.heap.size ≤ k_) ∧ k_ ≠ gb577) ho0 (fun k_ hk_ => ⟨Or.elim hk_ (fun hs_ => Or.elim hs_ (fun hs_ => hs_.1) (fun hs_ => hs_.1)) (fun hn_ => (.inr (Nat.le_trans (sz HB.out) hn_))), Or.elim hk_ (fun hs_ => Or.elim hs_ (fun hs_ => hs_.2) (fun hs_ => hs_.2)) (fun hn_ => (Kd.freshB (g := gb577) (o := .cells #[.bool false, .string (⟨#[]⟩ : ByteArray), .string (⟨#[]⟩ : ByteArray)] 23 (0, 0)) (bq BK577.out) k_ hn_))⟩)) (sz HB.out)); replace BK577 := Aside0.mk (bk0 BK577.out hb); replace HB := Aside0.mk (bs HB.out hb); (try clear hb ho0)))
  (try simp only [Act.put, List.setIfInBounds_toArray, List.set_cons_zero, List.set_cons_succ])
  go_cut [24] (fun v24 wc => ∃ (kq : Nat) (x24_7 : Bool), v24 = .bool x24_7 ∧ Aside0 (insolvencyref1_reduced.j0 kq a0 l1 l2 t578 x24_7 = some (r1, r2, r3)) ∧ Aside0 (kq ≤ k) ∧ Aside0 (Kd.V (Kd.int .u32) 72 wc w.heap.size (fun k_ => ((P1_ k_ ∨ P2_ k_) ∨ w.heap.size ≤ k_) ∧ k_ ≠ gb577) (.slice A1 l1.length c1) l1) ∧ Aside0 (Kd.V (Kd.int .u32) 72 wc w.heap.size (fun k_ => ((P1_ k_ ∨ P2_ k_) ∨ w.heap.size ≤ k_) ∧ k_ ≠ gb577) (.slice A2 l2.length c2) l2) ∧ Aside0 (Kd.V (Kd.int .u32) 72 wc w.heap.size (fun k_ => ((P1_ k_ ∨ P2_ k_) ∨ w.heap.size ≤ k_) ∧ k_ ≠ gb577) v579 t578) ∧ Aside0 (wc.heap[gb577]? = some (.cells #[.bool false, .string (⟨#[]⟩ : ByteArray), .string (⟨#[]⟩ : ByteArray)] 23 (0, 0))) ∧ Aside0 (Below w.heap.size w wc))
  case first =>
   have H := HC8.out
   clear HC8
   by_cases c11 : (t578.length : Int) > 1
   ·rw [if_pos c11] at H
    have c11b0 : decide (1 < (t578.length : Int)) = true := decide_eq_true c11
    have c11b1 : decide (1 < t578.length) = true := decide_eq_true (by omega)
    clear c11
    (first | rw [c11b0] | (simp only [i64_w, i32_w]; rw [c11b0]) | skip)
    have H' := Aside0.mk H
    clear H
    obtain ⟨Ao12, co12, rfl⟩ := Kd.V_slice HO580.out
    go_wp2
    go_meet
    case rel => exact ⟨_, (true), fs, H', ⟨by first | omega | exact Nat.le_refl _⟩, ⟨vs HO1.out⟩, ⟨vs HO2.out⟩, ⟨vs HO580.out⟩, ⟨bq BK577.out⟩, ⟨bz HB.out⟩⟩
   ·rw [if_neg c11] at H
    have c11b0 : decide (1 < (t578.length : Int)) = false := decide_eq_false c11
    have c11b1 : decide (1 < t578.length) = false := decide_eq_false (by omega)
    clear c11
    (first | rw [c11b0] | (simp only [i64_w, i32_w]; rw [c11b0]) | skip)
    obtain ⟨c13, H⟩ := iN H
    have c13b0 : decide (0 < (t578.length : Int)) = true := decide_eq_true c13
    have c13b1 : decide (0 < t578.length) = true := decide_eq_true (by omega)
    clear c13
    have H' := Aside0.mk H
    clear H
    obtain ⟨Ao14, co14, rfl⟩ := Kd.V_slice HO580.out
    have p581 : 0 ≤ (0 : Int) := (by omega)
    have q581 : 0 < (t578.length : Int) := oa
    obtain ⟨ad581, e581, hx581_0⟩ := Kd.at_int (Kd.V_reads' HO580.out).2.2 0 p581 q581
    cases e581
    have qi581 : (0 < t578.length) = True := eq_true (by omega)
    (try rw [show ((0 : Int)).toNat = 0 from rfl] at hx581_0)
    (try rw [Addr.add_zero'] at hx581_0)
    replace p581 := eq_true p581
    replace q581 := eq_true q581
    go_wp2
    go_meet
    case rel => exact ⟨_, (decide ((rd t578 0) > 1)), fs, H', ⟨by first | omega | exact Nat.le_refl _⟩, ⟨vs HO1.out⟩, ⟨vs HO2.out⟩, ⟨vs HO580.out⟩, ⟨bq BK577.out⟩, ⟨bz HB.out⟩⟩
  case rest =>
   clear HC8
   (try clear c1); (try clear c2); (try clear c4b0); (try clear c4b1); (try clear c4b2); (try clear c11b0); (try clear c11b1); (try clear c13b0); (try clear c13b1); (try clear hcz6_0); (try clear hcz6_1); (try clear hcz6_2); (try clear hfz6_0); (try clear hfz6_1); (try clear hfz6_2); (try clear hx581_0); (try clear p581); (try clear q581)
   obtain ⟨kq, x24_7, rfl, HA, HJ7, HO_1, HO_2, HO_7, BK577, HB⟩ := hcut
   cases kq with
   | zero => exact absurd HA.out (by simp [insolvencyref1_reduced.j0])
   | succ kj7 =>
    have H := HA.out
    clear HA
    simp only [insolvencyref1_reduced.j0] at H
    have HC15 := Aside0.mk H
    clear H
    (try (simp only [Exit.then]; refine (by assumption : ∀ (a : Act) (w : World), Code.wp _ _ _ a w → _) _ _ ?_))
    go_upto_if 24 with (fail)
    go_cut [1, 2] (fun v1 v2 wc => ∃ (kq : Nat) (x1_14 : List Int) (x2_14 : List Int), Aside0 (insolvencyref1_reduced.j1 kq a0 x1_14 x2_14 = some (r1, r2, r3)) ∧ Aside0 (kq ≤ kj7) ∧ Aside0 (Kd.V (Kd.int .u32) 72 wc w.heap.size (fun k_ => ((P1_ k_ ∨ P2_ k_) ∨ w.heap.size ≤ k_) ∧ k_ ≠ gb577) v1 x1_14) ∧ Aside0 (Kd.V (Kd.int .u32) 72 wc w.heap.size (fun k_ => ((P1_ k_ ∨ P2_ k_) ∨ w.heap.size ≤ k_) ∧ k_ ≠ gb577) v2 x2_14) ∧ Aside0 (wc.heap[gb577]? = some (.cells #[.bool false, .string (⟨#[]⟩ : ByteArray), .string (⟨#[]⟩ : ByteArray)] 23 (0, 0))) ∧ Aside0 (Below w.heap.size w wc))
    case first =>
     have H := HC15.out
     clear HC15
     by_cases c16 : x24_7 = true
     ·subst c16
      have H1 : ((insolvencyref1_divide.f kj7 l1 t578).bind fun bt582 => ((insolvencyref1_divide.f kj7 l2 t578).bind fun bt588 => (insolvencyref1_reduced.j1 kj7 a0 bt582.1 bt588.1))) = some (r1, r2, r3) := by rw [if_pos rfl] at H; exact H
      clear H
      have H := H1
      clear H1
      obtain ⟨⟨t582, t585⟩, A17, H⟩ := bs1 H; dsimp only at H
      obtain ⟨⟨t588, t591⟩, A18, H⟩ := bs1 H; dsimp only at H
      have H' := Aside0.mk H
      clear H
      obtain ⟨Ao19, co19, rfl⟩ := Kd.V_slice HO_7.out
      go_wp2_with (first | ((with_reducible refine gc 59 rfl ?_); refine gl (some 28) Tryd.func59 #[.slice A1 l1.length c1, .slice Ao19 t578.length co19] ?_; (with_reducible refine (insolvencyref1_divide.calls kj7 (fun k_ => (((P1_ k_ ∨ P2_ k_) ∨ w.heap.size ≤ k_) ∧ k_ ≠ gb577)) _ _ l1 _ _ t578 t582 t585 _ ?side1 ?side2 ?side3 A17.out).mono ?_); (case side1 => exact HO_1.out); (case side2 => exact vs (Kd.V_reads' HO_7.out).2.2); (case side3 => exact (Kd.V_reads' HO_7.out).2.1); rintro e w20 ⟨v583, v586, rfl, ho0, ho1, hb⟩; refine ⟨_, rfl, ?_⟩; replace HO_1 := Aside0.mk (vb HO_1.out hb); replace HO_2 := Aside0.mk (vb HO_2.out hb); replace HO_7 := Aside0.mk (vb HO_7.out hb); have HO584 := Aside0.mk (Kd.V_lower (Kd.V_mono (ok' := fun k_ => ((P1_ k_ ∨ P2_ k_) ∨ w.heap.size ≤ k_) ∧ k_ ≠ gb577) ho0 (fun k_ hk_ => ⟨Or.elim hk_ (fun hs_ => hs_.1) (fun hn_ => (.inr (Nat.le_trans (sz HB.out) hn_))), Or.elim hk_ (fun hs_ => hs_.2) (fun hn_ => (Kd.freshB (g := gb577) (o := .cells #[.bool false, .string (⟨#[]⟩ : ByteArray), .string (⟨#[]⟩ : ByteArray)] 23 (0, 0)) (bq BK577.out) k_ hn_))⟩)) (sz HB.out)); have HO587 := Aside0.mk (Kd.V_lower (Kd.V_mono (ok' := fun k_ => ((P1_ k_ ∨ P2_ k_) ∨ w.heap.size ≤ k_) ∧ k_ ≠ gb577) ho1 (fun k_ hk_ => ⟨Or.elim hk_ (fun hs_ => hs_.1) (fun hn_ => (.inr (Nat.le_trans (sz HB.out) hn_))), Or.elim hk_ (fun hs_ => hs_.2) (fun hn_ => (Kd.freshB (g := gb577) (o := .cells #[.bool false, .string (⟨#[]⟩ : ByteArray), .string (⟨#[]⟩ : ByteArray)] 23 (0, 0)) (bq BK577.out) k_ hn_))⟩)) (sz HB.out)); replace BK577 := Aside0.mk (bk0 BK577.out hb); replace HB := Aside0.mk (bs HB.out hb); (try clear hb ho0 ho1)) | ((with_reducible refine gc 59 rfl ?_); refine gl (some 34) Tryd.func59 #[.slice A2 l2.length c2, .slice Ao19 t578.length co19] ?_; (with_reducible refine (insolvencyref1_divide.calls kj7 (fun k_ => (((P1_ k_ ∨ P2_ k_) ∨ w.heap.size ≤ k_) ∧ k_ ≠ gb577)) _ _ l2 _ _ t578 t588 t591 _ ?side1 ?side2 ?side3 A18.out).mono ?_); (case side1 => exact HO_2.out); (case side2 => exact vs (Kd.V_reads' HO_7.out).2.2); (case side3 => exact (Kd.V_reads' HO_7.out).2.1); rintro e w21 ⟨v589, v592, rfl, ho0, ho1, hb⟩; refine ⟨_, rfl, ?_⟩; replace HO_1 := Aside0.mk (vb HO_1.out hb); replace HO_2 := Aside0.mk (vb HO_2.out hb); replace HO_7 := Aside0.mk (vb HO_7.out hb); replace HO584 := Aside0.mk (vb HO584.out hb); replace HO587 := Aside0.mk (vb HO587.out hb); have HO590 := Aside0.mk (Kd.V_lower (Kd.V_mono (ok' := fun k_ => ((P1_ k_ ∨ P2_ k_) ∨ w.heap.size ≤ k_) ∧ k_ ≠ gb577) ho0 (fun k_ hk_ => ⟨Or.elim hk_ (fun hs_ => hs_.1) (fun hn_ => (.inr (Nat.le_trans (sz HB.out) hn_))), Or.elim hk_ (fun hs_ => hs_.2) (fun hn_ => (Kd.freshB (g := gb577) (o := .cells #[.bool false, .string (⟨#[]⟩ : ByteArray), .string (⟨#[]⟩ : ByteArray)] 23 (0, 0)) (bq BK577.out) k_ hn_))⟩)) (sz HB.out)); have HO593 := Aside0.mk (Kd.V_lower (Kd.V_mono (ok' := fun k_ => ((P1_ k_ ∨ P2_ k_) ∨ w.heap.size ≤ k_) ∧ k_ ≠ gb577) ho1 (fun k_ hk_ => ⟨Or.elim hk_ (fun hs_ => hs_.1) (fun hn_ => (.inr (Nat.le_trans (sz HB.out) hn_))), Or.elim hk_ (fun hs_ => hs_.2) (fun hn_ => (Kd.freshB (g := gb577) (o := .cells #[.bool false, .string (⟨#[]⟩ : ByteArray), .string (⟨#[]⟩ : ByteArray)] 23 (0, 0)) (bq BK577.out) k_ hn_))⟩)) (sz HB.out)); replace BK577 := Aside0.mk (bk0 BK577.out hb); replace HB := Aside0.mk (bs HB.out hb); (try clear hb ho0 ho1)))
      go_meet
      case rel => exact ⟨_, (t582), (t588), H', ⟨by have := HJ7.out; first | omega | exact Nat.le_refl _⟩, ⟨vs HO584.out⟩, ⟨vs HO590.out⟩, ⟨bq BK577.out⟩, ⟨bz HB.out⟩⟩
     ·replace c16 := Bool.eq_false_iff.mpr c16
      subst c16
      have H1 : (insolvencyref1_reduced.j1 kj7 a0 l1 l2) = some (r1, r2, r3) := by rw [if_neg (show ¬ (false = true) by decide)] at H; exact H
      clear H
      have H := H1
      clear H1
      have H' := Aside0.mk H
      clear H
      go_wp2
      go_meet
      case rel => exact ⟨_, (l1), (l2), H', ⟨by have := HJ7.out; first | omega | exact Nat.le_refl _⟩, ⟨vs HO_1.out⟩, ⟨vs HO_2.out⟩, ⟨bq BK577.out⟩, ⟨bz HB.out⟩⟩
    case rest =>
     clear HC15
     (try clear c1); (try clear c2); (try clear c4b0); (try clear c4b1); (try clear c4b2); (try clear c11b0); (try clear c11b1); (try clear c13b0); (try clear c13b1); (try clear c16); (try clear hcz6_0); (try clear hcz6_1); (try clear hcz6_2); (try clear hfz6_0); (try clear hfz6_1); (try clear hfz6_2); (try clear hx581_0); (try clear p581); (try clear q581)
     obtain ⟨kq, x1_14, x2_14, HA, HJ14, HO_1, HO_2, BK577, HB⟩ := hcut
     cases kq with
     | zero => exact absurd HA.out (by simp [insolvencyref1_reduced.j1])
     | succ kj14 =>
      have H := HA.out
      clear HA
      simp only [insolvencyref1_reduced.j1] at H
      obtain ⟨t594, A22, H⟩ := bs1 H
      by_cases c23 : (x2_14.length : Int) > 1
      ·rw [if_pos c23] at H
       have c23b0 : decide (1 < (x2_14.length : Int)) = true := decide_eq_true c23
       have c23b1 : decide (1 < x2_14.length) = true := decide_eq_true (by omega)
       clear c23
       obtain ⟨t596, A24, H⟩ := bs1 H
       simp only [Option.some.injEq, Prod.mk.injEq] at H
       obtain ⟨rfl, rfl, rfl⟩ := H
       obtain ⟨Ao25, co25, rfl⟩ := Kd.V_slice HO_1.out
       go_wp2_with (first | ((with_reducible refine gc 57 rfl ?_); refine gl (some 39) Tryd.func57 #[.slice Ao25 x1_14.length co25] ?_; (with_reducible refine (insolvencyref1_text.calls kj14 _ _ x1_14 t594 _ ?side1 ?side2 A22.out).mono ?_); (case side1 => exact vs (Kd.V_reads' HO_1.out).2.2); (case side2 => exact (Kd.V_reads' HO_1.out).2.1); rintro e w26 ⟨rfl, hb⟩; refine ⟨_, rfl, ?_⟩; replace HO_1 := Aside0.mk (vb HO_1.out hb); replace HO_2 := Aside0.mk (vb HO_2.out hb); replace BK577 := Aside0.mk (bk0 BK577.out hb); replace HB := Aside0.mk (bs HB.out hb); (try clear hb)) | ((with_reducible refine gd 8 rfl ?_); refine bx 8 (#[.bool false, .string (⟨#[]⟩ : ByteArray), .string (⟨#[]⟩ : ByteArray)]) 23 ?_; intro gb595 hg w27 hbox hb; replace HO_1 := Aside0.mk (Kd.V_below (Kd.V_elderB (vs HO_1.out) gb595 (Nat.le_of_eq hg.symm)) hb); replace HO_2 := Aside0.mk (Kd.V_below (Kd.V_elderB (vs HO_2.out) gb595 (Nat.le_of_eq hg.symm)) hb); have BK595 := Aside0.mk (hbox); have GW595 := sg hg HB.out; have GE595 := sg hg HB.out; replace HB := Aside0.mk (bs HB.out hb); have NB577_595 := nl hg BK577.out; have NB595_577 := nr hg BK577.out; replace BK577 := Aside0.mk (bk0 BK577.out hb); clear hb hbox hg; have hnb28 := NB595_577.out; have hnc28 := NB577_595.out; obtain ⟨hcz29_0, hcz29_1, hcz29_2, hfz29_0, hfz29_1, hfz29_2⟩ := c3 BK595.out; obtain ⟨Ao30, co30, rfl⟩ := Kd.V_slice HO_2.out) | ((with_reducible refine gc 57 rfl ?_); refine gl (some 51) Tryd.func57 #[.slice Ao30 x2_14.length co30] ?_; (with_reducible refine (insolvencyref1_text.calls kj14 _ _ x2_14 t596 _ ?side1 ?side2 A24.out).mono ?_); (case side1 => refine (Kd.V_reads' (e := 72) (base := w.heap.size) (ok := fun k_ => ((((P1_ k_ ∨ P2_ k_) ∨ w.heap.size ≤ k_) ∧ k_ ≠ gb577) ∧ k_ ≠ gb595)) (n := x2_14.length) (c := co30) ?_).2.2; exact (vs ((Kd.V_mono (Kd.V_far (p := ⟨gb595, 2, none⟩) (Kd.V_far (p := ⟨gb595, 1, none⟩) (Kd.V_far (p := ⟨gb595, 0, none⟩) (Kd.V_mono HO_2.out (fun k_ hk => (⟨hk, hk.2⟩ : _ ∧ k_ ≠ gb595))) (fun _ hk => hk.2) (.bool a0)) (fun _ hk => hk.2) (.string t594)) (fun _ hk => hk.2) (.string (⟨#[]⟩ : ByteArray))) (fun _ h_ => h_.1))))); (case side2 => exact (Kd.V_reads' HO_2.out).2.1); rintro e w31 ⟨rfl, hb⟩; refine ⟨_, rfl, ?_⟩; replace HO_1 := Aside0.mk (Kd.V_below (vs ((Kd.V_mono (Kd.V_far (p := ⟨gb595, 2, none⟩) (Kd.V_far (p := ⟨gb595, 1, none⟩) (Kd.V_far (p := ⟨gb595, 0, none⟩) (Kd.V_mono HO_1.out (fun k_ hk => (⟨hk, hk.2⟩ : _ ∧ k_ ≠ gb595))) (fun _ hk => hk.2) (.bool a0)) (fun _ hk => hk.2) (.string t594)) (fun _ hk => hk.2) (.string (⟨#[]⟩ : ByteArray))) (fun _ h_ => h_.1)))) hb); replace HO_2 := Aside0.mk (Kd.V_below (vs ((Kd.V_mono (Kd.V_far (p := ⟨gb595, 2, none⟩) (Kd.V_far (p := ⟨gb595, 1, none⟩) (Kd.V_far (p := ⟨gb595, 0, none⟩) (Kd.V_mono HO_2.out (fun k_ hk => (⟨hk, hk.2⟩ : _ ∧ k_ ≠ gb595))) (fun _ hk => hk.2) (.bool a0)) (fun _ hk => hk.2) (.string t594)) (fun _ hk => hk.2) (.string (⟨#[]⟩ : ByteArray))) (fun _ h_ => h_.1)))) hb); replace BK577 := Aside0.mk (bk0 BK577.out hb); replace BK595 := Aside0.mk (bk BK595.out hb (.cells #[.bool a0, .string t594, .string (⟨#[]⟩ : ByteArray)] 23 (0, 0))); replace HB := Aside0.mk (bs HB.out hb); (try clear hb); obtain ⟨hcz32_0, hcz32_1, hcz32_2, hfz32_0, hfz32_1, hfz32_2⟩ := c3 BK595.out; obtain ⟨hcz33_0, hcz33_1, hcz33_2, hfz33_0, hfz33_1, hfz33_2⟩ := c3 BK577.out))
       refine bodyPost_ret (results_cell_row rfl _ _ gb577 23 #[.bool a0, .string t594, .string t596] (0, 0) _ rfl (bq BK577.out) Tryd.underlying23 rfl (by kernel_rfl)) rfl ?_
       exact ⟨fe, bz HB.out⟩
      ·rw [if_neg c23] at H
       have c23b0 : decide (1 < (x2_14.length : Int)) = false := decide_eq_false c23
       have c23b1 : decide (1 < x2_14.length) = false := decide_eq_false (by omega)
       clear c23
       obtain ⟨c34, H⟩ := iN H
       have c34b0 : decide (0 < (x2_14.length : Int)) = true := decide_eq_true c34
       have c34b1 : decide (0 < x2_14.length) = true := decide_eq_true (by omega)
       clear c34
       by_cases c35 : (rd x2_14 0) > 1
       ·rw [if_pos c35] at H
        have c35b0 : decide (1 < (rd x2_14 0)) = true := decide_eq_true c35
        clear c35
        obtain ⟨t598, A36, H⟩ := bs1 H
        simp only [Option.some.injEq, Prod.mk.injEq] at H
        obtain ⟨rfl, rfl, rfl⟩ := H
        obtain ⟨Ao37, co37, rfl⟩ := Kd.V_slice HO_1.out
        go_wp2_with (first | ((with_reducible refine gc 57 rfl ?_); refine gl (some 39) Tryd.func57 #[.slice Ao37 x1_14.length co37] ?_; (with_reducible refine (insolvencyref1_text.calls kj14 _ _ x1_14 t594 _ ?side1 ?side2 A22.out).mono ?_); (case side1 => exact vs (Kd.V_reads' HO_1.out).2.2); (case side2 => exact (Kd.V_reads' HO_1.out).2.1); rintro e w38 ⟨rfl, hb⟩; refine ⟨_, rfl, ?_⟩; replace HO_1 := Aside0.mk (vb HO_1.out hb); replace HO_2 := Aside0.mk (vb HO_2.out hb); replace BK577 := Aside0.mk (bk0 BK577.out hb); replace HB := Aside0.mk (bs HB.out hb); (try clear hb)) | ((with_reducible refine gd 8 rfl ?_); refine bx 8 (#[.bool false, .string (⟨#[]⟩ : ByteArray), .string (⟨#[]⟩ : ByteArray)]) 23 ?_; intro gb595 hg w39 hbox hb; replace HO_1 := Aside0.mk (Kd.V_below (Kd.V_elderB (vs HO_1.out) gb595 (Nat.le_of_eq hg.symm)) hb); replace HO_2 := Aside0.mk (Kd.V_below (Kd.V_elderB (vs HO_2.out) gb595 (Nat.le_of_eq hg.symm)) hb); have BK595 := Aside0.mk (hbox); have GW595 := sg hg HB.out; have GE595 := sg hg HB.out; replace HB := Aside0.mk (bs HB.out hb); have NB577_595 := nl hg BK577.out; have NB595_577 := nr hg BK577.out; replace BK577 := Aside0.mk (bk0 BK577.out hb); clear hb hbox hg; have hnb40 := NB595_577.out; have hnc40 := NB577_595.out; obtain ⟨hcz41_0, hcz41_1, hcz41_2, hfz41_0, hfz41_1, hfz41_2⟩ := c3 BK595.out; obtain ⟨Ao42, co42, rfl⟩ := Kd.V_slice HO_2.out; have p597 : 0 ≤ (0 : Int) := (by omega); have q597 : 0 < (x2_14.length : Int) := oa; obtain ⟨ad597, e597, hx597_0⟩ := Kd.at_int (Kd.V_reads' HO_2.out).2.2 0 p597 q597; cases e597; have qi597 : (0 < x2_14.length) = True := eq_true (by omega); (try rw [show ((0 : Int)).toNat = 0 from rfl] at hx597_0); (try rw [Addr.add_zero'] at hx597_0); have hn597_0 : ad597.block ≠ gb595 := (Kd.V_in HO_2.out (by omega) (by decide)).2; have hn597_1 : ad597.block ≠ gb595 := (Kd.V_in HO_2.out (by omega) (by decide)).2; have hn597_2 : ad597.block ≠ gb595 := (Kd.V_in HO_2.out (by omega) (by decide)).2; replace hx597_0 := (cell_far (p := ⟨gb595, 0, none⟩) (by first | (rw [add_block]; exact hn597_0) | (show (Addr.add _ _).block ≠ _; rw [add_block]; exact hn597_0) | exact hn597_0) (.bool a0)).trans hx597_0; replace hx597_0 := (cell_far (p := ⟨gb595, 1, none⟩) (by first | (rw [add_block]; exact hn597_1) | (show (Addr.add _ _).block ≠ _; rw [add_block]; exact hn597_1) | exact hn597_1) (.string t594)).trans hx597_0; replace hx597_0 := (cell_far (p := ⟨gb595, 2, none⟩) (by first | (rw [add_block]; exact hn597_2) | (show (Addr.add _ _).block ≠ _; rw [add_block]; exact hn597_2) | exact hn597_2) (.string (⟨#[]⟩ : ByteArray))).trans hx597_0; clear hn597_0; clear hn597_1; clear hn597_2; replace p597 := eq_true p597; replace q597 := eq_true q597) | ((with_reducible refine gc 57 rfl ?_); refine gl (some 51) Tryd.func57 #[.slice (some ad597) x2_14.length co42] ?_; (with_reducible refine (insolvencyref1_text.calls kj14 _ _ x2_14 t598 _ ?side1 ?side2 A36.out).mono ?_); (case side1 => refine (Kd.V_reads' (e := 72) (base := w.heap.size) (ok := fun k_ => ((((P1_ k_ ∨ P2_ k_) ∨ w.heap.size ≤ k_) ∧ k_ ≠ gb577) ∧ k_ ≠ gb595)) (n := x2_14.length) (c := co42) ?_).2.2; exact (vs ((Kd.V_mono (Kd.V_far (p := ⟨gb595, 2, none⟩) (Kd.V_far (p := ⟨gb595, 1, none⟩) (Kd.V_far (p := ⟨gb595, 0, none⟩) (Kd.V_mono HO_2.out (fun k_ hk => (⟨hk, hk.2⟩ : _ ∧ k_ ≠ gb595))) (fun _ hk => hk.2) (.bool a0)) (fun _ hk => hk.2) (.string t594)) (fun _ hk => hk.2) (.string (⟨#[]⟩ : ByteArray))) (fun _ h_ => h_.1))))); (case side2 => exact (Kd.V_reads' HO_2.out).2.1); rintro e w43 ⟨rfl, hb⟩; refine ⟨_, rfl, ?_⟩; replace HO_1 := Aside0.mk (Kd.V_below (vs ((Kd.V_mono (Kd.V_far (p := ⟨gb595, 2, none⟩) (Kd.V_far (p := ⟨gb595, 1, none⟩) (Kd.V_far (p := ⟨gb595, 0, none⟩) (Kd.V_mono HO_1.out (fun k_ hk => (⟨hk, hk.2⟩ : _ ∧ k_ ≠ gb595))) (fun _ hk => hk.2) (.bool a0)) (fun _ hk => hk.2) (.string t594)) (fun _ hk => hk.2) (.string (⟨#[]⟩ : ByteArray))) (fun _ h_ => h_.1)))) hb); replace HO_2 := Aside0.mk (Kd.V_below (vs ((Kd.V_mono (Kd.V_far (p := ⟨gb595, 2, none⟩) (Kd.V_far (p := ⟨gb595, 1, none⟩) (Kd.V_far (p := ⟨gb595, 0, none⟩) (Kd.V_mono HO_2.out (fun k_ hk => (⟨hk, hk.2⟩ : _ ∧ k_ ≠ gb595))) (fun _ hk => hk.2) (.bool a0)) (fun _ hk => hk.2) (.string t594)) (fun _ hk => hk.2) (.string (⟨#[]⟩ : ByteArray))) (fun _ h_ => h_.1)))) hb); replace BK577 := Aside0.mk (bk0 BK577.out hb); replace BK595 := Aside0.mk (bk BK595.out hb (.cells #[.bool a0, .string t594, .string (⟨#[]⟩ : ByteArray)] 23 (0, 0))); replace HB := Aside0.mk (bs HB.out hb); (try clear hb); obtain ⟨hcz44_0, hcz44_1, hcz44_2, hfz44_0, hfz44_1, hfz44_2⟩ := c3 BK595.out; obtain ⟨hcz45_0, hcz45_1, hcz45_2, hfz45_0, hfz45_1, hfz45_2⟩ := c3 BK577.out))
        refine bodyPost_ret (results_cell_row rfl _ _ gb577 23 #[.bool a0, .string t594, .string t598] (0, 0) _ rfl (bq BK577.out) Tryd.underlying23 rfl (by kernel_rfl)) rfl ?_
        exact ⟨fe, bz HB.out⟩
       ·rw [if_neg c35] at H
        have c35b0 : decide (1 < (rd x2_14 0)) = false := decide_eq_false c35
        clear c35
        simp only [Option.some.injEq, Prod.mk.injEq] at H
        obtain ⟨rfl, rfl, rfl⟩ := H
        obtain ⟨Ao46, co46, rfl⟩ := Kd.V_slice HO_1.out
        go_wp2_with (first | ((with_reducible refine gc 57 rfl ?_); refine gl (some 39) Tryd.func57 #[.slice Ao46 x1_14.length co46] ?_; (with_reducible refine (insolvencyref1_text.calls kj14 _ _ x1_14 t594 _ ?side1 ?side2 A22.out).mono ?_); (case side1 => exact vs (Kd.V_reads' HO_1.out).2.2); (case side2 => exact (Kd.V_reads' HO_1.out).2.1); rintro e w47 ⟨rfl, hb⟩; refine ⟨_, rfl, ?_⟩; replace HO_1 := Aside0.mk (vb HO_1.out hb); replace HO_2 := Aside0.mk (vb HO_2.out hb); replace BK577 := Aside0.mk (bk0 BK577.out hb); replace HB := Aside0.mk (bs HB.out hb); (try clear hb)) | ((with_reducible refine gd 8 rfl ?_); refine bx 8 (#[.bool false, .string (⟨#[]⟩ : ByteArray), .string (⟨#[]⟩ : ByteArray)]) 23 ?_; intro gb595 hg w48 hbox hb; replace HO_1 := Aside0.mk (Kd.V_below (Kd.V_elderB (vs HO_1.out) gb595 (Nat.le_of_eq hg.symm)) hb); replace HO_2 := Aside0.mk (Kd.V_below (Kd.V_elderB (vs HO_2.out) gb595 (Nat.le_of_eq hg.symm)) hb); have BK595 := Aside0.mk (hbox); have GW595 := sg hg HB.out; have GE595 := sg hg HB.out; replace HB := Aside0.mk (bs HB.out hb); have NB577_595 := nl hg BK577.out; have NB595_577 := nr hg BK577.out; replace BK577 := Aside0.mk (bk0 BK577.out hb); clear hb hbox hg; have hnb49 := NB595_577.out; have hnc49 := NB577_595.out; obtain ⟨hcz50_0, hcz50_1, hcz50_2, hfz50_0, hfz50_1, hfz50_2⟩ := c3 BK595.out; obtain ⟨Ao51, co51, rfl⟩ := Kd.V_slice HO_2.out; have p597 : 0 ≤ (0 : Int) := (by omega); have q597 : 0 < (x2_14.length : Int) := oa; obtain ⟨ad597, e597, hx597_0⟩ := Kd.at_int (Kd.V_reads' HO_2.out).2.2 0 p597 q597; cases e597; have qi597 : (0 < x2_14.length) = True := eq_true (by omega); (try rw [show ((0 : Int)).toNat = 0 from rfl] at hx597_0); (try rw [Addr.add_zero'] at hx597_0); have hn597_0 : ad597.block ≠ gb595 := (Kd.V_in HO_2.out (by omega) (by decide)).2; have hn597_1 : ad597.block ≠ gb595 := (Kd.V_in HO_2.out (by omega) (by decide)).2; have hn597_2 : ad597.block ≠ gb595 := (Kd.V_in HO_2.out (by omega) (by decide)).2; replace hx597_0 := (cell_far (p := ⟨gb595, 0, none⟩) (by first | (rw [add_block]; exact hn597_0) | (show (Addr.add _ _).block ≠ _; rw [add_block]; exact hn597_0) | exact hn597_0) (.bool a0)).trans hx597_0; replace hx597_0 := (cell_far (p := ⟨gb595, 1, none⟩) (by first | (rw [add_block]; exact hn597_1) | (show (Addr.add _ _).block ≠ _; rw [add_block]; exact hn597_1) | exact hn597_1) (.string t594)).trans hx597_0; replace hx597_0 := (cell_far (p := ⟨gb595, 2, none⟩) (by first | (rw [add_block]; exact hn597_2) | (show (Addr.add _ _).block ≠ _; rw [add_block]; exact hn597_2) | exact hn597_2) (.string (⟨#[]⟩ : ByteArray))).trans hx597_0; clear hn597_0; clear hn597_1; clear hn597_2; replace p597 := eq_true p597; replace q597 := eq_true q597; obtain ⟨hcz52_0, hcz52_1, hcz52_2, hfz52_0, hfz52_1, hfz52_2⟩ := c3 BK577.out))
        refine bodyPost_ret (results_cell_row rfl _ _ gb577 23 #[.bool a0, .string t594, .string (⟨#[]⟩ : ByteArray)] (0, 0) _ rfl (bq BK577.out) Tryd.underlying23 rfl (by kernel_rfl)) rfl ?_
        exact ⟨fe, bz HB.out⟩

/-! ### insolvencyref1_Make: function 12 -/
def insolvencyref1_Make.f (k : Nat) (a0 : Bool) (a1 : ByteArray) (a2 : ByteArray) : Option (Bool × ByteArray × ByteArray × Bool) := (insolvencyref1_limbs.f k a2).bind fun t600 => (if (t600.length : Int) = 0 then (some (false, (⟨#[]⟩ : ByteArray), (⟨#[]⟩ : ByteArray), false)) else ((insolvencyref1_limbs.f k a1).bind fun t603 => ((insolvencyref1_reduced.f k a0 t603 t600).bind fun bt606 => (some (bt606.1, bt606.2.1, bt606.2.2, true)))))
theorem insolvencyref1_Make.mono : ∀ a0 a1 a2 k, LeO (insolvencyref1_Make.f k a0 a1 a2) (insolvencyref1_Make.f (k + 1) a0 a1 a2) := by
 intro a0 a1 a2 k
 unfold insolvencyref1_Make.f
 repeat' with_reducible first | exact insolvencyref1_limbs.mono _ _ | exact insolvencyref1_reduced.mono _ _ _ _ | exact LeO.refl _ | exact LeO.none _ | refine LeO.ite ?_ ?_ | refine LeO.bind ?_ (fun _ => ?_)
set_option maxHeartbeats 8000000 in
set_option maxRecDepth 100000 in
theorem insolvencyref1_Make.calls (k : Nat) (a0 : Bool) (a1 : ByteArray) (a2 : ByteArray) (r1 : Bool) (r2 : ByteArray) (r3 : ByteArray) (r4 : Bool) (w : World) (h : insolvencyref1_Make.f k a0 a1 a2 = some (r1, r2, r3, r4)) :
  Calls Tryd.prog 12 #[.bool a0, .string a1, .string a2] w fun e w' => e = .returned (.tuple #[.agg #[.bool r1, .string r2, .string r3], .bool r4]) ∧ Below w.heap.size w w' := by
 have hu23 := Tryd.underlying23
 have HB := Aside0.mk (Below.refl w.heap.size w)
 have H := h
 clear h
 unfold insolvencyref1_Make.f at H
 obtain ⟨t600, A4, H⟩ := bs1 H
 by_cases c5 : (t600.length : Int) = 0
 ·rw [if_pos c5] at H
  have c5b0 := beq_iff_eq.mpr c5
  have c5b1 := bne_eq_false_iff_eq.mpr c5
  clear c5
  simp only [Option.some.injEq, Prod.mk.injEq] at H
  obtain ⟨rfl, rfl, rfl, rfl⟩ := H
  go_enter Tryd.func12, Tryd.ntmps12
  go_wp2_with (first | ((with_reducible refine gd 6 rfl ?_); refine bx 6 (#[.bool false, .string (⟨#[]⟩ : ByteArray), .string (⟨#[]⟩ : ByteArray)]) 23 ?_; intro gb599 hg w6 hbox hb; have BK599 := Aside0.mk (hbox); have GW599 := sg hg HB.out; have GE599 := sg hg HB.out; replace HB := Aside0.mk (bs HB.out hb); clear hb hbox hg) | ((with_reducible refine gc 31 rfl ?_); refine gl (some 10) Tryd.func31 #[.string a2] ?_; (with_reducible refine (insolvencyref1_limbs.calls k a2 t600 _ A4.out).mono ?_); rintro e w7 ⟨v601, rfl, ho0, hb⟩; refine ⟨_, rfl, ?_⟩; have HO602 := Aside0.mk (Kd.R_lower ho0 (sz HB.out)); replace BK599 := Aside0.mk (bk0 BK599.out hb); replace HB := Aside0.mk (bs HB.out hb); (try clear hb ho0); obtain ⟨Ao8, co8, eo8⟩ := Kd.R_slice HO602.out; subst eo8; obtain ⟨hcz9_0, hcz9_1, hcz9_2, hfz9_0, hfz9_1, hfz9_2⟩ := c3 BK599.out))
  refine bodyPost_ret (results_ct rfl _ _ gb599 23 #[.bool false, .string (⟨#[]⟩ : ByteArray), .string (⟨#[]⟩ : ByteArray)] (0, 0) _ rfl (bq BK599.out) Tryd.underlying23 rfl (by kernel_rfl)) rfl ?_
  exact ⟨fe, bz HB.out⟩
 ·rw [if_neg c5] at H
  have c5b0 := beq_eq_false_iff_ne.mpr c5
  have c5b1 := bne_iff_ne.mpr c5
  have c5b2 : ¬ (t600 = []) := fun h_ => c5 (by rw [h_]; rfl)
  obtain ⟨t603, A10, H⟩ := bs1 H
  obtain ⟨⟨t606, t607, t608⟩, A11, H⟩ := bs1 H; dsimp only at H
  simp only [Option.some.injEq, Prod.mk.injEq] at H
  obtain ⟨rfl, rfl, rfl, rfl⟩ := H
  go_enter Tryd.func12, Tryd.ntmps12
  go_wp2_with (first | ((with_reducible refine gd 6 rfl ?_); refine bx 6 (#[.bool false, .string (⟨#[]⟩ : ByteArray), .string (⟨#[]⟩ : ByteArray)]) 23 ?_; intro gb599 hg w12 hbox hb; have BK599 := Aside0.mk (hbox); have GW599 := sg hg HB.out; have GE599 := sg hg HB.out; replace HB := Aside0.mk (bs HB.out hb); clear hb hbox hg) | ((with_reducible refine gc 31 rfl ?_); refine gl (some 10) Tryd.func31 #[.string a2] ?_; (with_reducible refine (insolvencyref1_limbs.calls k a2 t600 _ A4.out).mono ?_); rintro e w13 ⟨v601, rfl, ho0, hb⟩; refine ⟨_, rfl, ?_⟩; have HO602 := Aside0.mk (Kd.R_lower ho0 (sz HB.out)); replace BK599 := Aside0.mk (bk0 BK599.out hb); replace HB := Aside0.mk (bs HB.out hb); (try clear hb ho0); obtain ⟨Ao14, co14, eo14⟩ := Kd.R_slice HO602.out; subst eo14) | ((with_reducible refine gc 31 rfl ?_); refine gl (some 17) Tryd.func31 #[.string a1] ?_; (with_reducible refine (insolvencyref1_limbs.calls k a1 t603 _ A10.out).mono ?_); rintro e w15 ⟨v604, rfl, ho0, hb⟩; refine ⟨_, rfl, ?_⟩; have HO605 := Aside0.mk (Kd.R_lower (Kd.R_new' ho0 (Kd.R_lt (vs HO602.out))) (sz HB.out)); replace HO602 := Aside0.mk (Kd.R_elder' (vs HO602.out) (Kd.R_base ho0) hb); replace BK599 := Aside0.mk (bk0 BK599.out hb); replace HB := Aside0.mk (bs HB.out hb); (try clear hb ho0); obtain ⟨Ao16, co16, eo16⟩ := Kd.R_slice HO605.out; subst eo16) | ((with_reducible refine gc 32 rfl ?_); refine gl (some 19) Tryd.func32 #[.bool a0, .slice Ao16 t603.length co16, .slice Ao14 t600.length co14] ?_; (with_reducible refine (insolvencyref1_reduced.calls k a0 (fun k_ => some k_ = (.slice Ao16 t603.length co16 : Value).ownBlock) _ _ t603 (fun k_ => some k_ = (.slice Ao14 t600.length co14 : Value).ownBlock) _ _ t600 t606 t607 t608 _ ?side1 ?side2 A11.out).mono ?_); (case side1 => exact Kd.R_V (Kd.R_tight rfl (Kd.R_types (HO605.out) BK599.out (by decide)))); (case side2 => exact Kd.R_V (Kd.R_tight rfl (Kd.R_types (HO602.out) BK599.out (by decide)))); rintro e w17 ⟨rfl, hb⟩; refine ⟨_, rfl, ?_⟩; replace HO602 := Aside0.mk (rb HO602.out hb); replace HO605 := Aside0.mk (rb HO605.out hb); replace BK599 := Aside0.mk (bk0 BK599.out hb); replace HB := Aside0.mk (bs HB.out hb); (try clear hb); obtain ⟨hcz18_0, hcz18_1, hcz18_2, hfz18_0, hfz18_1, hfz18_2⟩ := c3 BK599.out))
  refine bodyPost_ret (results_ct rfl _ _ gb599 23 #[.bool t606, .string t607, .string t608] (0, 0) _ rfl (bq BK599.out) Tryd.underlying23 rfl (by kernel_rfl)) rfl ?_
  exact ⟨fe, bz HB.out⟩

/-! ### insolvencylaw2_RationalMake: function 4 -/
def insolvencylaw2_RationalMake.j0 : Nat → Bool → ByteArray → ByteArray → Bool → Option (Bool)
 | 0, _, _, _, _ => none
 | k + 1, x0, x1, x2, x18 => if x18 = true then ((insolvencylaw2_awake.f k).bind fun t609 => (some t609)) else ((rational_Make.f k x0 x1 x2).bind fun bt610 => ((insolvencyref1_Make.f k x0 x1 x2).bind fun bt615 => ((insolvencylaw2_awake.f k).bind fun t620 => (if t620 = true then (if (bt610.1 == bt615.1 && (bt610.2.1.toList == bt615.2.1.toList && (bt610.2.2.1.toList == bt615.2.2.1.toList))) = true then (if (bt610.2.2.2 == bt615.2.2.2) = true then ((rational_Valid.f k bt610.1 bt610.2.1 bt610.2.2.1).bind fun t621 => (some t621)) else (some false)) else (some false)) else (some false)))))
def insolvencylaw2_RationalMake.f (k : Nat) (a0 : Bool) (a1 : ByteArray) (a2 : ByteArray) : Option (Bool) := if (a1.size : Int) > 40 then (insolvencylaw2_RationalMake.j0 k a0 a1 a2 true) else (insolvencylaw2_RationalMake.j0 k a0 a1 a2 (decide ((a2.size : Int) > 40)))
theorem insolvencylaw2_RationalMake.mono_l : ∀ k, (∀ y0 y1 y2 y3, LeO (insolvencylaw2_RationalMake.j0 k y0 y1 y2 y3) (insolvencylaw2_RationalMake.j0 (k + 1) y0 y1 y2 y3))
 | 0 => fun _ _ _ _ r h => by simp [insolvencylaw2_RationalMake.j0] at h
 | k + 1 => by
  have ih0 := insolvencylaw2_RationalMake.mono_l k
  ·intro y0 y1 y2 y3
   unfold insolvencylaw2_RationalMake.j0
   repeat' with_reducible first | exact ih0 _ _ _ _ | exact insolvencylaw2_awake.mono _ | exact insolvencyref1_Make.mono _ _ _ _ | exact rational_Make.mono _ _ _ _ | exact rational_Valid.mono _ _ _ _ | exact LeO.refl _ | exact LeO.none _ | refine LeO.ite ?_ ?_ | refine LeO.bind ?_ (fun _ => ?_)
theorem insolvencylaw2_RationalMake.mono : ∀ a0 a1 a2 k, LeO (insolvencylaw2_RationalMake.f k a0 a1 a2) (insolvencylaw2_RationalMake.f (k + 1) a0 a1 a2) := by
 intro a0 a1 a2 k
 have ih0 := insolvencylaw2_RationalMake.mono_l k
 unfold insolvencylaw2_RationalMake.f
 repeat' with_reducible first | exact ih0 _ _ _ _ | exact insolvencylaw2_awake.mono _ | exact insolvencyref1_Make.mono _ _ _ _ | exact rational_Make.mono _ _ _ _ | exact rational_Valid.mono _ _ _ _ | exact LeO.refl _ | exact LeO.none _ | refine LeO.ite ?_ ?_ | refine LeO.bind ?_ (fun _ => ?_)
set_option maxHeartbeats 8000000 in
set_option maxRecDepth 100000 in
theorem insolvencylaw2_RationalMake.calls (k : Nat) (a0 : Bool) (a1 : ByteArray) (a2 : ByteArray) (r : Bool) (w : World) (h : insolvencylaw2_RationalMake.f k a0 a1 a2 = some r) (hr : r = true := by first | rfl | assumption) :
  Calls Tryd.prog 4 #[.bool a0, .string a1, .string a2] w fun e w' => e = .returned (.bool r) ∧ Below w.heap.size w w' := by
 have hu23 := Tryd.underlying23
 have HB := Aside0.mk (Below.refl w.heap.size w)
 have H := h
 clear h
 unfold insolvencylaw2_RationalMake.f at H
 have HC4 := Aside0.mk H
 clear H
 go_enter Tryd.func4, Tryd.ntmps4
 (try (simp only [Exit.then]; refine (by assumption : ∀ (a : Act) (w : World), Code.wp _ _ _ a w → _) _ _ ?_))
 go_upto_region 1 with (fail)
 go_cut [18] (fun v18 wc => ∃ (kq : Nat) (x18_3 : Bool), v18 = .bool x18_3 ∧ Aside0 (insolvencylaw2_RationalMake.j0 kq a0 a1 a2 x18_3 = some r) ∧ Aside0 (kq ≤ k) ∧ Aside0 (Below w.heap.size w wc))
 case first =>
  have H := HC4.out
  clear HC4
  by_cases c5 : (a1.size : Int) > 40
  ·rw [if_pos c5] at H
   have c5b0 : decide (40 < (a1.size : Int)) = true := decide_eq_true c5
   have c5b1 : decide (40 < a1.size) = true := decide_eq_true (by omega)
   clear c5
   (first | rw [c5b0] | (simp only [i64_w, i32_w]; rw [c5b0]) | skip)
   have H' := Aside0.mk H
   clear H
   go_wp2
   go_meet
   case rel => exact ⟨_, (true), fs, H', ⟨by first | omega | exact Nat.le_refl _⟩, ⟨bz HB.out⟩⟩
  ·rw [if_neg c5] at H
   have c5b0 : decide (40 < (a1.size : Int)) = false := decide_eq_false c5
   have c5b1 : decide (40 < a1.size) = false := decide_eq_false (by omega)
   clear c5
   (first | rw [c5b0] | (simp only [i64_w, i32_w]; rw [c5b0]) | skip)
   have H' := Aside0.mk H
   clear H
   go_wp2
   go_meet
   case rel => exact ⟨_, (decide ((a2.size : Int) > 40)), fs, H', ⟨by first | omega | exact Nat.le_refl _⟩, ⟨bz HB.out⟩⟩
 case rest =>
  clear HC4
  (try clear c5b0); (try clear c5b1)
  obtain ⟨kq, x18_3, rfl, HA, HJ3, HB⟩ := hcut
  cases kq with
  | zero => exact absurd HA.out (by simp [insolvencylaw2_RationalMake.j0])
  | succ kj3 =>
   have H := HA.out
   clear HA
   simp only [insolvencylaw2_RationalMake.j0] at H
   by_cases c6 : x18_3 = true
   ·subst c6
    have H1 : ((insolvencylaw2_awake.f kj3).bind fun t609 => (some t609)) = some r := by rw [if_pos rfl] at H; exact H
    clear H
    have H := H1
    clear H1
    obtain ⟨t609, A7, H⟩ := bs1 H
    obtain rfl := Option.some.inj H
    go_wp2_with (first | ((with_reducible refine gc 8 rfl ?_); refine gl (some 19) Tryd.func8 #[] ?_; (with_reducible refine (insolvencylaw2_awake.calls kj3  t609 _ A7.out).mono ?_); rintro e w8 ⟨rfl, hb⟩; refine ⟨_, rfl, ?_⟩; replace HB := Aside0.mk (bs HB.out hb); (try clear hb)))
    go_ret
    exact ⟨fe, bz HB.out⟩
   ·replace c6 := Bool.eq_false_iff.mpr c6
    subst c6
    have H1 : ((rational_Make.f kj3 a0 a1 a2).bind fun bt610 => ((insolvencyref1_Make.f kj3 a0 a1 a2).bind fun bt615 => ((insolvencylaw2_awake.f kj3).bind fun t620 => (if t620 = true then (if (bt610.1 == bt615.1 && (bt610.2.1.toList == bt615.2.1.toList && (bt610.2.2.1.toList == bt615.2.2.1.toList))) = true then (if (bt610.2.2.2 == bt615.2.2.2) = true then ((rational_Valid.f kj3 bt610.1 bt610.2.1 bt610.2.2.1).bind fun t621 => (some t621)) else (some false)) else (some false)) else (some false))))) = some r := by rw [if_neg (show ¬ (false = true) by decide)] at H; exact H
    clear H
    have H := H1
    clear H1
    obtain ⟨⟨t610, t611, t612, t613⟩, A9, H⟩ := bs1 H; dsimp only at H
    obtain ⟨⟨t615, t616, t617, t618⟩, A10, H⟩ := bs1 H; dsimp only at H
    obtain ⟨t620, A11, H⟩ := bs1 H
    by_cases c12 : t620 = true
    ·subst c12
     have H1 : (if (t610 == t615 && (t611.toList == t616.toList && (t612.toList == t617.toList))) = true then (if (t613 == t618) = true then ((rational_Valid.f kj3 t610 t611 t612).bind fun t621 => (some t621)) else (some false)) else (some false)) = some r := by rw [if_pos rfl] at H; exact H
     clear H
     have H := H1
     clear H1
     by_cases c13 : (t610 == t615 && (t611.toList == t616.toList && (t612.toList == t617.toList))) = true
     ·rw [if_pos c13] at H
      have c13b0 : (t610 == t615 && (t611.toList == t616.toList && (t612.toList == t617.toList))) = true := c13
      (try (have c13b1 : decide (t610 = t615 && (t611.toList == t616.toList && (t612.toList == t617.toList))) = true := by simpa using c13))
      (try (have c13b2 : (t610 == t615 && (t611.toList == t616.toList && (t612.toList == t617.toList))) = true := by simpa using c13))
      clear c13
      by_cases c14 : (t613 == t618) = true
      ·rw [if_pos c14] at H
       have c14b0 : (t613 == t618) = true := c14
       (try (have c14b1 : decide (t613 = t618) = true := by simpa using c14))
       (try (have c14b2 : (t613 == t618) = true := by simpa using c14))
       clear c14
       obtain ⟨t621, A15, H⟩ := bs1 H
       obtain rfl := Option.some.inj H
       go_wp2_with (first | ((with_reducible refine gc 11 rfl ?_); refine gl (some 24) Tryd.func11 #[.bool a0, .string a1, .string a2] ?_; (with_reducible refine (rational_Make.calls kj3 a0 a1 a2 t610 t611 t612 t613 _ A9.out).mono ?_); rintro e w16 ⟨rfl, hb⟩; refine ⟨_, rfl, ?_⟩; replace HB := Aside0.mk (bs HB.out hb); (try clear hb)) | ((with_reducible refine gd 7 rfl ?_); (try (refine gate_guard (by rfl) ?_; dsimp only)); refine bx 7 (#[.bool false, .string (⟨#[]⟩ : ByteArray), .string (⟨#[]⟩ : ByteArray)]) 23 ?_; intro gb614 hg w17 hbox hb; have BK614 := Aside0.mk (hbox); have GW614 := sg hg HB.out; have GE614 := sg hg HB.out; replace HB := Aside0.mk (bs HB.out hb); clear hb hbox hg; obtain ⟨hcz18_0, hcz18_1, hcz18_2, hfz18_0, hfz18_1, hfz18_2⟩ := c3 BK614.out) | ((with_reducible refine gc 12 rfl ?_); refine gl (some 31) Tryd.func12 #[.bool a0, .string a1, .string a2] ?_; (with_reducible refine (insolvencyref1_Make.calls kj3 a0 a1 a2 t615 t616 t617 t618 _ A10.out).mono ?_); rintro e w19 ⟨rfl, hb⟩; refine ⟨_, rfl, ?_⟩; replace BK614 := Aside0.mk (bk BK614.out hb (.cells #[.bool t610, .string t611, .string t612] 23 (0, 0))); replace HB := Aside0.mk (bs HB.out hb); (try clear hb)) | ((with_reducible refine gd 9 rfl ?_); (try (refine gate_guard (by rfl) ?_; dsimp only)); refine bx 9 (#[.bool false, .string (⟨#[]⟩ : ByteArray), .string (⟨#[]⟩ : ByteArray)]) 23 ?_; intro gb619 hg w20 hbox hb; have BK619 := Aside0.mk (hbox); have GW619 := sg hg HB.out; have GE619 := sg hg HB.out; replace HB := Aside0.mk (bs HB.out hb); have NB614_619 := nl hg BK614.out; have NB619_614 := nr hg BK614.out; replace BK614 := Aside0.mk (bk0 BK614.out hb); clear hb hbox hg; have hnb21 := NB619_614.out; have hnc21 := NB614_619.out; obtain ⟨hcz22_0, hcz22_1, hcz22_2, hfz22_0, hfz22_1, hfz22_2⟩ := c3 BK619.out) | ((with_reducible refine gc 8 rfl ?_); refine gl (some 34) Tryd.func8 #[] ?_; (with_reducible refine (insolvencylaw2_awake.calls kj3  true _ A11.out).mono ?_); rintro e w23 ⟨rfl, hb⟩; refine ⟨_, rfl, ?_⟩; replace BK614 := Aside0.mk (bk0 BK614.out hb); replace BK619 := Aside0.mk (bk BK619.out hb (.cells #[.bool t615, .string t616, .string t617] 23 (0, 0))); replace HB := Aside0.mk (bs HB.out hb); (try clear hb); obtain ⟨hcz24_0, hcz24_1, hcz24_2, hfz24_0, hfz24_1, hfz24_2⟩ := c3 BK614.out; obtain ⟨hcz25_0, hcz25_1, hcz25_2, hfz25_0, hfz25_1, hfz25_2⟩ := c3 BK619.out) | (go_at_call 9; (with_reducible refine (rational_Valid.calls kj3 t610 t611 t612 t621 _ A15.out).mono ?_); rintro e w26 ⟨rfl, hb⟩; replace BK614 := Aside0.mk (bk0 BK614.out hb); replace BK619 := Aside0.mk (bk0 BK619.out hb); replace HB := Aside0.mk (bs HB.out hb); (try clear hb)))
       go_ret
       exact ⟨fe, bz HB.out⟩
      ·rw [if_neg c14] at H
       exact nf hr H
     ·rw [if_neg c13] at H
      exact nf hr H
    ·replace c12 := Bool.eq_false_iff.mpr c12
     subst c12
     have H1 : (some false) = some r := by rw [if_neg (show ¬ (false = true) by decide)] at H; exact H
     clear H
     have H := H1
     clear H1
     exact nf hr H
/-- THE ONE PURE STATEMENT of insolvencylaw2_RationalMake: yours. -/
def insolvencylaw2_RationalMake.Pure : Prop := ∀ (a0 : Bool) (a1 : ByteArray) (a2 : ByteArray), a1.size ≤ 140737488351232 → a2.size ≤ 140737488351232 → ∃ k, insolvencylaw2_RationalMake.f k a0 a1 a2 = some true
theorem insolvencylaw2_RationalMake.walk (P : insolvencylaw2_RationalMake.Pure) (a0 : Bool) (a1 : ByteArray) (a2 : ByteArray) (w : World) (w1 : a1.size ≤ 140737488351232) (w2 : a2.size ≤ 140737488351232) :
  Calls Tryd.prog 4 #[.bool a0, .string a1, .string a2] w fun e w' => e = .returned (.bool true) ∧ Below w.heap.size w w' := by
 obtain ⟨k, h⟩ := P a0 a1 a2 w1 w2
 refine (insolvencylaw2_RationalMake.calls k a0 a1 a2 true w h).mono ?_
 rintro e w' ⟨rfl, hd⟩
 exact ⟨rfl, hd⟩
end Go.Proofs.YtgepdnoaemeofaaDoor.M
