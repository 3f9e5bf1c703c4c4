/- Printed by a program of this session (wip/tools) out of the translation: plain functions and the proofs that the code comes to their answers. -/
import Derived.Test.YtgepdnoaemeofaaDoorK
import Derived.Test.YtgepdnoaemeofaaDoorR0
import Derived.Test.YtgepdnoaemeofaaDoorR2
import Derived.Test.YtgepdnoaemeofaaDoorR12
import Derived.Test.YtgepdnoaemeofaaDoorR15
import Derived.Test.YtgepdnoaemeofaaDoorR16
import Derived.Test.YtgepdnoaemeofaaDoorR17
namespace Go.Proofs.YtgepdnoaemeofaaDoor.R
open Go.RowKit Go.Proofs.YtgepdnoaemeofaaDoorW.PrintWords Go.Proofs.YtgepdnoaemeofaaDoorW.PrintLast Go.Proofs.YtgepdnoaemeofaaDoorW.PrintMore Go.Proofs.YtgepdnoaemeofaaDoorW.PK
attribute [local go_sem] max2_int min2_int max_two min_two max_three min_three max_four min_four   -- for this text's walks alone
set_option linter.unusedVariables false
set_option linter.unusedSimpArgs false

/-! ### insolvencyref1_divide: function 59 -/
def insolvencyref1_divide.f (k : Nat) (l0 : List Int) (l1 : List Int) : Option (List Int × List Int) := (insolvencyref1_order.f k l0 l1).bind fun t558 => (if t558 < 0 then (some (([] : List Int), l0)) else (if (l1.length : Int) = 1 then (if 0 < (l1.length : Int) then ((insolvencyref1_short.f k l0 (rd l1 0)).bind fun bt560 => ((insolvencyref1_strip.f k (([bt560.2] : List Int))).bind fun t567 => (some (bt560.1, t567)))) else (none)) else ((insolvencyref1_long.f k l0 l1).bind fun bt570 => (some (bt570.1, bt570.2)))))
theorem insolvencyref1_divide.mono : ∀ a0 a1 k, LeO (insolvencyref1_divide.f k a0 a1) (insolvencyref1_divide.f (k + 1) a0 a1) := by
 intro a0 a1 k
 unfold insolvencyref1_divide.f
 repeat' with_reducible first | exact insolvencyref1_long.mono _ _ _ | exact insolvencyref1_order.mono _ _ _ | exact insolvencyref1_short.mono _ _ _ | exact insolvencyref1_strip.mono _ _ | exact LeO.refl _ | exact LeO.none _ | refine LeO.ite ?_ ?_ | refine LeO.bind ?_ (fun _ => ?_)
set_option maxHeartbeats 8000000 in
set_option maxRecDepth 100000 in
theorem insolvencyref1_divide.calls (k : Nat) (P0_ : Nat → Prop) (A0 : Option Addr) (c0 : Nat) (l0 : List Int) (A1 : Option Addr) (c1 : Nat) (l1 : List Int) (r1 : List Int) (r2 : List Int) (w : World) (hs0 : Kd.V (Kd.int .u32) 72 w w.heap.size (fun k_ => P0_ k_) (.slice A0 l0.length c0) l0) (hr1 : Kd.C (Kd.int .u32) w A1 l1.length l1) (hc1 : l1.length ≤ c1) (h : insolvencyref1_divide.f k l0 l1 = some (r1, r2)) :
  Calls Tryd.prog 59 #[.slice A0 l0.length c0, .slice A1 l1.length c1] w fun e w' => ∃ v0_ v1_ : Value, e = .returned (.tuple #[v0_, v1_]) ∧ Kd.V (Kd.int .u32) 72 w' w.heap.size (fun k_ => (P0_ k_ ∨ w.heap.size ≤ k_)) v0_ r1 ∧ Kd.V (Kd.int .u32) 72 w' w.heap.size (fun k_ => (P0_ k_ ∨ w.heap.size ≤ k_)) v1_ r2 ∧ Below w.heap.size w w' := by
 have HO0 := Aside0.mk (show Kd.V (Kd.int .u32) 72 w w.heap.size (fun k_ => (P0_ k_ ∨ w.heap.size ≤ k_)) (.slice A0 l0.length c0) l0 from Kd.V_mono hs0 (fun k_ hk => .inl hk))
 have HR1 := Aside0.mk hr1
 have HC1 := Aside0.mk hc1
 clear hr1 hc1
 have HB := Aside0.mk (Below.refl w.heap.size w)
 have H := h
 clear h
 unfold insolvencyref1_divide.f at H
 obtain ⟨t558, A3, H⟩ := bs1 H
 by_cases c4 : t558 < 0
 ·rw [if_pos c4] at H
  have c4b0 : decide (t558 < 0) = true := decide_eq_true c4
  clear c4
  simp only [Option.some.injEq, Prod.mk.injEq] at H
  obtain ⟨rfl, rfl⟩ := H
  go_enter Tryd.func59, Tryd.ntmps59
  go_wp2_with (first | ((with_reducible refine gc 87 rfl ?_); refine gl (some 10) Tryd.func87 #[.slice A0 l0.length c0, .slice A1 l1.length c1] ?_; (with_reducible refine (insolvencyref1_order.calls k _ _ l0 _ _ l1 t558 _ ?side1 ?side2 ?side3 ?side4 A3.out).mono ?_); (case side1 => exact vs (Kd.V_reads' HO0.out).2.2); (case side2 => exact (Kd.V_reads' HO0.out).2.1); (case side3 => repeat (first | exact HR1.out | (with_reducible refine Kd.C_alloc ?_ _) | (with_reducible refine Kd.C_drewN ?_ _) | (with_reducible refine Kd.C_drew ?_))); (case side4 => exact HC1.out); rintro e w' ⟨rfl, ⟨nd, rfl⟩⟩; refine ⟨_, rfl, ?_⟩))
  go_ret2
  exact ⟨_, _, fe, (by first | exact Kd.V_nil _ _ _ _ _ | exact Kd.V_mono (Kd.R_V (by first | exact Kd.R_nil _ _ _ _ _ | exact Kd.N_nil _ _ _ _ _ | exact Kd.V_nil _ _ _ _ _ | exact Kd.Q_nil _ _ _ _ _ | exact Kd.S_nil _ _ _ _ _)) (fun k_ hk => by first | exact ⟨(.inr (hk.1)), hk.2⟩ | exact (.inr (hk)))), vs HO0.out, bz HB.out⟩
 ·rw [if_neg c4] at H
  have c4b0 : decide (t558 < 0) = false := decide_eq_false c4
  clear c4
  by_cases c5 : (l1.length : Int) = 1
  ·rw [if_pos c5] at H
   have c5b0 := beq_iff_eq.mpr c5
   have c5b1 := bne_eq_false_iff_eq.mpr c5
   clear c5
   obtain ⟨c6, H⟩ := iN H
   have c6b0 : decide (0 < (l1.length : Int)) = true := decide_eq_true c6
   have c6b1 : decide (0 < l1.length) = true := decide_eq_true (by omega)
   clear c6
   obtain ⟨⟨t560, t563⟩, A7, H⟩ := bs1 H; dsimp only at H
   obtain ⟨y564, hy564⟩ : ∃ y_ : List Int, y_ = (([t563] : List Int)) := ⟨_, rfl⟩
   (try first | rw [← hy564] at H | (dsimp only at H; rw [← hy564] at H)); (try rw [Option.bind_some] at H)
   have Ny564 := Aside0.mk hy564
   clear hy564
   obtain ⟨t567, A8, H⟩ := bs1 H
   simp only [Option.some.injEq, Prod.mk.injEq] at H
   obtain ⟨rfl, rfl⟩ := H
   go_enter Tryd.func59, Tryd.ntmps59
   go_wp2_with (first | ((with_reducible refine gc 87 rfl ?_); refine gl (some 10) Tryd.func87 #[.slice A0 l0.length c0, .slice A1 l1.length c1] ?_; (with_reducible refine (insolvencyref1_order.calls k _ _ l0 _ _ l1 t558 _ ?side1 ?side2 ?side3 ?side4 A3.out).mono ?_); (case side1 => exact vs (Kd.V_reads' HO0.out).2.2); (case side2 => exact (Kd.V_reads' HO0.out).2.1); (case side3 => repeat (first | exact HR1.out | (with_reducible refine Kd.C_alloc ?_ _) | (with_reducible refine Kd.C_drewN ?_ _) | (with_reducible refine Kd.C_drew ?_))); (case side4 => exact HC1.out); rintro e w' ⟨rfl, ⟨nd, rfl⟩⟩; refine ⟨_, rfl, ?_⟩; have p559 : 0 ≤ (0 : Int) := (by omega); have q559 : 0 < (l1.length : Int) := oa; obtain ⟨ad559, e559, hx559_0⟩ := Kd.at_int HR1.out 0 p559 q559; cases e559; have qi559 : (0 < l1.length) = True := eq_true (by omega); (try rw [show ((0 : Int)).toNat = 0 from rfl] at hx559_0); (try rw [Addr.add_zero'] at hx559_0); replace p559 := eq_true p559; replace q559 := eq_true q559) | ((with_reducible refine gc 88 rfl ?_); refine gl (some 21) Tryd.func88 #[.slice A0 l0.length c0, .int .u32 (rd l1 0)] ?_; (with_reducible refine (insolvencyref1_short.calls k _ _ l0 (rd l1 0) t560 t563 _ ?side1 ?side2 A7.out).mono ?_); (case side1 => exact vs (Kd.V_reads' HO0.out).2.2); (case side2 => exact (Kd.V_reads' HO0.out).2.1); rintro e w9 ⟨v561, rfl, ho0, hb⟩; refine ⟨_, rfl, ?_⟩; replace HO0 := Aside0.mk (vb HO0.out hb); have HO562 := Aside0.mk (Kd.V_lower (Kd.V_mono (ok' := fun k_ => (P0_ k_ ∨ w.heap.size ≤ k_)) ho0 (fun k_ hk_ => (.inr (Nat.le_trans (sz HB.out) hk_)))) (sz HB.out)); replace HB := Aside0.mk (bs HB.out hb); (try clear hb ho0)) | ((with_reducible refine gd 26 rfl ?_); refine Kd.R_lit (Kd.int .u32) _ 72 ?hg (N := 26) ?hd (xs := ([t563] : List Int)) (inner := [.int .u32 t563]) (ok := fun _ => True) (okp := fun _ => True) ?hr ?hp (fun _ hk => hk) trivial (Below.refl _ _) (Nat.le_refl _) (by simp) ?_; (case hd => rfl); (case hg => rfl); (case hr => first | (go_simp; done) | (go_simp; rfl)); (case hp => exact (Reps.one (show Kd.M (Kd.int .u32) _ _ _ t563 [.int .u32 t563] from rfl) (Reps.none _ _))); intro v565 w10 ho11 hb hg_ hnew_; clear hg_ hnew_; (first | rw [← Ny564.out] at ho11 | (simp only [Int.reduceToNat] at ho11; rw [← Ny564.out] at ho11)); replace HO0 := Aside0.mk (Kd.V_elder' (vs HO0.out) (Kd.R_base ho11) hb); replace HO562 := Aside0.mk (Kd.V_elder' (vs HO562.out) (Kd.R_base ho11) hb); have HO566 := Aside0.mk (Kd.R_lower (Kd.R_newM (M := fun k_ => (w.heap.size ≤ k_)) ho11 (sz HB.out) (fun k_ h_ => h_)) (sz HB.out)); replace HB := Aside0.mk (bs HB.out hb); clear hb ho11; obtain ⟨Ao12, co12, eo12⟩ := Kd.R_slice HO566.out; subst eo12) | ((with_reducible refine gc 86 rfl ?_); refine gl (some 27) Tryd.func86 #[.slice Ao12 y564.length co12] ?_; (with_reducible refine (insolvencyref1_strip.calls k (fun k_ => some k_ = (.slice Ao12 y564.length co12 : Value).ownBlock) _ _ y564 t567 _ ?side1 A8.out).mono ?_); (case side1 => exact Kd.R_V (Kd.R_tight rfl (HO566.out))); rintro e w13 ⟨v568, rfl, ho0, hb⟩; refine ⟨_, rfl, ?_⟩; replace HO0 := Aside0.mk (vb HO0.out hb); replace HO562 := Aside0.mk (vb HO562.out hb); have HO569 := Aside0.mk (Kd.V_lower (Kd.V_mono (ok' := fun k_ => (P0_ k_ ∨ w.heap.size ≤ k_)) ho0 (fun k_ hk_ => Or.elim hk_ (fun hs_ => (.inr (((HO566.out).1 k_ hs_.symm).1))) (fun hn_ => (.inr (Nat.le_trans (sz HB.out) hn_))))) (sz HB.out)); replace HO566 := Aside0.mk (rb HO566.out hb); replace HB := Aside0.mk (bs HB.out hb); (try clear hb ho0)))
   go_ret2
   exact ⟨_, _, fe, vm HO562.out (fun _ hk => hk.1), vs HO569.out, bz HB.out⟩
  ·rw [if_neg c5] at H
   have c5b0 := beq_eq_false_iff_ne.mpr c5
   have c5b1 := bne_iff_ne.mpr c5
   obtain ⟨⟨t570, t573⟩, A14, H⟩ := bs1 H; dsimp only at H
   simp only [Option.some.injEq, Prod.mk.injEq] at H
   obtain ⟨rfl, rfl⟩ := H
   go_enter Tryd.func59, Tryd.ntmps59
   go_wp2_with (first | ((with_reducible refine gc 87 rfl ?_); refine gl (some 10) Tryd.func87 #[.slice A0 l0.length c0, .slice A1 l1.length c1] ?_; (with_reducible refine (insolvencyref1_order.calls k _ _ l0 _ _ l1 t558 _ ?side1 ?side2 ?side3 ?side4 A3.out).mono ?_); (case side1 => exact vs (Kd.V_reads' HO0.out).2.2); (case side2 => exact (Kd.V_reads' HO0.out).2.1); (case side3 => repeat (first | exact HR1.out | (with_reducible refine Kd.C_alloc ?_ _) | (with_reducible refine Kd.C_drewN ?_ _) | (with_reducible refine Kd.C_drew ?_))); (case side4 => exact HC1.out); rintro e w' ⟨rfl, ⟨nd, rfl⟩⟩; refine ⟨_, rfl, ?_⟩) | ((with_reducible refine gc 89 rfl ?_); refine gl (some 30) Tryd.func89 #[.slice A0 l0.length c0, .slice A1 l1.length c1] ?_; (with_reducible refine (insolvencyref1_long.calls k _ _ l0 _ _ l1 t570 t573 _ ?side1 ?side2 ?side3 ?side4 A14.out).mono ?_); (case side1 => exact vs (Kd.V_reads' HO0.out).2.2); (case side2 => exact (Kd.V_reads' HO0.out).2.1); (case side3 => repeat (first | exact HR1.out | (with_reducible refine Kd.C_alloc ?_ _) | (with_reducible refine Kd.C_drewN ?_ _) | (with_reducible refine Kd.C_drew ?_))); (case side4 => exact HC1.out); rintro e w15 ⟨v571, v574, rfl, ho0, ho1, hb⟩; refine ⟨_, rfl, ?_⟩; replace HO0 := Aside0.mk (vb HO0.out hb); have HO572 := Aside0.mk (Kd.V_lower (Kd.V_mono (ok' := fun k_ => (P0_ k_ ∨ w.heap.size ≤ k_)) ho0 (fun k_ hk_ => (.inr (Nat.le_trans (sz HB.out) hk_)))) (sz HB.out)); have HO575 := Aside0.mk (Kd.V_lower (Kd.V_mono (ok' := fun k_ => (P0_ k_ ∨ w.heap.size ≤ k_)) ho1 (fun k_ hk_ => (.inr (Nat.le_trans (sz HB.out) hk_)))) (sz HB.out)); replace HB := Aside0.mk (bs HB.out hb); (try clear hb ho0 ho1)))
   go_ret2
   exact ⟨_, _, fe, vs HO572.out, vs HO575.out, bz HB.out⟩

/-! ### insolvencyref1_common: function 58 -/
def insolvencyref1_common.l0 : Nat → List Int → List Int → Option (List Int)
 | 0, _, _ => none
 | k + 1, x0, x1 => if (x1.length : Int) > 0 then ((insolvencyref1_divide.f k x0 x1).bind fun bt576 => (insolvencyref1_common.l0 k x1 bt576.2)) else (some x0)
def insolvencyref1_common.f (k : Nat) (l0 : List Int) (l1 : List Int) : Option (List Int) := insolvencyref1_common.l0 k l0 l1
theorem insolvencyref1_common.mono_l : ∀ k, (∀ y0 y1, LeO (insolvencyref1_common.l0 k y0 y1) (insolvencyref1_common.l0 (k + 1) y0 y1))
 | 0 => fun _ _ r h => by simp [insolvencyref1_common.l0] at h
 | k + 1 => by
  have ih0 := insolvencyref1_common.mono_l k
  ·intro y0 y1
   unfold insolvencyref1_common.l0
   repeat' with_reducible first | exact ih0 _ _ | exact insolvencyref1_divide.mono _ _ _ | exact LeO.refl _ | exact LeO.none _ | refine LeO.ite ?_ ?_ | refine LeO.bind ?_ (fun _ => ?_)
theorem insolvencyref1_common.mono : ∀ a0 a1 k, LeO (insolvencyref1_common.f k a0 a1) (insolvencyref1_common.f (k + 1) a0 a1) := by
 intro a0 a1 k
 have ih0 := insolvencyref1_common.mono_l k
 unfold insolvencyref1_common.f
 repeat' with_reducible first | exact ih0 _ _ | exact insolvencyref1_divide.mono _ _ _ | exact LeO.refl _ | exact LeO.none _ | refine LeO.ite ?_ ?_ | refine LeO.bind ?_ (fun _ => ?_)
set_option maxHeartbeats 8000000 in
set_option maxRecDepth 100000 in
theorem insolvencyref1_common.calls (k : Nat) (P0_ : Nat → Prop) (A0 : Option Addr) (c0 : Nat) (l0 : List Int) (P1_ : Nat → Prop) (A1 : Option Addr) (c1 : Nat) (l1 : List Int) (r : List Int) (w : World) (hs0 : Kd.V (Kd.int .u32) 72 w w.heap.size (fun k_ => P0_ k_) (.slice A0 l0.length c0) l0) (hs1 : Kd.V (Kd.int .u32) 72 w w.heap.size (fun k_ => P1_ k_) (.slice A1 l1.length c1) l1) (h : insolvencyref1_common.f k l0 l1 = some r) :
  Calls Tryd.prog 58 #[.slice A0 l0.length c0, .slice A1 l1.length c1] w fun e w' => ∃ v0_ : Value, e = .returned (v0_) ∧ Kd.V (Kd.int .u32) 72 w' w.heap.size (fun k_ => ((P0_ k_ ∨ P1_ k_) ∨ w.heap.size ≤ k_)) v0_ r ∧ Below w.heap.size w w' := by
 have HO0 := Aside0.mk (show Kd.V (Kd.int .u32) 72 w w.heap.size (fun k_ => ((P0_ k_ ∨ P1_ k_) ∨ w.heap.size ≤ k_)) (.slice A0 l0.length c0) l0 from Kd.V_mono hs0 (fun k_ hk => .inl (.inl hk)))
 have HO1 := Aside0.mk (show Kd.V (Kd.int .u32) 72 w w.heap.size (fun k_ => ((P0_ k_ ∨ P1_ k_) ∨ w.heap.size ≤ k_)) (.slice A1 l1.length c1) l1 from Kd.V_mono hs1 (fun k_ hk => .inl (.inr hk)))
 have HB := Aside0.mk (Below.refl w.heap.size w)
 have H := h
 clear h
 unfold insolvencyref1_common.f at H
 have H' := Aside0.mk H
 clear H
 go_enter Tryd.func58, Tryd.ntmps58
 go_wp2
 go_loopg [0, 1] k (fun kq v0 v1 w' => ∃ (x0_1 : List Int) (x1_1 : List Int), Aside0 (insolvencyref1_common.l0 kq x0_1 x1_1 = some r) ∧ Aside0 (kq ≤ k) ∧ Aside0 (Kd.V (Kd.int .u32) 72 w' w.heap.size (fun k_ => ((P0_ k_ ∨ P1_ k_) ∨ w.heap.size ≤ k_)) v0 x0_1) ∧ Aside0 (Kd.V (Kd.int .u32) 72 w' w.heap.size (fun k_ => ((P0_ k_ ∨ P1_ k_) ∨ w.heap.size ≤ k_)) v1 x1_1) ∧ Aside0 (Below w.heap.size w w'))
 case atStart => exact ⟨(l0), (l1), H', ⟨Nat.le_refl _⟩, ⟨vs HO0.out⟩, ⟨vs HO1.out⟩, ⟨bz HB.out⟩⟩
 case round =>
  clear H'
  (try clear c1)
  obtain ⟨x0_1, x1_1, HA, HK1, HO_0, HO_1, HB⟩ := hrel
  cases gk with
  | zero => exact absurd HA.out (by simp [insolvencyref1_common.l0])
  | succ k1 =>
   have H := HA.out
   clear HA
   simp only [insolvencyref1_common.l0] at H
   by_cases c3 : (x1_1.length : Int) > 0
   ·rw [if_pos c3] at H
    have c3b0 : decide (0 < (x1_1.length : Int)) = true := decide_eq_true c3
    have c3b1 : decide (0 < x1_1.length) = true := decide_eq_true (by omega)
    clear c3
    obtain ⟨⟨t576, t579⟩, A4, H⟩ := bs1 H; dsimp only at H
    have H' := Aside0.mk H
    clear H
    obtain ⟨Ao5, co5, rfl⟩ := Kd.V_slice HO_1.out
    obtain ⟨Ao6, co6, rfl⟩ := Kd.V_slice HO_0.out
    go_wp2_with (first | ((with_reducible refine gc 59 rfl ?_); refine gl (some 13) Tryd.func59 #[.slice Ao6 x0_1.length co6, .slice Ao5 x1_1.length co5] ?_; (with_reducible refine (insolvencyref1_divide.calls k1 (fun k_ => ((P0_ k_ ∨ P1_ k_) ∨ w.heap.size ≤ k_)) _ _ x0_1 _ _ x1_1 t576 t579 _ ?side1 ?side2 ?side3 A4.out).mono ?_); (case side1 => exact HO_0.out); (case side2 => exact vs (Kd.V_reads' HO_1.out).2.2); (case side3 => exact (Kd.V_reads' HO_1.out).2.1); rintro e w7 ⟨v577, v580, rfl, ho0, ho1, hb⟩; refine ⟨_, rfl, ?_⟩; replace HO_0 := Aside0.mk (vb HO_0.out hb); replace HO_1 := Aside0.mk (vb HO_1.out hb); have HO578 := Aside0.mk (Kd.V_lower (Kd.V_mono (ok' := fun k_ => ((P0_ k_ ∨ P1_ k_) ∨ w.heap.size ≤ k_)) ho0 (fun k_ hk_ => Or.elim hk_ (fun hs_ => hs_) (fun hn_ => (.inr (Nat.le_trans (sz HB.out) hn_))))) (sz HB.out)); have HO581 := Aside0.mk (Kd.V_lower (Kd.V_mono (ok' := fun k_ => ((P0_ k_ ∨ P1_ k_) ∨ w.heap.size ≤ k_)) ho1 (fun k_ hk_ => Or.elim hk_ (fun hs_ => hs_) (fun hn_ => (.inr (Nat.le_trans (sz HB.out) hn_))))) (sz HB.out)); replace HB := Aside0.mk (bs HB.out hb); (try clear hb ho0 ho1)))
    go_roundg k1
    case measure => have := HK1.out; omega
    case rel => exact ⟨(x1_1), (t579), H', ⟨by have := HK1.out; omega⟩, ⟨vs HO_1.out⟩, ⟨vs HO581.out⟩, ⟨bz HB.out⟩⟩
   ·rw [if_neg c3] at H
    have c3b0 : decide (0 < (x1_1.length : Int)) = false := decide_eq_false c3
    have c3b1 : decide (0 < x1_1.length) = false := decide_eq_false (by omega)
    clear c3
    obtain rfl := Option.some.inj H
    obtain ⟨Ao8, co8, rfl⟩ := Kd.V_slice HO_1.out
    go_wp2
    go_ret
    exact ⟨_, fe, vs HO_0.out, bz HB.out⟩

/-! ### insolvencyref1_GCD: function 29 -/
def insolvencyref1_GCD.f (k : Nat) (a0 : ByteArray) (a1 : ByteArray) : Option (ByteArray) := (insolvencyref1_limbs.f k a0).bind fun t582 => ((insolvencyref1_limbs.f k a1).bind fun t585 => ((insolvencyref1_common.f k t582 t585).bind fun t588 => ((insolvencyref1_text.f k t588).bind fun t591 => (some t591))))
theorem insolvencyref1_GCD.mono : ∀ a0 a1 k, LeO (insolvencyref1_GCD.f k a0 a1) (insolvencyref1_GCD.f (k + 1) a0 a1) := by
 intro a0 a1 k
 unfold insolvencyref1_GCD.f
 repeat' with_reducible first | exact insolvencyref1_common.mono _ _ _ | exact insolvencyref1_limbs.mono _ _ | exact insolvencyref1_text.mono _ _ | exact LeO.refl _ | exact LeO.none _ | refine LeO.ite ?_ ?_ | refine LeO.bind ?_ (fun _ => ?_)
set_option maxHeartbeats 8000000 in
set_option maxRecDepth 100000 in
theorem insolvencyref1_GCD.calls (k : Nat) (a0 : ByteArray) (a1 : ByteArray) (r : ByteArray) (w : World) (h : insolvencyref1_GCD.f k a0 a1 = some r) :
  Calls Tryd.prog 29 #[.string a0, .string a1] w fun e w' => e = .returned (.string r) ∧ Below w.heap.size w w' := by
 have HB := Aside0.mk (Below.refl w.heap.size w)
 have H := h
 clear h
 unfold insolvencyref1_GCD.f at H
 obtain ⟨t582, A3, H⟩ := bs1 H
 obtain ⟨t585, A4, H⟩ := bs1 H
 obtain ⟨t588, A5, H⟩ := bs1 H
 obtain ⟨t591, A6, H⟩ := bs1 H
 obtain rfl := Option.some.inj H
 go_enter Tryd.func29, Tryd.ntmps29
 go_wp2_with (first | ((with_reducible refine gc 31 rfl ?_); refine gl (some 6) Tryd.func31 #[.string a0] ?_; (with_reducible refine (insolvencyref1_limbs.calls k a0 t582 _ A3.out).mono ?_); rintro e w7 ⟨v583, rfl, ho0, hb⟩; refine ⟨_, rfl, ?_⟩; have HO584 := Aside0.mk (Kd.R_lower ho0 (sz HB.out)); replace HB := Aside0.mk (bs HB.out hb); (try clear hb ho0)) | ((with_reducible refine gc 31 rfl ?_); refine gl (some 8) Tryd.func31 #[.string a1] ?_; (with_reducible refine (insolvencyref1_limbs.calls k a1 t585 _ A4.out).mono ?_); rintro e w8 ⟨v586, rfl, ho0, hb⟩; refine ⟨_, rfl, ?_⟩; have HO587 := Aside0.mk (Kd.R_lower (Kd.R_new' ho0 (Kd.R_lt (vs HO584.out))) (sz HB.out)); replace HO584 := Aside0.mk (Kd.R_elder' (vs HO584.out) (Kd.R_base ho0) hb); replace HB := Aside0.mk (bs HB.out hb); (try clear hb ho0); obtain ⟨Ao9, co9, eo9⟩ := Kd.R_slice HO584.out; subst eo9; obtain ⟨Ao10, co10, eo10⟩ := Kd.R_slice HO587.out; subst eo10) | ((with_reducible refine gc 58 rfl ?_); refine gl (some 9) Tryd.func58 #[.slice Ao9 t582.length co9, .slice Ao10 t585.length co10] ?_; (with_reducible refine (insolvencyref1_common.calls k (fun k_ => some k_ = (.slice Ao9 t582.length co9 : Value).ownBlock) _ _ t582 (fun k_ => some k_ = (.slice Ao10 t585.length co10 : Value).ownBlock) _ _ t585 t588 _ ?side1 ?side2 A5.out).mono ?_); (case side1 => exact Kd.R_V (Kd.R_tight rfl (HO584.out))); (case side2 => exact Kd.R_V (Kd.R_tight rfl (HO587.out))); rintro e w11 ⟨v589, rfl, ho0, hb⟩; refine ⟨_, rfl, ?_⟩; replace HO584 := Aside0.mk (rb HO584.out hb); replace HO587 := Aside0.mk (rb HO587.out hb); have HO590 := Aside0.mk (Kd.V_lower (Kd.V_mono (ok' := fun k_ => True) ho0 (fun k_ hk_ => trivial)) (sz HB.out)); replace HB := Aside0.mk (bs HB.out hb); (try clear hb ho0); obtain ⟨Ao12, co12, rfl⟩ := Kd.V_slice HO590.out) | ((with_reducible refine gc 57 rfl ?_); refine gl (some 10) Tryd.func57 #[.slice Ao12 t588.length co12] ?_; (with_reducible refine (insolvencyref1_text.calls k _ _ t588 t591 _ ?side1 ?side2 A6.out).mono ?_); (case side1 => exact vs (Kd.V_reads' HO590.out).2.2); (case side2 => exact (Kd.V_reads' HO590.out).2.1); rintro e w13 ⟨rfl, hb⟩; refine ⟨_, rfl, ?_⟩; replace HO584 := Aside0.mk (rb HO584.out hb); replace HO587 := Aside0.mk (rb HO587.out hb); replace HO590 := Aside0.mk (vb HO590.out hb); replace HB := Aside0.mk (bs HB.out hb); (try clear hb)))
 go_ret
 exact ⟨fe, bz HB.out⟩

/-! ### insolvencyref1_Valid: function 10 -/
def insolvencyref1_Valid.j0 : Nat → Bool → Bool → ByteArray → ByteArray → Option (Bool)
 | 0, _, _, _, _ => none
 | k + 1, x21, x593000, x593001, x593002 => if x21 = true then (some false) else (if x593001.toList = ([] : List UInt8) then (if x593000 = true then (some false) else (some (x593002.toList == ([] : List UInt8)))) else (if x593002.toList = ([] : List UInt8) then (some true) else ((insolvencyref1_GCD.f k x593001 x593002).bind fun t595 => (some (t595.toList == ([1] : List UInt8))))))
def insolvencyref1_Valid.f (k : Nat) (a0_0 : Bool) (a0_1 : ByteArray) (a0_2 : ByteArray) : Option (Bool) := (insolvencyref1_Normalize.f k a0_1).bind fun t593 => (if t593.toList = a0_1.toList then ((insolvencyref1_Normalize.f k a0_2).bind fun t594 => (if t594.toList = a0_2.toList then (insolvencyref1_Valid.j0 k (a0_2.toList == ([1] : List UInt8)) a0_0 a0_1 a0_2) else (insolvencyref1_Valid.j0 k true a0_0 a0_1 a0_2))) else (insolvencyref1_Valid.j0 k true a0_0 a0_1 a0_2))
theorem insolvencyref1_Valid.mono_l : ∀ k, (∀ y0 y1 y2 y3, LeO (insolvencyref1_Valid.j0 k y0 y1 y2 y3) (insolvencyref1_Valid.j0 (k + 1) y0 y1 y2 y3))
 | 0 => fun _ _ _ _ r h => by simp [insolvencyref1_Valid.j0] at h
 | k + 1 => by
  have ih0 := insolvencyref1_Valid.mono_l k
  ·intro y0 y1 y2 y3
   unfold insolvencyref1_Valid.j0
   repeat' with_reducible first | exact ih0 _ _ _ _ | exact insolvencyref1_GCD.mono _ _ _ | exact insolvencyref1_Normalize.mono _ _ | exact LeO.refl _ | exact LeO.none _ | refine LeO.ite ?_ ?_ | refine LeO.bind ?_ (fun _ => ?_)
theorem insolvencyref1_Valid.mono : ∀ a0 a1 a2 k, LeO (insolvencyref1_Valid.f k a0 a1 a2) (insolvencyref1_Valid.f (k + 1) a0 a1 a2) := by
 intro a0 a1 a2 k
 have ih0 := insolvencyref1_Valid.mono_l k
 unfold insolvencyref1_Valid.f
 repeat' with_reducible first | exact ih0 _ _ _ _ | exact insolvencyref1_GCD.mono _ _ _ | exact insolvencyref1_Normalize.mono _ _ | exact LeO.refl _ | exact LeO.none _ | refine LeO.ite ?_ ?_ | refine LeO.bind ?_ (fun _ => ?_)
set_option maxHeartbeats 8000000 in
set_option maxRecDepth 100000 in
theorem insolvencyref1_Valid.calls (k : Nat) (a0_0 : Bool) (a0_1 : ByteArray) (a0_2 : ByteArray) (r : Bool) (w : World) (h : insolvencyref1_Valid.f k a0_0 a0_1 a0_2 = some r) :
  Calls Tryd.prog 10 #[.agg #[.bool a0_0, .string a0_1, .string a0_2]] w fun e w' => e = .returned (.bool r) ∧ Below w.heap.size w w' := by
 have hu23 := Tryd.underlying23
 have HB := Aside0.mk (Below.refl w.heap.size w)
 have H := h
 clear h
 unfold insolvencyref1_Valid.f at H
 have HC2 := Aside0.mk H
 clear H
 go_enter Tryd.func10, Tryd.ntmps10
 (try (simp only [Exit.then]; refine (by assumption : ∀ (a : Act) (w : World), Code.wp _ _ _ a w → _) _ _ ?_))
 go_upto_region 1 with (first | ((with_reducible refine gd 1 rfl ?_); refine bx 1 (#[.bool a0_0, .string a0_1, .string a0_2]) 23 ?_; intro gb592 hg w3 hbox hb; have BK592 := Aside0.mk (hbox); have GW592 := sg hg HB.out; have GE592 := sg hg HB.out; replace HB := Aside0.mk (bs HB.out hb); clear hb hbox hg))
 repeat (go_quiet (first | ((with_reducible refine gd 1 rfl ?_); refine bx 1 (#[.bool a0_0, .string a0_1, .string a0_2]) 23 ?_; intro gb592 hg w3 hbox hb; have BK592 := Aside0.mk (hbox); have GW592 := sg hg HB.out; have GE592 := sg hg HB.out; replace HB := Aside0.mk (bs HB.out hb); clear hb hbox hg)); go_upto_region 1 with (first | ((with_reducible refine gd 1 rfl ?_); refine bx 1 (#[.bool a0_0, .string a0_1, .string a0_2]) 23 ?_; intro gb592 hg w3 hbox hb; have BK592 := Aside0.mk (hbox); have GW592 := sg hg HB.out; have GE592 := sg hg HB.out; replace HB := Aside0.mk (bs HB.out hb); clear hb hbox hg)))
 (try simp only [Act.put, List.setIfInBounds_toArray, List.set_cons_zero, List.set_cons_succ])
 go_cut [21] (fun v21 wc => ∃ (kq : Nat) (x21_1 : Bool), v21 = .bool x21_1 ∧ Aside0 (insolvencyref1_Valid.j0 kq x21_1 a0_0 a0_1 a0_2 = some r) ∧ Aside0 (kq ≤ k) ∧ Aside0 (wc.heap[gb592]? = some (.cells #[.bool a0_0, .string a0_1, .string a0_2] 23 (0, 0))) ∧ Aside0 (Below w.heap.size w wc))
 case first =>
  have H := HC2.out
  clear HC2
  obtain ⟨t593, A4, H⟩ := bs1 H
  by_cases c5 : t593.toList = a0_1.toList
  ·rw [if_pos c5] at H
   have c5b0 := beq_iff_eq.mpr c5
   have c5b1 := bne_eq_false_iff_eq.mpr c5
   clear c5
   (first | rw [c5b0] | (simp only [i64_w, i32_w]; rw [c5b0]) | skip)
   obtain ⟨t594, A6, H⟩ := bs1 H
   by_cases c7 : t594.toList = a0_2.toList
   ·rw [if_pos c7] at H
    have c7b0 := beq_iff_eq.mpr c7
    have c7b1 := bne_eq_false_iff_eq.mpr c7
    clear c7
    have H' := Aside0.mk H
    clear H
    obtain ⟨hcz8_0, hcz8_1, hcz8_2, hfz8_0, hfz8_1, hfz8_2⟩ := c3 BK592.out
    go_wp2_with (first | (go_at_call 28; (with_reducible refine (insolvencyref1_Normalize.calls k a0_1 t593 _ A4.out).mono ?_); rintro e w' ⟨rfl, ⟨nd, rfl⟩⟩; (try exact dw)) | (go_at_call 28; (with_reducible refine (insolvencyref1_Normalize.calls k a0_2 t594 _ A6.out).mono ?_); rintro e w' ⟨rfl, ⟨nd, rfl⟩⟩; (try exact dw)))
    repeat (go_quiet (first | (go_at_call 28; (with_reducible refine (insolvencyref1_Normalize.calls k a0_1 t593 _ A4.out).mono ?_); rintro e w' ⟨rfl, ⟨nd, rfl⟩⟩; (try exact dw)) | (go_at_call 28; (with_reducible refine (insolvencyref1_Normalize.calls k a0_2 t594 _ A6.out).mono ?_); rintro e w' ⟨rfl, ⟨nd, rfl⟩⟩; (try exact dw))); try go_wp2_with (first | (go_at_call 28; (with_reducible refine (insolvencyref1_Normalize.calls k a0_1 t593 _ A4.out).mono ?_); rintro e w' ⟨rfl, ⟨nd, rfl⟩⟩; (try exact dw)) | (go_at_call 28; (with_reducible refine (insolvencyref1_Normalize.calls k a0_2 t594 _ A6.out).mono ?_); rintro e w' ⟨rfl, ⟨nd, rfl⟩⟩; (try exact dw))))
    go_meet
    case rel => exact ⟨_, ((a0_2.toList == ([1] : List UInt8))), fs, H', ⟨by first | omega | exact Nat.le_refl _⟩, ⟨bq BK592.out⟩, ⟨bz HB.out⟩⟩
   ·rw [if_neg c7] at H
    have c7b0 := beq_eq_false_iff_ne.mpr c7
    have c7b1 := bne_iff_ne.mpr c7
    have H' := Aside0.mk H
    clear H
    obtain ⟨hcz9_0, hcz9_1, hcz9_2, hfz9_0, hfz9_1, hfz9_2⟩ := c3 BK592.out
    go_wp2_with (first | (go_at_call 28; (with_reducible refine (insolvencyref1_Normalize.calls k a0_1 t593 _ A4.out).mono ?_); rintro e w' ⟨rfl, ⟨nd, rfl⟩⟩; (try exact dw)) | (go_at_call 28; (with_reducible refine (insolvencyref1_Normalize.calls k a0_2 t594 _ A6.out).mono ?_); rintro e w' ⟨rfl, ⟨nd, rfl⟩⟩; (try exact dw)))
    repeat (go_quiet (first | (go_at_call 28; (with_reducible refine (insolvencyref1_Normalize.calls k a0_1 t593 _ A4.out).mono ?_); rintro e w' ⟨rfl, ⟨nd, rfl⟩⟩; (try exact dw)) | (go_at_call 28; (with_reducible refine (insolvencyref1_Normalize.calls k a0_2 t594 _ A6.out).mono ?_); rintro e w' ⟨rfl, ⟨nd, rfl⟩⟩; (try exact dw))); try go_wp2_with (first | (go_at_call 28; (with_reducible refine (insolvencyref1_Normalize.calls k a0_1 t593 _ A4.out).mono ?_); rintro e w' ⟨rfl, ⟨nd, rfl⟩⟩; (try exact dw)) | (go_at_call 28; (with_reducible refine (insolvencyref1_Normalize.calls k a0_2 t594 _ A6.out).mono ?_); rintro e w' ⟨rfl, ⟨nd, rfl⟩⟩; (try exact dw))))
    go_meet
    case rel => exact ⟨_, (true), fs, H', ⟨by first | omega | exact Nat.le_refl _⟩, ⟨bq BK592.out⟩, ⟨bz HB.out⟩⟩
  ·rw [if_neg c5] at H
   have c5b0 := beq_eq_false_iff_ne.mpr c5
   have c5b1 := bne_iff_ne.mpr c5
   (first | rw [c5b0] | (simp only [i64_w, i32_w]; rw [c5b0]) | skip)
   have H' := Aside0.mk H
   clear H
   obtain ⟨hcz10_0, hcz10_1, hcz10_2, hfz10_0, hfz10_1, hfz10_2⟩ := c3 BK592.out
   go_wp2_with (first | (go_at_call 28; (with_reducible refine (insolvencyref1_Normalize.calls k a0_1 t593 _ A4.out).mono ?_); rintro e w' ⟨rfl, ⟨nd, rfl⟩⟩; (try exact dw)))
   repeat (go_quiet (first | (go_at_call 28; (with_reducible refine (insolvencyref1_Normalize.calls k a0_1 t593 _ A4.out).mono ?_); rintro e w' ⟨rfl, ⟨nd, rfl⟩⟩; (try exact dw))); try go_wp2_with (first | (go_at_call 28; (with_reducible refine (insolvencyref1_Normalize.calls k a0_1 t593 _ A4.out).mono ?_); rintro e w' ⟨rfl, ⟨nd, rfl⟩⟩; (try exact dw))))
   go_meet
   case rel => exact ⟨_, (true), fs, H', ⟨by first | omega | exact Nat.le_refl _⟩, ⟨bq BK592.out⟩, ⟨bz HB.out⟩⟩
 case rest =>
  clear HC2
  (try clear c5b0); (try clear c5b1); (try clear c7b0); (try clear c7b1); (try clear hcz10_0); (try clear hcz10_1); (try clear hcz10_2); (try clear hcz8_0); (try clear hcz8_1); (try clear hcz8_2); (try clear hcz9_0); (try clear hcz9_1); (try clear hcz9_2); (try clear hfz10_0); (try clear hfz10_1); (try clear hfz10_2); (try clear hfz8_0); (try clear hfz8_1); (try clear hfz8_2); (try clear hfz9_0); (try clear hfz9_1); (try clear hfz9_2)
  obtain ⟨kq, x21_1, rfl, HA, HJ1, BK592, HB⟩ := hcut
  cases kq with
  | zero => exact absurd HA.out (by simp [insolvencyref1_Valid.j0])
  | succ kj1 =>
   have H := HA.out
   clear HA
   simp only [insolvencyref1_Valid.j0] at H
   by_cases c11 : x21_1 = true
   ·subst c11
    have H1 : (some false) = some r := by rw [if_pos rfl] at H; exact H
    clear H
    have H := H1
    clear H1
    obtain rfl := Option.some.inj H
    go_wp2
    repeat (go_quiet (fail); try go_wp2)
    go_ret
    exact ⟨fe, bz HB.out⟩
   ·replace c11 := Bool.eq_false_iff.mpr c11
    subst c11
    have H1 : (if a0_1.toList = ([] : List UInt8) then (if a0_0 = true then (some false) else (some (a0_2.toList == ([] : List UInt8)))) else (if a0_2.toList = ([] : List UInt8) then (some true) else ((insolvencyref1_GCD.f kj1 a0_1 a0_2).bind fun t595 => (some (t595.toList == ([1] : List UInt8)))))) = some r := by rw [if_neg (show ¬ (false = true) by decide)] at H; exact H
    clear H
    have H := H1
    clear H1
    by_cases c12 : a0_1.toList = ([] : List UInt8)
    ·rw [if_pos c12] at H
     have c12b0 := beq_iff_eq.mpr c12
     have c12b1 := bne_eq_false_iff_eq.mpr c12
     clear c12
     by_cases c13 : a0_0 = true
     ·subst c13
      have H1 : (some false) = some r := by rw [if_pos rfl] at H; exact H
      clear H
      have H := H1
      clear H1
      obtain rfl := Option.some.inj H
      obtain ⟨hcz14_0, hcz14_1, hcz14_2, hfz14_0, hfz14_1, hfz14_2⟩ := c3 BK592.out
      go_wp2
      repeat (go_quiet (fail); try go_wp2)
      go_ret
      exact ⟨fe, bz HB.out⟩
     ·replace c13 := Bool.eq_false_iff.mpr c13
      subst c13
      have H1 : (some (a0_2.toList == ([] : List UInt8))) = some r := by rw [if_neg (show ¬ (false = true) by decide)] at H; exact H
      clear H
      have H := H1
      clear H1
      obtain rfl := Option.some.inj H
      obtain ⟨hcz15_0, hcz15_1, hcz15_2, hfz15_0, hfz15_1, hfz15_2⟩ := c3 BK592.out
      go_wp2
      repeat (go_quiet (fail); try go_wp2)
      go_ret
      exact ⟨fe, bz HB.out⟩
    ·rw [if_neg c12] at H
     have c12b0 := beq_eq_false_iff_ne.mpr c12
     have c12b1 := bne_iff_ne.mpr c12
     by_cases c16 : a0_2.toList = ([] : List UInt8)
     ·rw [if_pos c16] at H
      have c16b0 := beq_iff_eq.mpr c16
      have c16b1 := bne_eq_false_iff_eq.mpr c16
      clear c16
      obtain rfl := Option.some.inj H
      obtain ⟨hcz17_0, hcz17_1, hcz17_2, hfz17_0, hfz17_1, hfz17_2⟩ := c3 BK592.out
      go_wp2
      repeat (go_quiet (fail); try go_wp2)
      go_ret
      exact ⟨fe, bz HB.out⟩
     ·rw [if_neg c16] at H
      have c16b0 := beq_eq_false_iff_ne.mpr c16
      have c16b1 := bne_iff_ne.mpr c16
      obtain ⟨t595, A18, H⟩ := bs1 H
      obtain rfl := Option.some.inj H
      obtain ⟨hcz19_0, hcz19_1, hcz19_2, hfz19_0, hfz19_1, hfz19_2⟩ := c3 BK592.out
      go_wp2_with (first | (go_at_call 29; (with_reducible refine (insolvencyref1_GCD.calls kj1 a0_1 a0_2 t595 _ A18.out).mono ?_); rintro e w20 ⟨rfl, hb⟩; replace BK592 := Aside0.mk (bk0 BK592.out hb); replace HB := Aside0.mk (bs HB.out hb); (try clear hb)))
      repeat (go_quiet (first | (go_at_call 29; (with_reducible refine (insolvencyref1_GCD.calls kj1 a0_1 a0_2 t595 _ A18.out).mono ?_); rintro e w20 ⟨rfl, hb⟩; replace BK592 := Aside0.mk (bk0 BK592.out hb); replace HB := Aside0.mk (bs HB.out hb); (try clear hb))); try go_wp2_with (first | (go_at_call 29; (with_reducible refine (insolvencyref1_GCD.calls kj1 a0_1 a0_2 t595 _ A18.out).mono ?_); rintro e w20 ⟨rfl, hb⟩; replace BK592 := Aside0.mk (bk0 BK592.out hb); replace HB := Aside0.mk (bs HB.out hb); (try clear hb))))
      go_ret
      exact ⟨fe, bz HB.out⟩

/-! ### insolvencylaw2_RationalValid: function 3 -/
def insolvencylaw2_RationalValid.f (k : Nat) (a0_0 : Bool) (a0_1 : ByteArray) (a0_2 : ByteArray) : Option (Bool) := (insolvencylaw2_few.f k (([(⟨a0_0, a0_1, a0_2⟩ : S23)] : List (S23)))).bind fun t600 => (if t600 = true then ((insolvencylaw2_awake.f k).bind fun t601 => (if t601 = true then ((rational_Valid.f k a0_0 a0_1 a0_2).bind fun t602 => ((insolvencyref1_Valid.f k a0_0 a0_1 a0_2).bind fun t603 => (some (t602 == t603)))) else (some false))) else ((insolvencylaw2_awake.f k).bind fun t604 => (some t604)))
theorem insolvencylaw2_RationalValid.mono : ∀ a0 a1 a2 k, LeO (insolvencylaw2_RationalValid.f k a0 a1 a2) (insolvencylaw2_RationalValid.f (k + 1) a0 a1 a2) := by
 intro a0 a1 a2 k
 unfold insolvencylaw2_RationalValid.f
 repeat' with_reducible first | exact insolvencylaw2_awake.mono _ | exact insolvencylaw2_few.mono _ _ | exact insolvencyref1_Valid.mono _ _ _ _ | exact rational_Valid.mono _ _ _ _ | exact LeO.refl _ | exact LeO.none _ | refine LeO.ite ?_ ?_ | refine LeO.bind ?_ (fun _ => ?_)
def insolvencylaw2_RationalValid.T3 : Bool × List (List Nat × List Nat) := (true, [([], []), ([0, 0], [0]), ([1], [1]), ([2, 1, 1], [1, 2]), ([1], [1]), ([4, 3, 1], [1, 4]), ([3, 5, 1], [1, 3, 5]), ([1, 6], [1, 6]), ([7, 5, 0, 1, 2, 3, 4, 5, 6, 7], [7])])
def insolvencylaw2_RationalValid.B3 : List Nat := [0, 1, 3, 7, 3, 31, 63, 127, 255]
theorem insolvencylaw2_RationalValid.tab3 : rtab .any (opsOf Tryd.f3 3) = insolvencylaw2_RationalValid.T3 := by kernel_rfl
theorem insolvencylaw2_RationalValid.bits3 : waitsOk insolvencylaw2_RationalValid.T3.2 insolvencylaw2_RationalValid.B3 = true := by kernel_rfl
set_option maxHeartbeats 8000000 in
set_option maxRecDepth 100000 in
theorem insolvencylaw2_RationalValid.calls (k : Nat) (a0_0 : Bool) (a0_1 : ByteArray) (a0_2 : ByteArray) (r : Bool) (w : World) (h : insolvencylaw2_RationalValid.f k a0_0 a0_1 a0_2 = some r) (hr : r = true := by first | rfl | assumption) :
  Calls Tryd.prog 3 #[.agg #[.bool a0_0, .string a0_1, .string a0_2]] w fun e w' => e = .returned (.bool r) ∧ Below w.heap.size w w' := by
 have hu23 := Tryd.underlying23
 have HB := Aside0.mk (Below.refl w.heap.size w)
 have H := h
 clear h
 unfold insolvencylaw2_RationalValid.f at H
 obtain ⟨y597, hy597⟩ : ∃ y_ : List (S23), y_ = (([(⟨a0_0, a0_1, a0_2⟩ : S23)] : List (S23))) := ⟨_, rfl⟩
 (try first | rw [← hy597] at H | (dsimp only at H; rw [← hy597] at H)); (try rw [Option.bind_some] at H)
 have Ny597 := Aside0.mk hy597
 clear hy597
 obtain ⟨t600, A2, H⟩ := bs1 H
 by_cases c3 : t600 = true
 ·subst c3
  have H1 : ((insolvencylaw2_awake.f k).bind fun t601 => (if t601 = true then ((rational_Valid.f k a0_0 a0_1 a0_2).bind fun t602 => ((insolvencyref1_Valid.f k a0_0 a0_1 a0_2).bind fun t603 => (some (t602 == t603)))) else (some false))) = some r := by rw [if_pos rfl] at H; exact H
  clear H
  have H := H1
  clear H1
  obtain ⟨t601, A4, H⟩ := bs1 H
  by_cases c5 : t601 = true
  ·subst c5
   have H1 : ((rational_Valid.f k a0_0 a0_1 a0_2).bind fun t602 => ((insolvencyref1_Valid.f k a0_0 a0_1 a0_2).bind fun t603 => (some (t602 == t603)))) = some r := by rw [if_pos rfl] at H; exact H
   clear H
   have H := H1
   clear H1
   obtain ⟨t602, A6, H⟩ := bs1 H
   obtain ⟨t603, A7, H⟩ := bs1 H
   obtain rfl := Option.some.inj H
   go_enter Tryd.func3, Tryd.ntmps3
   try go_wp2_with (first | ((with_reducible refine gd 1 rfl ?_); refine bx 1 (#[.bool a0_0, .string a0_1, .string a0_2]) 23 ?_; intro gb596 hg w8 hbox hb; have BK596 := Aside0.mk (hbox); have GW596 := sg hg HB.out; have GE596 := sg hg HB.out; replace HB := Aside0.mk (bs HB.out hb); clear hb hbox hg; obtain ⟨hcz9_0, hcz9_1, hcz9_2, hfz9_0, hfz9_1, hfz9_2⟩ := c3 BK596.out) | ((with_reducible refine gd 4 rfl ?_); refine Kd.R_lit k23 _ 23 ?hg (N := 4) ?hd (xs := ([(⟨a0_0, a0_1, a0_2⟩ : S23)] : List (S23))) (inner := [.bool a0_0, .string a0_1, .string a0_2]) (ok := fun _ => True) (okp := fun _ => True) ?hr ?hp (fun _ hk => hk) trivial (Below.refl _ _) (Nat.le_refl _) (by simp) ?_; (case hd => rfl); (case hg => rfl); (case hr => first | (go_simp; done) | (go_simp; rfl)); (case hp => exact (Reps.c3 (show Kd.M k23 _ _ _ (⟨a0_0, a0_1, a0_2⟩ : S23) [.bool a0_0, .string a0_1, .string a0_2] from (k23_mkM _ _ _ (⟨a0_0, a0_1, a0_2⟩ : S23) )) (Reps.none _ _))); intro v598 w10 ho11 hb hg_ hnew_; clear hg_ hnew_; (first | rw [← Ny597.out] at ho11 | (simp only [Int.reduceToNat] at ho11; rw [← Ny597.out] at ho11)); have HO599 := Aside0.mk (Kd.R_lower (Kd.R_newB ho11 (g := gb596) (o := .cells #[.bool a0_0, .string a0_1, .string a0_2] 23 (0, 0)) (bq BK596.out)) (sz HB.out)); replace BK596 := Aside0.mk (bk0 BK596.out hb); replace HB := Aside0.mk (bs HB.out hb); clear hb ho11; obtain ⟨Ao12, co12, eo12⟩ := Kd.R_slice HO599.out; subst eo12) | ((with_reducible refine gc 7 rfl ?_); refine gl (some 5) Tryd.func7 #[.slice Ao12 y597.length co12] ?_; (with_reducible refine (insolvencylaw2_few.calls k _ _ y597 true _ ?side1 ?side2 A2.out).mono ?_); (case side1 => exact vs (Kd.R_reads' HO599.out).2.2); (case side2 => exact (Kd.R_reads' HO599.out).2.1); rintro e w13 ⟨rfl, hb⟩; refine ⟨_, rfl, ?_⟩; replace HO599 := Aside0.mk (rb HO599.out hb); replace BK596 := Aside0.mk (bk0 BK596.out hb); replace HB := Aside0.mk (bs HB.out hb); (try clear hb)))
   replace HO599 := Aside0.mk (Kd.R_drew HO599.out)
   replace BK596 := Aside0.mk (blk_drew BK596.out)
   replace HB := Aside0.mk (below_drew1 HB.out)
   refine start_ (n := 9) (S := fun w' => w'.cell? ⟨gb596, 0, none⟩ = some (.bool a0_0) ∧ w'.cell? ⟨gb596, 1, none⟩ = some (.string a0_1) ∧ w'.cell? ⟨gb596, 2, none⟩ = some (.string a0_2)) (ds := []) #[false, false, false, false, false, false, false, false, false] (by kernel_rfl) rfl rfl ⟨(blk_cell BK596.out 0).trans rfl, (blk_cell BK596.out 1).trans rfl, (blk_cell BK596.out 2).trans rfl⟩ (fun hHeld => ?_); refine with_tabW insolvencylaw2_RationalValid.tab3 insolvencylaw2_RationalValid.bits3 (fun HT_ HW_ => ?_)
   generalize w13.drew = w14 at HO599 BK596 HB hHeld ⊢
   refine one_ (i := 0) (N := some 8) #[true, false, false, false, false, false, false, false, false] rfl rfl (one_of HT_.out (by kernel_rfl)) (by decide) (fun K hK => ?_)
   refine gs Tryd.func8 #[] ?_
   with_reducible refine (insolvencylaw2_awake.calls k  true _ A4.out).mono ?_
   rintro e w15 ⟨rfl, hb⟩
   refine ⟨_, rfl, ?_⟩
   replace HO599 := Aside0.mk (rb HO599.out hb)
   replace BK596 := Aside0.mk (bk0 BK596.out hb)
   replace HB := Aside0.mk (bs HB.out hb)
   (try clear hb); (try clear hb2); (try clear hk); (try clear hi)
   refine hK.out _ _ ⟨(blk_cell BK596.out 0).trans rfl, (blk_cell BK596.out 1).trans rfl, (blk_cell BK596.out 2).trans rfl⟩ (fun hHeld => ?_)
   clear hK K
   refine nm ?_
   refine py 1 (some 9) #[true, true, false, false, false, false, false, false, false] HT_ ?_
   refine take_ (i := 2) (N := some 10) (v := ?_) (a' := ?_) #[true, true, true, false, false, false, false, false, false] rfl rfl (take_ofW HT_.out HW_.out (by kernel_rfl)) (fun _ _ _ h => h) (Or.inl ⟨by rfl, ?_⟩) hHeld ?_ ?_
   rotate_left
   ·rintro w' ⟨s0, s1, s2⟩
    go_simp
    with_reducible rfl
   rotate_left
   ·simp only [Act.put, List.setIfInBounds_toArray, List.set_cons_zero, List.set_cons_succ, i64_w, i32_w]
    rfl
   refine take_ (i := 4) (N := some 12) (v := ?_) (a' := ?_) #[true, true, true, false, true, false, false, false, false] rfl rfl (take_ofW HT_.out HW_.out (by kernel_rfl)) (fun _ _ _ h => h) (Or.inl ⟨by rfl, ?_⟩) hHeld ?_ ?_
   rotate_left
   ·rintro w' ⟨s0, s1, s2⟩
    go_simp
    with_reducible rfl
   rotate_left
   ·simp only [Act.put, List.setIfInBounds_toArray, List.set_cons_zero, List.set_cons_succ, i64_w, i32_w]
    rfl
   refine one_ (i := 3) (N := some 11) #[true, true, true, true, true, false, false, false, false] rfl rfl (one_of HT_.out (by kernel_rfl)) (by decide) (fun K hK => ?_)
   refine gs Tryd.func9 #[.agg #[.bool a0_0, .string a0_1, .string a0_2]] ?_
   with_reducible refine (rational_Valid.calls k a0_0 a0_1 a0_2 t602 _ A6.out).mono ?_
   rintro e w16 ⟨rfl, hb⟩
   refine ⟨_, rfl, ?_⟩
   replace HO599 := Aside0.mk (rb HO599.out hb)
   replace BK596 := Aside0.mk (bk0 BK596.out hb)
   replace HB := Aside0.mk (bs HB.out hb)
   (try clear hb); (try clear hb2); (try clear hk); (try clear hi)
   refine hK.out _ _ ⟨(blk_cell BK596.out 0).trans rfl, (blk_cell BK596.out 1).trans rfl, (blk_cell BK596.out 2).trans rfl⟩ (fun hHeld => ?_)
   clear hK K
   refine nm ?_
   refine one_ (i := 5) (N := some 13) #[true, true, true, true, true, true, false, false, false] rfl rfl (one_of HT_.out (by kernel_rfl)) (by decide) (fun K hK => ?_)
   refine gs Tryd.func10 #[.agg #[.bool a0_0, .string a0_1, .string a0_2]] ?_
   with_reducible refine (insolvencyref1_Valid.calls k a0_0 a0_1 a0_2 t603 _ A7.out).mono ?_
   rintro e w17 ⟨rfl, hb⟩
   refine ⟨_, rfl, ?_⟩
   replace HO599 := Aside0.mk (rb HO599.out hb)
   replace BK596 := Aside0.mk (bk0 BK596.out hb)
   replace HB := Aside0.mk (bs HB.out hb)
   (try clear hb); (try clear hb2); (try clear hk); (try clear hi)
   refine hK.out _ _ ⟨(blk_cell BK596.out 0).trans rfl, (blk_cell BK596.out 1).trans rfl, (blk_cell BK596.out 2).trans rfl⟩ (fun hHeld => ?_)
   clear hK K
   refine nm ?_
   refine py 6 (some 14) #[true, true, true, true, true, true, true, false, false] HT_ ?_
   refine py 7 (some 15) #[true, true, true, true, true, true, true, true, false] HT_ ?_
   refine py 8 (some 2) #[true, true, true, true, true, true, true, true, true] HT_ ?_
   refine done_ (done_of HT_.out (by kernel_rfl)) ?_
   try go_wp2
   go_ret
   exact ⟨fe, bz HB.out⟩
  ·replace c5 := Bool.eq_false_iff.mpr c5
   subst c5
   have H1 : (some false) = some r := by rw [if_neg (show ¬ (false = true) by decide)] at H; exact H
   clear H
   have H := H1
   clear H1
   exact nf hr H
 ·replace c3 := Bool.eq_false_iff.mpr c3
  subst c3
  have H1 : ((insolvencylaw2_awake.f k).bind fun t604 => (some t604)) = some r := by rw [if_neg (show ¬ (false = true) by decide)] at H; exact H
  clear H
  have H := H1
  clear H1
  obtain ⟨t604, A26, H⟩ := bs1 H
  obtain rfl := Option.some.inj H
  go_enter Tryd.func3, Tryd.ntmps3
  go_wp2_with (first | ((with_reducible refine gd 1 rfl ?_); refine bx 1 (#[.bool a0_0, .string a0_1, .string a0_2]) 23 ?_; intro gb596 hg w27 hbox hb; have BK596 := Aside0.mk (hbox); have GW596 := sg hg HB.out; have GE596 := sg hg HB.out; replace HB := Aside0.mk (bs HB.out hb); clear hb hbox hg; obtain ⟨hcz28_0, hcz28_1, hcz28_2, hfz28_0, hfz28_1, hfz28_2⟩ := c3 BK596.out) | ((with_reducible refine gd 4 rfl ?_); refine Kd.R_lit k23 _ 23 ?hg (N := 4) ?hd (xs := ([(⟨a0_0, a0_1, a0_2⟩ : S23)] : List (S23))) (inner := [.bool a0_0, .string a0_1, .string a0_2]) (ok := fun _ => True) (okp := fun _ => True) ?hr ?hp (fun _ hk => hk) trivial (Below.refl _ _) (Nat.le_refl _) (by simp) ?_; (case hd => rfl); (case hg => rfl); (case hr => first | (go_simp; done) | (go_simp; rfl)); (case hp => exact (Reps.c3 (show Kd.M k23 _ _ _ (⟨a0_0, a0_1, a0_2⟩ : S23) [.bool a0_0, .string a0_1, .string a0_2] from (k23_mkM _ _ _ (⟨a0_0, a0_1, a0_2⟩ : S23) )) (Reps.none _ _))); intro v598 w29 ho30 hb hg_ hnew_; clear hg_ hnew_; (first | rw [← Ny597.out] at ho30 | (simp only [Int.reduceToNat] at ho30; rw [← Ny597.out] at ho30)); have HO599 := Aside0.mk (Kd.R_lower (Kd.R_newB ho30 (g := gb596) (o := .cells #[.bool a0_0, .string a0_1, .string a0_2] 23 (0, 0)) (bq BK596.out)) (sz HB.out)); replace BK596 := Aside0.mk (bk0 BK596.out hb); replace HB := Aside0.mk (bs HB.out hb); clear hb ho30; obtain ⟨Ao31, co31, eo31⟩ := Kd.R_slice HO599.out; subst eo31) | ((with_reducible refine gc 7 rfl ?_); refine gl (some 5) Tryd.func7 #[.slice Ao31 y597.length co31] ?_; (with_reducible refine (insolvencylaw2_few.calls k _ _ y597 false _ ?side1 ?side2 A2.out).mono ?_); (case side1 => exact vs (Kd.R_reads' HO599.out).2.2); (case side2 => exact (Kd.R_reads' HO599.out).2.1); rintro e w32 ⟨rfl, hb⟩; refine ⟨_, rfl, ?_⟩; replace HO599 := Aside0.mk (rb HO599.out hb); replace BK596 := Aside0.mk (bk0 BK596.out hb); replace HB := Aside0.mk (bs HB.out hb); (try clear hb)) | ((with_reducible refine gc 8 rfl ?_); refine gl (some 7) Tryd.func8 #[] ?_; (with_reducible refine (insolvencylaw2_awake.calls k  t604 _ A26.out).mono ?_); rintro e w33 ⟨rfl, hb⟩; refine ⟨_, rfl, ?_⟩; replace HO599 := Aside0.mk (rb HO599.out hb); replace BK596 := Aside0.mk (bk0 BK596.out hb); replace HB := Aside0.mk (bs HB.out hb); (try clear hb)))
  go_ret
  exact ⟨fe, bz HB.out⟩

end Go.Proofs.YtgepdnoaemeofaaDoor.R
