/- Printed by a program of this session (wip/tools) out of the translation: plain functions and the proofs that the code comes to their answers. -/
import Derived.Test.YtgepdnoaemeofaaGreatDoorXRationalFraction5
namespace Go.Proofs.YtgepdnoaemeofaaGreatDoor.A
open Go.RowKit Go.Proofs.YtgepdnoaemeofaaGreatDoorW.PrintWords Go.Proofs.YtgepdnoaemeofaaGreatDoorW.PrintLast Go.Proofs.YtgepdnoaemeofaaGreatDoorW.PrintMore Go.Proofs.YtgepdnoaemeofaaGreatDoorW.PK
attribute [local go_sem] max2_int min2_int max_two min_two max_three min_three max_four min_four   -- for this text's walks alone
set_option linter.unusedVariables false
set_option linter.unusedSimpArgs false

/-! ### insolvencyref1_divide: function 80 -/
def insolvencyref1_divide.f (k : Nat) (l0 : List Int) (l1 : List Int) : Option (List Int × List Int) := (insolvencyref1_order.f k l0 l1).bind fun t544 => (if t544 < 0 then (some (([] : List Int), l0)) else (if (l1.length : Int) = 1 then (if 0 < (l1.length : Int) then ((insolvencyref1_short.f k l0 (rd l1 0)).bind fun bt546 => ((insolvencyref1_strip.f k (([bt546.2] : List Int))).bind fun t553 => (some (bt546.1, t553)))) else (none)) else ((insolvencyref1_long.f k l0 l1).bind fun bt556 => (some (bt556.1, bt556.2)))))
theorem insolvencyref1_divide.mono : ∀ a0 a1 k, LeO (insolvencyref1_divide.f k a0 a1) (insolvencyref1_divide.f (k + 1) a0 a1) := by
 intro a0 a1 k
 unfold insolvencyref1_divide.f
 repeat' with_reducible first | exact insolvencyref1_long.mono _ _ _ | exact insolvencyref1_order.mono _ _ _ | exact insolvencyref1_short.mono _ _ _ | exact insolvencyref1_strip.mono _ _ | exact LeO.refl _ | exact LeO.none _ | refine LeO.ite ?_ ?_ | refine LeO.bind ?_ (fun _ => ?_)
set_option maxHeartbeats 8000000 in
set_option maxRecDepth 100000 in
theorem insolvencyref1_divide.calls (k : Nat) (P0_ : Nat → Prop) (A0 : Option Addr) (c0 : Nat) (l0 : List Int) (A1 : Option Addr) (c1 : Nat) (l1 : List Int) (r1 : List Int) (r2 : List Int) (w : World) (hs0 : Kd.V (Kd.int .u32) 52 w w.heap.size (fun k_ => P0_ k_) (.slice A0 l0.length c0) l0) (hr1 : Kd.C (Kd.int .u32) w A1 l1.length l1) (hc1 : l1.length ≤ c1) (h : insolvencyref1_divide.f k l0 l1 = some (r1, r2)) :
  Calls Tryz.prog 80 #[.slice A0 l0.length c0, .slice A1 l1.length c1] w fun e w' => ∃ v0_ v1_ : Value, e = .returned (.tuple #[v0_, v1_]) ∧ Kd.V (Kd.int .u32) 52 w' w.heap.size (fun k_ => (P0_ k_ ∨ w.heap.size ≤ k_)) v0_ r1 ∧ Kd.V (Kd.int .u32) 52 w' w.heap.size (fun k_ => (P0_ k_ ∨ w.heap.size ≤ k_)) v1_ r2 ∧ Below w.heap.size w w' := by
 have HO0 := Aside0.mk (show Kd.V (Kd.int .u32) 52 w w.heap.size (fun k_ => (P0_ k_ ∨ w.heap.size ≤ k_)) (.slice A0 l0.length c0) l0 from Kd.V_mono hs0 (fun k_ hk => .inl hk))
 have HR1 := Aside0.mk hr1
 have HC1 := Aside0.mk hc1
 clear hr1 hc1
 have HB := Aside0.mk (Below.refl w.heap.size w)
 have H := h
 clear h
 unfold insolvencyref1_divide.f at H
 obtain ⟨t544, A3, H⟩ := bs1 H
 by_cases c4 : t544 < 0
 ·rw [if_pos c4] at H
  have c4b0 : decide (t544 < 0) = true := decide_eq_true c4
  clear c4
  simp only [Option.some.injEq, Prod.mk.injEq] at H
  obtain ⟨rfl, rfl⟩ := H
  go_enter Tryz.func80, Tryz.ntmps80
  go_wp2_with (first | ((with_reducible refine gc 127 rfl ?_); refine gl (some 10) Tryz.func127 #[.slice A0 l0.length c0, .slice A1 l1.length c1] ?_; (with_reducible refine (insolvencyref1_order.calls k _ _ l0 _ _ l1 t544 _ ?side1 ?side2 ?side3 ?side4 A3.out).mono ?_); (case side1 => exact vs (Kd.V_reads' HO0.out).2.2); (case side2 => exact (Kd.V_reads' HO0.out).2.1); (case side3 => repeat (first | exact HR1.out | (with_reducible refine Kd.C_alloc ?_ _) | (with_reducible refine Kd.C_drewN ?_ _) | (with_reducible refine Kd.C_drew ?_))); (case side4 => exact HC1.out); rintro e w' ⟨rfl, ⟨nd, rfl⟩⟩; refine ⟨_, rfl, ?_⟩))
  go_ret2
  exact ⟨_, _, fe, (by first | exact Kd.V_nil _ _ _ _ _ | exact Kd.V_mono (Kd.R_V (by first | exact Kd.R_nil _ _ _ _ _ | exact Kd.N_nil _ _ _ _ _ | exact Kd.V_nil _ _ _ _ _ | exact Kd.Q_nil _ _ _ _ _ | exact Kd.S_nil _ _ _ _ _)) (fun k_ hk => by first | exact ⟨(.inr (hk.1)), hk.2⟩ | exact (.inr (hk)))), vs HO0.out, bz HB.out⟩
 ·rw [if_neg c4] at H
  have c4b0 : decide (t544 < 0) = false := decide_eq_false c4
  clear c4
  by_cases c5 : (l1.length : Int) = 1
  ·rw [if_pos c5] at H
   have c5b0 := beq_iff_eq.mpr c5
   have c5b1 := bne_eq_false_iff_eq.mpr c5
   clear c5
   obtain ⟨c6, H⟩ := iN H
   have c6b0 : decide (0 < (l1.length : Int)) = true := decide_eq_true c6
   have c6b1 : decide (0 < l1.length) = true := decide_eq_true (by omega)
   clear c6
   obtain ⟨⟨t546, t549⟩, A7, H⟩ := bs1 H; dsimp only at H
   obtain ⟨y550, hy550⟩ : ∃ y_ : List Int, y_ = (([t549] : List Int)) := ⟨_, rfl⟩
   (try first | rw [← hy550] at H | (dsimp only at H; rw [← hy550] at H)); (try rw [Option.bind_some] at H)
   have Ny550 := Aside0.mk hy550
   clear hy550
   obtain ⟨t553, A8, H⟩ := bs1 H
   simp only [Option.some.injEq, Prod.mk.injEq] at H
   obtain ⟨rfl, rfl⟩ := H
   go_enter Tryz.func80, Tryz.ntmps80
   go_wp2_with (first | ((with_reducible refine gc 127 rfl ?_); refine gl (some 10) Tryz.func127 #[.slice A0 l0.length c0, .slice A1 l1.length c1] ?_; (with_reducible refine (insolvencyref1_order.calls k _ _ l0 _ _ l1 t544 _ ?side1 ?side2 ?side3 ?side4 A3.out).mono ?_); (case side1 => exact vs (Kd.V_reads' HO0.out).2.2); (case side2 => exact (Kd.V_reads' HO0.out).2.1); (case side3 => repeat (first | exact HR1.out | (with_reducible refine Kd.C_alloc ?_ _) | (with_reducible refine Kd.C_drewN ?_ _) | (with_reducible refine Kd.C_drew ?_))); (case side4 => exact HC1.out); rintro e w' ⟨rfl, ⟨nd, rfl⟩⟩; refine ⟨_, rfl, ?_⟩; have p545 : 0 ≤ (0 : Int) := (by omega); have q545 : 0 < (l1.length : Int) := oa; obtain ⟨ad545, e545, hx545_0⟩ := Kd.at_int HR1.out 0 p545 q545; cases e545; have qi545 : (0 < l1.length) = True := eq_true (by omega); (try rw [show ((0 : Int)).toNat = 0 from rfl] at hx545_0); (try rw [Addr.add_zero'] at hx545_0); replace p545 := eq_true p545; replace q545 := eq_true q545) | ((with_reducible refine gc 128 rfl ?_); refine gl (some 21) Tryz.func128 #[.slice A0 l0.length c0, .int .u32 (rd l1 0)] ?_; (with_reducible refine (insolvencyref1_short.calls k _ _ l0 (rd l1 0) t546 t549 _ ?side1 ?side2 A7.out).mono ?_); (case side1 => exact vs (Kd.V_reads' HO0.out).2.2); (case side2 => exact (Kd.V_reads' HO0.out).2.1); rintro e w9 ⟨v547, rfl, ho0, hb⟩; refine ⟨_, rfl, ?_⟩; replace HO0 := Aside0.mk (vb HO0.out hb); have HO548 := Aside0.mk (Kd.V_lower (Kd.V_mono (ok' := fun k_ => (P0_ k_ ∨ w.heap.size ≤ k_)) ho0 (fun k_ hk_ => (.inr (Nat.le_trans (sz HB.out) hk_)))) (sz HB.out)); replace HB := Aside0.mk (bs HB.out hb); (try clear hb ho0)) | ((with_reducible refine gd 26 rfl ?_); refine Kd.R_lit (Kd.int .u32) _ 52 ?hg (N := 26) ?hd (xs := ([t549] : List Int)) (inner := [.int .u32 t549]) (ok := fun _ => True) (okp := fun _ => True) ?hr ?hp (fun _ hk => hk) trivial (Below.refl _ _) (Nat.le_refl _) (by simp) ?_; (case hd => rfl); (case hg => rfl); (case hr => first | (go_simp; done) | (go_simp; rfl)); (case hp => exact (Reps.one (show Kd.M (Kd.int .u32) _ _ _ t549 [.int .u32 t549] from rfl) (Reps.none _ _))); intro v551 w10 ho11 hb hg_ hnew_; clear hg_ hnew_; (first | rw [← Ny550.out] at ho11 | (simp only [Int.reduceToNat] at ho11; rw [← Ny550.out] at ho11)); replace HO0 := Aside0.mk (Kd.V_elder' (vs HO0.out) (Kd.R_base ho11) hb); replace HO548 := Aside0.mk (Kd.V_elder' (vs HO548.out) (Kd.R_base ho11) hb); have HO552 := Aside0.mk (Kd.R_lower (Kd.R_newM (M := fun k_ => (w.heap.size ≤ k_)) ho11 (sz HB.out) (fun k_ h_ => h_)) (sz HB.out)); replace HB := Aside0.mk (bs HB.out hb); clear hb ho11; obtain ⟨Ao12, co12, eo12⟩ := Kd.R_slice HO552.out; subst eo12) | ((with_reducible refine gc 71 rfl ?_); refine gl (some 27) Tryz.func71 #[.slice Ao12 y550.length co12] ?_; (with_reducible refine (insolvencyref1_strip.calls k (fun k_ => some k_ = (.slice Ao12 y550.length co12 : Value).ownBlock) _ _ y550 t553 _ ?side1 A8.out).mono ?_); (case side1 => exact Kd.R_V (Kd.R_tight rfl (HO552.out))); rintro e w13 ⟨v554, rfl, ho0, hb⟩; refine ⟨_, rfl, ?_⟩; replace HO0 := Aside0.mk (vb HO0.out hb); replace HO548 := Aside0.mk (vb HO548.out hb); have HO555 := Aside0.mk (Kd.V_lower (Kd.V_mono (ok' := fun k_ => (P0_ k_ ∨ w.heap.size ≤ k_)) ho0 (fun k_ hk_ => Or.elim hk_ (fun hs_ => (.inr (((HO552.out).1 k_ hs_.symm).1))) (fun hn_ => (.inr (Nat.le_trans (sz HB.out) hn_))))) (sz HB.out)); replace HO552 := Aside0.mk (rb HO552.out hb); replace HB := Aside0.mk (bs HB.out hb); (try clear hb ho0)))
   go_ret2
   exact ⟨_, _, fe, vm HO548.out (fun _ hk => hk.1), vs HO555.out, bz HB.out⟩
  ·rw [if_neg c5] at H
   have c5b0 := beq_eq_false_iff_ne.mpr c5
   have c5b1 := bne_iff_ne.mpr c5
   obtain ⟨⟨t556, t559⟩, A14, H⟩ := bs1 H; dsimp only at H
   simp only [Option.some.injEq, Prod.mk.injEq] at H
   obtain ⟨rfl, rfl⟩ := H
   go_enter Tryz.func80, Tryz.ntmps80
   go_wp2_with (first | ((with_reducible refine gc 127 rfl ?_); refine gl (some 10) Tryz.func127 #[.slice A0 l0.length c0, .slice A1 l1.length c1] ?_; (with_reducible refine (insolvencyref1_order.calls k _ _ l0 _ _ l1 t544 _ ?side1 ?side2 ?side3 ?side4 A3.out).mono ?_); (case side1 => exact vs (Kd.V_reads' HO0.out).2.2); (case side2 => exact (Kd.V_reads' HO0.out).2.1); (case side3 => repeat (first | exact HR1.out | (with_reducible refine Kd.C_alloc ?_ _) | (with_reducible refine Kd.C_drewN ?_ _) | (with_reducible refine Kd.C_drew ?_))); (case side4 => exact HC1.out); rintro e w' ⟨rfl, ⟨nd, rfl⟩⟩; refine ⟨_, rfl, ?_⟩) | ((with_reducible refine gc 129 rfl ?_); refine gl (some 30) Tryz.func129 #[.slice A0 l0.length c0, .slice A1 l1.length c1] ?_; (with_reducible refine (insolvencyref1_long.calls k _ _ l0 _ _ l1 t556 t559 _ ?side1 ?side2 ?side3 ?side4 A14.out).mono ?_); (case side1 => exact vs (Kd.V_reads' HO0.out).2.2); (case side2 => exact (Kd.V_reads' HO0.out).2.1); (case side3 => repeat (first | exact HR1.out | (with_reducible refine Kd.C_alloc ?_ _) | (with_reducible refine Kd.C_drewN ?_ _) | (with_reducible refine Kd.C_drew ?_))); (case side4 => exact HC1.out); rintro e w15 ⟨v557, v560, rfl, ho0, ho1, hb⟩; refine ⟨_, rfl, ?_⟩; replace HO0 := Aside0.mk (vb HO0.out hb); have HO558 := Aside0.mk (Kd.V_lower (Kd.V_mono (ok' := fun k_ => (P0_ k_ ∨ w.heap.size ≤ k_)) ho0 (fun k_ hk_ => (.inr (Nat.le_trans (sz HB.out) hk_)))) (sz HB.out)); have HO561 := Aside0.mk (Kd.V_lower (Kd.V_mono (ok' := fun k_ => (P0_ k_ ∨ w.heap.size ≤ k_)) ho1 (fun k_ hk_ => (.inr (Nat.le_trans (sz HB.out) hk_)))) (sz HB.out)); replace HB := Aside0.mk (bs HB.out hb); (try clear hb ho0 ho1)))
   go_ret2
   exact ⟨_, _, fe, vs HO558.out, vs HO561.out, bz HB.out⟩

/-! ### insolvencyref1_Normalize: function 118 -/
def insolvencyref1_Normalize.l0 : Nat → ByteArray → Int → Option (ByteArray)
 | 0, _, _ => none
 | k + 1, x0, x3 => if x3 < (x0.size : Int) then (if 0 ≤ x3 then (if (bt x0 x3) = 0 then (insolvencyref1_Normalize.l0 k x0 (wrap64 (x3 + 1))) else (if x3 ≤ (x0.size : Int) then (some (x0.extract (x3 : Int).toNat x0.size)) else (none))) else (none)) else (if 0 ≤ x3 then (if x3 ≤ (x0.size : Int) then (some (x0.extract (x3 : Int).toNat x0.size)) else (none)) else (none))
def insolvencyref1_Normalize.f (k : Nat) (a0 : ByteArray) : Option (ByteArray) := insolvencyref1_Normalize.l0 k a0 0
theorem insolvencyref1_Normalize.mono_l : ∀ k, (∀ y0 y1, LeO (insolvencyref1_Normalize.l0 k y0 y1) (insolvencyref1_Normalize.l0 (k + 1) y0 y1))
 | 0 => fun _ _ r h => by simp [insolvencyref1_Normalize.l0] at h
 | k + 1 => by
  have ih0 := insolvencyref1_Normalize.mono_l k
  ·intro y0 y1
   unfold insolvencyref1_Normalize.l0
   repeat' with_reducible first | exact ih0 _ _ | exact LeO.refl _ | exact LeO.none _ | refine LeO.ite ?_ ?_ | refine LeO.bind ?_ (fun _ => ?_)
theorem insolvencyref1_Normalize.mono : ∀ a0 k, LeO (insolvencyref1_Normalize.f k a0) (insolvencyref1_Normalize.f (k + 1) a0) := by
 intro a0 k
 have ih0 := insolvencyref1_Normalize.mono_l k
 unfold insolvencyref1_Normalize.f
 repeat' with_reducible first | exact ih0 _ _ | exact LeO.refl _ | exact LeO.none _ | refine LeO.ite ?_ ?_ | refine LeO.bind ?_ (fun _ => ?_)
set_option maxHeartbeats 8000000 in
set_option maxRecDepth 100000 in
theorem insolvencyref1_Normalize.calls (k : Nat) (a0 : ByteArray) (r : ByteArray) (w : World) (h : insolvencyref1_Normalize.f k a0 = some r) :
  Calls Tryz.prog 118 #[.string a0] w fun e w' => e = .returned (.string r) ∧ Drawn0 w w' := by
 have H := h
 clear h
 unfold insolvencyref1_Normalize.f at H
 have H' := Aside0.mk H
 clear H
 go_enter Tryz.func118, Tryz.ntmps118
 go_wp2
 go_loopg [3] k (fun kq v3 w' => ∃ (x3_1 : Int), v3 = .int .i64 x3_1 ∧ Aside0 (insolvencyref1_Normalize.l0 kq a0 x3_1 = some r) ∧ Aside0 (kq ≤ k) ∧ Drawn0 w w')
 case atStart => exact ⟨(0), fs, H', ⟨Nat.le_refl _⟩, dz⟩
 case round =>
  clear H'
  obtain ⟨x3_1, rfl, HA, HK1, ⟨m1, rfl⟩⟩ := hrel
  cases gk with
  | zero => exact absurd HA.out (by simp [insolvencyref1_Normalize.l0])
  | succ k1 =>
   have H := HA.out
   clear HA
   simp only [insolvencyref1_Normalize.l0] at H
   by_cases c2 : x3_1 < (a0.size : Int)
   ·rw [if_pos c2] at H
    have c2b0 : decide (x3_1 < (a0.size : Int)) = true := decide_eq_true c2
    clear c2
    obtain ⟨c3, H⟩ := iN H
    have c3b0 : decide (0 ≤ x3_1) = true := decide_eq_true c3
    clear c3
    by_cases c5 : (bt a0 x3_1) = 0
    ·rw [if_pos c5] at H
     have c5b0 := beq_iff_eq.mpr c5
     have c5b1 := bne_eq_false_iff_eq.mpr c5
     clear c5
     have H' := Aside0.mk H
     clear H
     have p4 : 0 ≤ (x3_1 : Int) := oa
     have q4 : x3_1 < (a0.size : Int) := oa
     have hx4 := bt_at a0 x3_1
     replace p4 := eq_true p4
     replace q4 := eq_true q4
     go_wp2
     go_roundg k1
     case measure => have := HK1.out; omega
     case rel => exact ⟨(wrap64 (x3_1 + 1)), fs, H', ⟨by have := HK1.out; omega⟩, dz⟩
    ·rw [if_neg c5] at H
     have c5b0 := beq_eq_false_iff_ne.mpr c5
     have c5b1 := bne_iff_ne.mpr c5
     have c6b0 := eq_true (oa : 0 ≤ x3_1)
     obtain ⟨c7, H⟩ := iN H
     have c7b0 := eq_true c7
     have c7b1 : decide (x3_1 ≤ (a0.size : Int)) = true := decide_eq_true c7
     clear c7
     obtain rfl := Option.some.inj H
     have p4 : 0 ≤ (x3_1 : Int) := oa
     have q4 : x3_1 < (a0.size : Int) := oa
     have hx4 := bt_at a0 x3_1
     replace p4 := eq_true p4
     replace q4 := eq_true q4
     go_wp2
     go_ret
     exact ⟨fs, dz⟩
   ·rw [if_neg c2] at H
    have c2b0 : decide (x3_1 < (a0.size : Int)) = false := decide_eq_false c2
    clear c2
    obtain ⟨c8, H⟩ := iN H
    have c8b0 := eq_true c8
    have c8b1 : decide (0 ≤ x3_1) = true := decide_eq_true c8
    clear c8
    obtain ⟨c9, H⟩ := iN H
    have c9b0 := eq_true c9
    have c9b1 : decide (x3_1 ≤ (a0.size : Int)) = true := decide_eq_true c9
    clear c9
    obtain rfl := Option.some.inj H
    go_wp2
    go_ret
    exact ⟨fs, dz⟩

/-! ### insolvencyref1_text: function 97 -/
def insolvencyref1_text.l0 : Nat → List Int → List Int → Int → Option (ByteArray)
 | 0, _, _, _ => none
 | k + 1, x0, x3, x4 => if x4 ≥ 0 then (if 0 ≤ x4 then (if x4 < (x0.length : Int) then ((some (([((rd x0 x4) / 16777216) % 256, ((rd x0 x4) / 65536) % 256, ((rd x0 x4) / 256) % 256, (rd x0 x4) % 256] : List Int) : List Int)).bind fun y569 => (if x3.length + y569.length < 140737488355328 then (insolvencyref1_text.l0 k x0 (x3 ++ y569) (wrap64 (x4 - 1))) else (none))) else (none)) else (none)) else ((insolvencyref1_Normalize.f k (strOfNums x3)).bind fun t575 => (some t575))
def insolvencyref1_text.f (k : Nat) (l0 : List Int) : Option (ByteArray) := (insolvencyref1_strip.f k l0).bind fun t562 => (if 0 ≤ (wrap64 (4 * (t562.length : Int))) then (if (wrap64 (4 * (t562.length : Int)) : Int).toNat ≤ 281474976710656 then (insolvencyref1_text.l0 k t562 (([] : List Int)) (wrap64 ((t562.length : Int) - 1))) else (none)) else (none))
theorem insolvencyref1_text.mono_l : ∀ k, (∀ y0 y1 y2, LeO (insolvencyref1_text.l0 k y0 y1 y2) (insolvencyref1_text.l0 (k + 1) y0 y1 y2))
 | 0 => fun _ _ _ r h => by simp [insolvencyref1_text.l0] at h
 | k + 1 => by
  have ih0 := insolvencyref1_text.mono_l k
  ·intro y0 y1 y2
   unfold insolvencyref1_text.l0
   repeat' with_reducible first | exact ih0 _ _ _ | exact insolvencyref1_Normalize.mono _ _ | exact insolvencyref1_strip.mono _ _ | exact LeO.refl _ | exact LeO.none _ | refine LeO.ite ?_ ?_ | refine LeO.bind ?_ (fun _ => ?_)
theorem insolvencyref1_text.mono : ∀ a0 k, LeO (insolvencyref1_text.f k a0) (insolvencyref1_text.f (k + 1) a0) := by
 intro a0 k
 have ih0 := insolvencyref1_text.mono_l k
 unfold insolvencyref1_text.f
 repeat' with_reducible first | exact ih0 _ _ _ | exact insolvencyref1_Normalize.mono _ _ | exact insolvencyref1_strip.mono _ _ | exact LeO.refl _ | exact LeO.none _ | refine LeO.ite ?_ ?_ | refine LeO.bind ?_ (fun _ => ?_)
set_option maxHeartbeats 8000000 in
set_option maxRecDepth 100000 in
theorem insolvencyref1_text.calls (k : Nat) (A0 : Option Addr) (c0 : Nat) (l0 : List Int) (r : ByteArray) (w : World) (hr0 : Kd.C (Kd.int .u32) w A0 l0.length l0) (hc0 : l0.length ≤ c0) (h : insolvencyref1_text.f k l0 = some r) :
  Calls Tryz.prog 97 #[.slice A0 l0.length c0] w fun e w' => e = .returned (.string r) ∧ Below w.heap.size w w' := by
 have HR0 := Aside0.mk hr0
 have HC0 := Aside0.mk hc0
 clear hr0 hc0
 have HB := Aside0.mk (Below.refl w.heap.size w)
 have H := h
 clear h
 unfold insolvencyref1_text.f at H
 obtain ⟨t562, A2, H⟩ := bs1 H
 obtain ⟨ji3, hji3⟩ : ∃ j_ : Int, (wrap64 (4 * (t562.length : Int))) = j_ := ⟨_, rfl⟩
 first | rw [hji3] at H | simp only [hji3] at H
 (try rw [hji3] at A2)
 have hji3w : (IntKind.i64.wrap (4 * (t562.length : Int))) = ji3 := (i64_w _).trans hji3
 obtain ⟨c4, H⟩ := iN H
 have c4b0 := eq_true c4
 have c4b1 : decide (0 ≤ (ji3)) = true := decide_eq_true c4
 clear c4
 obtain ⟨c5, H⟩ := iN H
 have c5b0 := eq_true c5
 have c5b1 : decide ((ji3 : Int).toNat ≤ 281474976710656) = true := decide_eq_true c5
 clear c5
 obtain ⟨y565, hy565⟩ : ∃ y_ : List Int, y_ = (([] : List Int)) := ⟨_, rfl⟩
 (try first | rw [← hy565] at H | (dsimp only at H; rw [← hy565] at H)); (try rw [Option.bind_some] at H)
 have Ny565 := Aside0.mk hy565
 clear hy565
 have H' := Aside0.mk H
 clear H
 go_enter Tryz.func97, Tryz.ntmps97
 go_wp2_with (first | ((with_reducible refine gc 71 rfl ?_); refine gl (some 7) Tryz.func71 #[.slice A0 l0.length c0] ?_; (with_reducible refine (insolvencyref1_strip.calls k (fun k_ => k_ < w.heap.size) _ _ l0 t562 _ ?side1 A2.out).mono ?_); (case side1 => exact Kd.V_mk HC0.out (Kd.F_below (Kd.C_F (Kd.heap_int .u32) HR0.out) (bz HB.out))); rintro e w6 ⟨v563, rfl, ho0, hb⟩; refine ⟨_, rfl, ?_⟩; have HO564 := Aside0.mk (Kd.V_lower (Kd.V_mono (ok' := fun k_ => True) ho0 (fun k_ hk_ => trivial)) (sz HB.out)); replace HB := Aside0.mk (bs HB.out hb); (try clear hb ho0); obtain ⟨Ao7, co7, rfl⟩ := Kd.V_slice HO564.out) | ((with_reducible refine gd 11 rfl ?_); refine Kd.R_makecap (Kd.int .u8) _ 5 rfl (N := 11) rfl 57 _ _ rfl ji3 rfl rfl Tryz.underlying57 (.int .u8 0) 1 info5 rfl (by decide) (by omega) 0 (ok := fun _ => True) (okp := fun _ => True) rfl (fun _ hk => hk) trivial oa (Nat.le_trans (Nat.mul_le_mul_right _ (oa : ji3.toNat ≤ 281474976710656)) (by omega)) (Below.refl _ _) (Nat.le_refl _) ?_; intro v566 w8 ho9 hb hg_ hnew_; clear hg_ hnew_; (first | rw [← Ny565.out] at ho9 | (simp only [Int.reduceToNat] at ho9; rw [← Ny565.out] at ho9)); replace HO564 := Aside0.mk (Kd.V_elder' (vs HO564.out) (Kd.R_base ho9) hb); have HO567 := Aside0.mk (Kd.R_lower ho9 (sz HB.out)); replace HB := Aside0.mk (bs HB.out hb); clear hb ho9))
 go_loopg [3, 4] k (fun kq v3 v4 w' => ∃ (x3_1 : List Int) (x4_1 : Int), v4 = .int .i64 x4_1 ∧ Aside0 (insolvencyref1_text.l0 kq t562 x3_1 x4_1 = some r) ∧ Aside0 (kq ≤ k) ∧ Aside0 (Kd.V (Kd.int .u32) 52 w' w.heap.size (fun k_ => some k_ ≠ (v3 : Value).ownBlock) (.slice Ao7 t562.length co7) t562) ∧ Aside0 (Kd.R (Kd.int .u8) 5 w' w.heap.size (fun _ => True) v3 x3_1) ∧ Aside0 (Below w.heap.size w w'))
 case atStart => exact ⟨(y565), (wrap64 ((t562.length : Int) - 1)), fs, H', ⟨Nat.le_refl _⟩, ⟨vm HO564.out (fun _ hk => hk.2)⟩, ⟨vs HO567.out⟩, ⟨bz HB.out⟩⟩
 case round =>
  clear H'
  (try clear c4b0); (try clear c4b1); (try clear c5b0); (try clear c5b1)
  obtain ⟨x3_1, x4_1, rfl, HA, HK1, HO_0, HO_3, HB⟩ := hrel
  cases gk with
  | zero => exact absurd HA.out (by simp [insolvencyref1_text.l0])
  | succ k1 =>
   have H := HA.out
   clear HA
   simp only [insolvencyref1_text.l0] at H
   by_cases c10 : x4_1 ≥ 0
   ·rw [if_pos c10] at H
    have c10b0 : decide (0 ≤ x4_1) = true := decide_eq_true c10
    clear c10
    obtain ⟨c11, H⟩ := iN H
    have c11b0 : decide (0 ≤ x4_1) = true := decide_eq_true c11
    clear c11
    obtain ⟨c12, H⟩ := iN H
    have c12b0 : decide (x4_1 < (t562.length : Int)) = true := decide_eq_true c12
    clear c12
    obtain ⟨y569, hy569⟩ : ∃ y_ : List Int, y_ = (([((rd t562 x4_1) / 16777216) % 256, ((rd t562 x4_1) / 65536) % 256, ((rd t562 x4_1) / 256) % 256, (rd t562 x4_1) % 256] : List Int)) := ⟨_, rfl⟩
    (try first | rw [← hy569] at H | (dsimp only at H; rw [← hy569] at H)); (try rw [Option.bind_some] at H)
    have Ny569 := Aside0.mk hy569
    clear hy569
    obtain ⟨c13, H⟩ := iN H
    have LMc13 := Aside0.mk c13
    clear c13
    obtain ⟨y572, hy572⟩ : ∃ y_ : List Int, y_ = (x3_1 ++ y569) := ⟨_, rfl⟩
    (try first | rw [← hy572] at H | (dsimp only at H; rw [← hy572] at H)); (try rw [Option.bind_some] at H)
    have Ny572 := Aside0.mk hy572
    clear hy572
    have H' := Aside0.mk H
    clear H
    have p568 : 0 ≤ (x4_1 : Int) := oa
    have q568 : x4_1 < (t562.length : Int) := oa
    obtain ⟨ad568, e568, hx568_0⟩ := Kd.at_int (Kd.V_reads' HO_0.out).2.2 x4_1 p568 q568
    cases e568
    replace p568 := eq_true p568
    replace q568 := eq_true q568
    go_wp2_with (first | ((with_reducible refine gd 35 rfl ?_); refine Kd.R_lit (Kd.int .u8) _ 5 ?hg (N := 35) ?hd (xs := ([((rd t562 x4_1) / 16777216) % 256, ((rd t562 x4_1) / 65536) % 256, ((rd t562 x4_1) / 256) % 256, (rd t562 x4_1) % 256] : List Int)) (inner := [.int .u8 (((rd t562 x4_1) / 16777216) % 256), .int .u8 (((rd t562 x4_1) / 65536) % 256), .int .u8 (((rd t562 x4_1) / 256) % 256), .int .u8 ((rd t562 x4_1) % 256)]) (ok := fun _ => True) (okp := fun _ => True) ?hr ?hp (fun _ hk => hk) trivial (Below.refl _ _) (Nat.le_refl _) (by simp) ?_; (case hd => rfl); (case hg => rfl); (case hr => first | (go_simp; done) | (go_simp; rfl)); (case hp => exact (Reps.one (show Kd.M (Kd.int .u8) _ _ _ (((rd t562 x4_1) / 16777216) % 256) [.int .u8 (((rd t562 x4_1) / 16777216) % 256)] from rfl) (Reps.one (show Kd.M (Kd.int .u8) _ _ _ (((rd t562 x4_1) / 65536) % 256) [.int .u8 (((rd t562 x4_1) / 65536) % 256)] from rfl) (Reps.one (show Kd.M (Kd.int .u8) _ _ _ (((rd t562 x4_1) / 256) % 256) [.int .u8 (((rd t562 x4_1) / 256) % 256)] from rfl) (Reps.one (show Kd.M (Kd.int .u8) _ _ _ ((rd t562 x4_1) % 256) [.int .u8 ((rd t562 x4_1) % 256)] from rfl) (Reps.none _ _)))))); intro v570 w14 ho15 hb hg_ hnew_; clear hg_ hnew_; (first | rw [← Ny569.out] at ho15 | (simp only [Int.reduceToNat] at ho15; rw [← Ny569.out] at ho15)); replace HO_0 := Aside0.mk (Kd.V_elder' (vs HO_0.out) (Kd.R_base ho15) hb); have HO571 := Aside0.mk (Kd.R_lower (Kd.R_new' ho15 (Kd.R_lt (vs HO_3.out))) (sz HB.out)); replace HO_3 := Aside0.mk (Kd.R_elder' (vs HO_3.out) (Kd.R_base ho15) hb); replace HB := Aside0.mk (bs HB.out hb); clear hb ho15; obtain ⟨Ao17, co17, eo17⟩ := Kd.R_slice HO571.out; subst eo17) | ((with_reducible refine gate_builtin (b := .append) (xs := #[.tmp 23, .tmp 35]) rfl ?_); at_builtin; refine Kd.R_append_rows (Kd.int .u8) (w0 := w) w.heap.size rfl (.tmp 23) (.tmp 35) 57 5 (.int .u8 0) 1 rfl Tryz.underlying57 info5 rfl (by decide) (by omega) u3 x3_1 y569 _ _ _ (fun k_ => some k_ ≠ (.slice Ao17 y569.length co17 : Value).ownBlock) (fun _ => False) rfl rfl ?aO ?aR (fun _ _ h => h) (fun _ h => h.elim) ?aF ?aB ?aS ?aL ?_; (case aR => exact vs (Kd.R_reads' HO571.out).2.2); (case aB => exact (bz HB.out)); (case aF => exact (fun k_ hk => Kd.fresh' (Kd.R_lt (vs HO571.out)) k_ hk)); (case aO => exact (rm HO_3.out (fun _ hk => hk.2))); (case aS => exact (sz HB.out)); (case aL => have := LMc13.out; omega); intro v573 w16 ho hb hg hat; rw [← Ny572.out] at ho; replace HO_0 := Aside0.mk (Kd.V_afterv (ok := (fun k_ => some k_ ≠ (.slice Ao17 y569.length co17 : Value).ownBlock)) (vm HO_0.out (fun _ hk => ⟨hk.2, hk.1⟩)) hg hat); replace HO571 := Aside0.mk (Kd.R_after (ok := (fun _ => True)) (vs HO571.out) hg hat); replace HB := Aside0.mk (hb); have HO574 := Aside0.mk (ho); clear HO_3; clear ho hb hg hat))
    go_roundg k1
    case measure => have := HK1.out; omega
    case rel => exact ⟨(y572), (wrap64 (x4_1 - 1)), fs, H', ⟨by have := HK1.out; omega⟩, ⟨vm HO_0.out (fun _ hk => hk.2)⟩, ⟨rm HO574.out (fun _ hk => trivial)⟩, ⟨bz HB.out⟩⟩
   ·rw [if_neg c10] at H
    have c10b0 : decide (0 ≤ x4_1) = false := decide_eq_false c10
    clear c10
    obtain ⟨t575, A18, H⟩ := bs1 H
    obtain rfl := Option.some.inj H
    have hcv19 := own_string (P := Tryz.prog) Tryz.underlying57 Tryz.underlying5 Tryz.underlying9 (Kd.own_of_R HO_3.out)
    go_wp2_with (first | ((with_reducible refine gc 118 rfl ?_); refine gl (some 39) Tryz.func118 #[.string (strOfNums x3_1)] ?_; (with_reducible refine (insolvencyref1_Normalize.calls k1 (strOfNums x3_1) t575 _ A18.out).mono ?_); rintro e w' ⟨rfl, ⟨nd, rfl⟩⟩; refine ⟨_, rfl, ?_⟩))
    go_ret
    exact ⟨by first | rfl | (simp [errW_none, errW_some] <;> rfl) | (simp only [← hji3]; first | rfl | (simp [errW_none, errW_some] <;> rfl)) | (simp [*, errW_none, errW_some] <;> rfl), bz HB.out⟩

/-! ### insolvencyref1_common: function 114 -/
def insolvencyref1_common.l0 : Nat → List Int → List Int → Option (List Int)
 | 0, _, _ => none
 | k + 1, x0, x1 => if (x1.length : Int) > 0 then ((insolvencyref1_divide.f k x0 x1).bind fun bt576 => (insolvencyref1_common.l0 k x1 bt576.2)) else (some x0)
def insolvencyref1_common.f (k : Nat) (l0 : List Int) (l1 : List Int) : Option (List Int) := insolvencyref1_common.l0 k l0 l1
theorem insolvencyref1_common.mono_l : ∀ k, (∀ y0 y1, LeO (insolvencyref1_common.l0 k y0 y1) (insolvencyref1_common.l0 (k + 1) y0 y1))
 | 0 => fun _ _ r h => by simp [insolvencyref1_common.l0] at h
 | k + 1 => by
  have ih0 := insolvencyref1_common.mono_l k
  ·intro y0 y1
   unfold insolvencyref1_common.l0
   repeat' with_reducible first | exact ih0 _ _ | exact insolvencyref1_divide.mono _ _ _ | exact LeO.refl _ | exact LeO.none _ | refine LeO.ite ?_ ?_ | refine LeO.bind ?_ (fun _ => ?_)
theorem insolvencyref1_common.mono : ∀ a0 a1 k, LeO (insolvencyref1_common.f k a0 a1) (insolvencyref1_common.f (k + 1) a0 a1) := by
 intro a0 a1 k
 have ih0 := insolvencyref1_common.mono_l k
 unfold insolvencyref1_common.f
 repeat' with_reducible first | exact ih0 _ _ | exact insolvencyref1_divide.mono _ _ _ | exact LeO.refl _ | exact LeO.none _ | refine LeO.ite ?_ ?_ | refine LeO.bind ?_ (fun _ => ?_)
set_option maxHeartbeats 8000000 in
set_option maxRecDepth 100000 in
theorem insolvencyref1_common.calls (k : Nat) (P0_ : Nat → Prop) (A0 : Option Addr) (c0 : Nat) (l0 : List Int) (P1_ : Nat → Prop) (A1 : Option Addr) (c1 : Nat) (l1 : List Int) (r : List Int) (w : World) (hs0 : Kd.V (Kd.int .u32) 52 w w.heap.size (fun k_ => P0_ k_) (.slice A0 l0.length c0) l0) (hs1 : Kd.V (Kd.int .u32) 52 w w.heap.size (fun k_ => P1_ k_) (.slice A1 l1.length c1) l1) (h : insolvencyref1_common.f k l0 l1 = some r) :
  Calls Tryz.prog 114 #[.slice A0 l0.length c0, .slice A1 l1.length c1] w fun e w' => ∃ v0_ : Value, e = .returned (v0_) ∧ Kd.V (Kd.int .u32) 52 w' w.heap.size (fun k_ => ((P0_ k_ ∨ P1_ k_) ∨ w.heap.size ≤ k_)) v0_ r ∧ Below w.heap.size w w' := by
 have HO0 := Aside0.mk (show Kd.V (Kd.int .u32) 52 w w.heap.size (fun k_ => ((P0_ k_ ∨ P1_ k_) ∨ w.heap.size ≤ k_)) (.slice A0 l0.length c0) l0 from Kd.V_mono hs0 (fun k_ hk => .inl (.inl hk)))
 have HO1 := Aside0.mk (show Kd.V (Kd.int .u32) 52 w w.heap.size (fun k_ => ((P0_ k_ ∨ P1_ k_) ∨ w.heap.size ≤ k_)) (.slice A1 l1.length c1) l1 from Kd.V_mono hs1 (fun k_ hk => .inl (.inr hk)))
 have HB := Aside0.mk (Below.refl w.heap.size w)
 have H := h
 clear h
 unfold insolvencyref1_common.f at H
 have H' := Aside0.mk H
 clear H
 go_enter Tryz.func114, Tryz.ntmps114
 go_wp2
 go_loopg [0, 1] k (fun kq v0 v1 w' => ∃ (x0_1 : List Int) (x1_1 : List Int), Aside0 (insolvencyref1_common.l0 kq x0_1 x1_1 = some r) ∧ Aside0 (kq ≤ k) ∧ Aside0 (Kd.V (Kd.int .u32) 52 w' w.heap.size (fun k_ => ((P0_ k_ ∨ P1_ k_) ∨ w.heap.size ≤ k_)) v0 x0_1) ∧ Aside0 (Kd.V (Kd.int .u32) 52 w' w.heap.size (fun k_ => ((P0_ k_ ∨ P1_ k_) ∨ w.heap.size ≤ k_)) v1 x1_1) ∧ Aside0 (Below w.heap.size w w'))
 case atStart => exact ⟨(l0), (l1), H', ⟨Nat.le_refl _⟩, ⟨vs HO0.out⟩, ⟨vs HO1.out⟩, ⟨bz HB.out⟩⟩
 case round =>
  clear H'
  (try clear c1)
  obtain ⟨x0_1, x1_1, HA, HK1, HO_0, HO_1, HB⟩ := hrel
  cases gk with
  | zero => exact absurd HA.out (by simp [insolvencyref1_common.l0])
  | succ k1 =>
   have H := HA.out
   clear HA
   simp only [insolvencyref1_common.l0] at H
   by_cases c3 : (x1_1.length : Int) > 0
   ·rw [if_pos c3] at H
    have c3b0 : decide (0 < (x1_1.length : Int)) = true := decide_eq_true c3
    have c3b1 : decide (0 < x1_1.length) = true := decide_eq_true (by omega)
    clear c3
    obtain ⟨⟨t576, t579⟩, A4, H⟩ := bs1 H; dsimp only at H
    have H' := Aside0.mk H
    clear H
    obtain ⟨Ao5, co5, rfl⟩ := Kd.V_slice HO_1.out
    obtain ⟨Ao6, co6, rfl⟩ := Kd.V_slice HO_0.out
    go_wp2_with (first | ((with_reducible refine gc 80 rfl ?_); refine gl (some 13) Tryz.func80 #[.slice Ao6 x0_1.length co6, .slice Ao5 x1_1.length co5] ?_; (with_reducible refine (insolvencyref1_divide.calls k1 (fun k_ => ((P0_ k_ ∨ P1_ k_) ∨ w.heap.size ≤ k_)) _ _ x0_1 _ _ x1_1 t576 t579 _ ?side1 ?side2 ?side3 A4.out).mono ?_); (case side1 => exact HO_0.out); (case side2 => exact vs (Kd.V_reads' HO_1.out).2.2); (case side3 => exact (Kd.V_reads' HO_1.out).2.1); rintro e w7 ⟨v577, v580, rfl, ho0, ho1, hb⟩; refine ⟨_, rfl, ?_⟩; replace HO_0 := Aside0.mk (vb HO_0.out hb); replace HO_1 := Aside0.mk (vb HO_1.out hb); have HO578 := Aside0.mk (Kd.V_lower (Kd.V_mono (ok' := fun k_ => ((P0_ k_ ∨ P1_ k_) ∨ w.heap.size ≤ k_)) ho0 (fun k_ hk_ => Or.elim hk_ (fun hs_ => hs_) (fun hn_ => (.inr (Nat.le_trans (sz HB.out) hn_))))) (sz HB.out)); have HO581 := Aside0.mk (Kd.V_lower (Kd.V_mono (ok' := fun k_ => ((P0_ k_ ∨ P1_ k_) ∨ w.heap.size ≤ k_)) ho1 (fun k_ hk_ => Or.elim hk_ (fun hs_ => hs_) (fun hn_ => (.inr (Nat.le_trans (sz HB.out) hn_))))) (sz HB.out)); replace HB := Aside0.mk (bs HB.out hb); (try clear hb ho0 ho1)))
    go_roundg k1
    case measure => have := HK1.out; omega
    case rel => exact ⟨(x1_1), (t579), H', ⟨by have := HK1.out; omega⟩, ⟨vs HO_1.out⟩, ⟨vs HO581.out⟩, ⟨bz HB.out⟩⟩
   ·rw [if_neg c3] at H
    have c3b0 : decide (0 < (x1_1.length : Int)) = false := decide_eq_false c3
    have c3b1 : decide (0 < x1_1.length) = false := decide_eq_false (by omega)
    clear c3
    obtain rfl := Option.some.inj H
    obtain ⟨Ao8, co8, rfl⟩ := Kd.V_slice HO_1.out
    go_wp2
    go_ret
    exact ⟨_, fe, vs HO_0.out, bz HB.out⟩

/-! ### insolvencyref1_reduced: function 70 -/
mutual
def insolvencyref1_reduced.j0 : Nat → Bool → List Int → List Int → List Int → Bool → Option (Bool × ByteArray × ByteArray)
 | 0, _, _, _, _, _ => none
 | k + 1, x0, x1, x2, x7, x24 => if x24 = true then ((insolvencyref1_divide.f k x1 x7).bind fun bt587 => ((insolvencyref1_divide.f k x2 x7).bind fun bt593 => (insolvencyref1_reduced.j1 k x0 bt587.1 bt593.1))) else (insolvencyref1_reduced.j1 k x0 x1 x2)
def insolvencyref1_reduced.j1 : Nat → Bool → List Int → List Int → Option (Bool × ByteArray × ByteArray)
 | 0, _, _, _ => none
 | k + 1, x0, x1, x2 => (insolvencyref1_text.f k x1).bind fun t599 => (if (x2.length : Int) > 1 then ((insolvencyref1_text.f k x2).bind fun t601 => (some (x0, t599, t601))) else (if 0 < (x2.length : Int) then (if (rd x2 0) > 1 then ((insolvencyref1_text.f k x2).bind fun t603 => (some (x0, t599, t603))) else (some (x0, t599, (⟨#[]⟩ : ByteArray)))) else (none)))
end
def insolvencyref1_reduced.f (k : Nat) (a0 : Bool) (l1 : List Int) (l2 : List Int) : Option (Bool × ByteArray × ByteArray) := if (l1.length : Int) = 0 then (some (false, (⟨#[]⟩ : ByteArray), (⟨#[]⟩ : ByteArray))) else ((insolvencyref1_common.f k l1 l2).bind fun t583 => (if (t583.length : Int) > 1 then (insolvencyref1_reduced.j0 k a0 l1 l2 t583 true) else (if 0 < (t583.length : Int) then (insolvencyref1_reduced.j0 k a0 l1 l2 t583 (decide ((rd t583 0) > 1))) else (none))))
theorem insolvencyref1_reduced.mono_l : ∀ k, (∀ y0 y1 y2 y3 y4, LeO (insolvencyref1_reduced.j0 k y0 y1 y2 y3 y4) (insolvencyref1_reduced.j0 (k + 1) y0 y1 y2 y3 y4)) ∧ (∀ y0 y1 y2, LeO (insolvencyref1_reduced.j1 k y0 y1 y2) (insolvencyref1_reduced.j1 (k + 1) y0 y1 y2))
 | 0 => ⟨fun _ _ _ _ _ r h => by simp [insolvencyref1_reduced.j0] at h, fun _ _ _ r h => by simp [insolvencyref1_reduced.j1] at h⟩
 | k + 1 => by
  obtain ⟨ih0, ih1⟩ := insolvencyref1_reduced.mono_l k
  refine ⟨?_, ?_⟩
  ·intro y0 y1 y2 y3 y4
   unfold insolvencyref1_reduced.j0
   repeat' with_reducible first | exact ih0 _ _ _ _ _ | exact ih1 _ _ _ | exact insolvencyref1_common.mono _ _ _ | exact insolvencyref1_divide.mono _ _ _ | exact insolvencyref1_text.mono _ _ | exact LeO.refl _ | exact LeO.none _ | refine LeO.ite ?_ ?_ | refine LeO.bind ?_ (fun _ => ?_)
  ·intro y0 y1 y2
   unfold insolvencyref1_reduced.j1
   repeat' with_reducible first | exact ih0 _ _ _ _ _ | exact ih1 _ _ _ | exact insolvencyref1_common.mono _ _ _ | exact insolvencyref1_divide.mono _ _ _ | exact insolvencyref1_text.mono _ _ | exact LeO.refl _ | exact LeO.none _ | refine LeO.ite ?_ ?_ | refine LeO.bind ?_ (fun _ => ?_)
theorem insolvencyref1_reduced.mono : ∀ a0 a1 a2 k, LeO (insolvencyref1_reduced.f k a0 a1 a2) (insolvencyref1_reduced.f (k + 1) a0 a1 a2) := by
 intro a0 a1 a2 k
 obtain ⟨ih0, ih1⟩ := insolvencyref1_reduced.mono_l k
 unfold insolvencyref1_reduced.f
 repeat' with_reducible first | exact ih0 _ _ _ _ _ | exact ih1 _ _ _ | exact insolvencyref1_common.mono _ _ _ | exact insolvencyref1_divide.mono _ _ _ | exact insolvencyref1_text.mono _ _ | exact LeO.refl _ | exact LeO.none _ | refine LeO.ite ?_ ?_ | refine LeO.bind ?_ (fun _ => ?_)
set_option maxHeartbeats 8000000 in
set_option maxRecDepth 100000 in
theorem insolvencyref1_reduced.calls (k : Nat) (a0 : Bool) (P1_ : Nat → Prop) (A1 : Option Addr) (c1 : Nat) (l1 : List Int) (P2_ : Nat → Prop) (A2 : Option Addr) (c2 : Nat) (l2 : List Int) (r1 : Bool) (r2 : ByteArray) (r3 : ByteArray) (w : World) (hs1 : Kd.V (Kd.int .u32) 52 w w.heap.size (fun k_ => P1_ k_) (.slice A1 l1.length c1) l1) (hs2 : Kd.V (Kd.int .u32) 52 w w.heap.size (fun k_ => P2_ k_) (.slice A2 l2.length c2) l2) (h : insolvencyref1_reduced.f k a0 l1 l2 = some (r1, r2, r3)) :
  Calls Tryz.prog 70 #[.bool a0, .slice A1 l1.length c1, .slice A2 l2.length c2] w fun e w' => e = .returned (.agg #[.bool r1, .string r2, .string r3]) ∧ Below w.heap.size w w' := by
 have hu24 := Tryz.underlying24
 have HO1 := Aside0.mk (show Kd.V (Kd.int .u32) 52 w w.heap.size (fun k_ => ((P1_ k_ ∨ P2_ k_) ∨ w.heap.size ≤ k_)) (.slice A1 l1.length c1) l1 from Kd.V_mono hs1 (fun k_ hk => .inl (.inl hk)))
 have HO2 := Aside0.mk (show Kd.V (Kd.int .u32) 52 w w.heap.size (fun k_ => ((P1_ k_ ∨ P2_ k_) ∨ w.heap.size ≤ k_)) (.slice A2 l2.length c2) l2 from Kd.V_mono hs2 (fun k_ hk => .inl (.inr hk)))
 have HB := Aside0.mk (Below.refl w.heap.size w)
 have H := h
 clear h
 unfold insolvencyref1_reduced.f at H
 by_cases c4 : (l1.length : Int) = 0
 ·rw [if_pos c4] at H
  have c4b0 := beq_iff_eq.mpr c4
  have c4b1 := bne_eq_false_iff_eq.mpr c4
  clear c4
  simp only [Option.some.injEq, Prod.mk.injEq] at H
  obtain ⟨rfl, rfl, rfl⟩ := H
  go_enter Tryz.func70, Tryz.ntmps70
  go_wp2_with (first | ((with_reducible refine gd 6 rfl ?_); refine bx 6 (#[.bool false, .string (⟨#[]⟩ : ByteArray), .string (⟨#[]⟩ : ByteArray)]) 24 ?_; intro gb582 hg w5 hbox hb; replace HO1 := Aside0.mk (Kd.V_below (Kd.V_elderB (vs HO1.out) gb582 (Nat.le_of_eq hg.symm)) hb); replace HO2 := Aside0.mk (Kd.V_below (Kd.V_elderB (vs HO2.out) gb582 (Nat.le_of_eq hg.symm)) hb); have BK582 := Aside0.mk (hbox); have GW582 := sg hg HB.out; have GE582 := sg hg HB.out; replace HB := Aside0.mk (bs HB.out hb); clear hb hbox hg; obtain ⟨hcz6_0, hcz6_1, hcz6_2, hfz6_0, hfz6_1, hfz6_2⟩ := cz BK582.out))
  refine bodyPost_ret (results_cell_row rfl _ _ gb582 24 #[.bool false, .string (⟨#[]⟩ : ByteArray), .string (⟨#[]⟩ : ByteArray)] (0, 0) _ rfl (bq BK582.out) Tryz.underlying24 rfl (by kernel_rfl)) rfl ?_
  exact ⟨fe, bz HB.out⟩
 ·rw [if_neg c4] at H
  have c4b0 := beq_eq_false_iff_ne.mpr c4
  have c4b1 := bne_iff_ne.mpr c4
  have c4b2 : ¬ (l1 = []) := fun h_ => c4 (by rw [h_]; rfl)
  obtain ⟨t583, A7, H⟩ := bs1 H
  have HC8 := Aside0.mk H
  clear H
  go_enter Tryz.func70, Tryz.ntmps70
  (try (simp only [Exit.then]; refine (by assumption : ∀ (a : Act) (w : World), Code.wp _ _ _ a w → _) _ _ ?_))
  go_upto_region 4 with (first | ((with_reducible refine gd 6 rfl ?_); refine bx 6 (#[.bool false, .string (⟨#[]⟩ : ByteArray), .string (⟨#[]⟩ : ByteArray)]) 24 ?_; intro gb582 hg w9 hbox hb; replace HO1 := Aside0.mk (Kd.V_below (Kd.V_elderB (vs HO1.out) gb582 (Nat.le_of_eq hg.symm)) hb); replace HO2 := Aside0.mk (Kd.V_below (Kd.V_elderB (vs HO2.out) gb582 (Nat.le_of_eq hg.symm)) hb); have BK582 := Aside0.mk (hbox); have GW582 := sg hg HB.out; have GE582 := sg hg HB.out; replace HB := Aside0.mk (bs HB.out hb); clear hb hbox hg) | ((with_reducible refine gc 114 rfl ?_); refine gl (some 15) Tryz.func114 #[.slice A1 l1.length c1, .slice A2 l2.length c2] ?_; (with_reducible refine (insolvencyref1_common.calls k (fun k_ => (((P1_ k_ ∨ P2_ k_) ∨ w.heap.size ≤ k_) ∧ k_ ≠ gb582)) _ _ l1 (fun k_ => (((P1_ k_ ∨ P2_ k_) ∨ w.heap.size ≤ k_) ∧ k_ ≠ gb582)) _ _ l2 t583 _ ?side1 ?side2 A7.out).mono ?_); (case side1 => exact HO1.out); (case side2 => exact HO2.out); rintro e w10 ⟨v584, rfl, ho0, hb⟩; refine ⟨_, rfl, ?_⟩; replace HO1 := Aside0.mk (vb HO1.out hb); replace HO2 := Aside0.mk (vb HO2.out hb); have HO585 := Aside0.mk (Kd.V_lower (Kd.V_mono (ok' := fun k_ => ((P1_ k_ ∨ P2_ k_) ∨ w.heap.size ≤ k_) ∧ k_ ≠ gb582) ho0 (fun k_ hk_ => ⟨Or.elim hk_ (fun hs_ => Or.elim hs_ (fun hs_ => hs_.1) (fun hs_ => hs_.1)) (fun hn_ => (.inr (Nat.le_trans (sz HB.out) hn_))), Or.elim hk_ (fun hs_ => Or.elim hs_ (fun hs_ => hs_.2) (fun hs_ => hs_.2)) (fun hn_ => (Kd.freshB (g := gb582) (o := .cells #[.bool false, .string (⟨#[]⟩ : ByteArray), .string (⟨#[]⟩ : ByteArray)] 24 (0, 0)) (bq BK582.out) k_ hn_))⟩)) (sz HB.out)); replace BK582 := Aside0.mk (bk0 BK582.out hb); replace HB := Aside0.mk (bs HB.out hb); (try clear hb ho0)))
  (try simp only [Act.put, List.setIfInBounds_toArray, List.set_cons_zero, List.set_cons_succ])
  go_cut [24] (fun v24 wc => ∃ (kq : Nat) (x24_7 : Bool), v24 = .bool x24_7 ∧ Aside0 (insolvencyref1_reduced.j0 kq a0 l1 l2 t583 x24_7 = some (r1, r2, r3)) ∧ Aside0 (kq ≤ k) ∧ Aside0 (Kd.V (Kd.int .u32) 52 wc w.heap.size (fun k_ => ((P1_ k_ ∨ P2_ k_) ∨ w.heap.size ≤ k_) ∧ k_ ≠ gb582) (.slice A1 l1.length c1) l1) ∧ Aside0 (Kd.V (Kd.int .u32) 52 wc w.heap.size (fun k_ => ((P1_ k_ ∨ P2_ k_) ∨ w.heap.size ≤ k_) ∧ k_ ≠ gb582) (.slice A2 l2.length c2) l2) ∧ Aside0 (Kd.V (Kd.int .u32) 52 wc w.heap.size (fun k_ => ((P1_ k_ ∨ P2_ k_) ∨ w.heap.size ≤ k_) ∧ k_ ≠ gb582) v584 t583) ∧ Aside0 (wc.heap[gb582]? = some (.cells #[.bool false, .string (⟨#[]⟩ : ByteArray), .string (⟨#[]⟩ : ByteArray)] 24 (0, 0))) ∧ Aside0 (Below w.heap.size w wc))
  case first =>
   have H := HC8.out
   clear HC8
   by_cases c11 : (t583.length : Int) > 1
   ·rw [if_pos c11] at H
    have c11b0 : decide (1 < (t583.length : Int)) = true := decide_eq_true c11
    have c11b1 : decide (1 < t583.length) = true := decide_eq_true (by omega)
    clear c11
    (first | rw [c11b0] | (simp only [i64_w, i32_w]; rw [c11b0]) | skip)
    have H' := Aside0.mk H
    clear H
    obtain ⟨Ao12, co12, rfl⟩ := Kd.V_slice HO585.out
    go_wp2
    go_meet
    case rel => exact ⟨_, (true), fs, H', ⟨by first | omega | exact Nat.le_refl _⟩, ⟨vs HO1.out⟩, ⟨vs HO2.out⟩, ⟨vs HO585.out⟩, ⟨bq BK582.out⟩, ⟨bz HB.out⟩⟩
   ·rw [if_neg c11] at H
    have c11b0 : decide (1 < (t583.length : Int)) = false := decide_eq_false c11
    have c11b1 : decide (1 < t583.length) = false := decide_eq_false (by omega)
    clear c11
    (first | rw [c11b0] | (simp only [i64_w, i32_w]; rw [c11b0]) | skip)
    obtain ⟨c13, H⟩ := iN H
    have c13b0 : decide (0 < (t583.length : Int)) = true := decide_eq_true c13
    have c13b1 : decide (0 < t583.length) = true := decide_eq_true (by omega)
    clear c13
    have H' := Aside0.mk H
    clear H
    obtain ⟨Ao14, co14, rfl⟩ := Kd.V_slice HO585.out
    have p586 : 0 ≤ (0 : Int) := (by omega)
    have q586 : 0 < (t583.length : Int) := oa
    obtain ⟨ad586, e586, hx586_0⟩ := Kd.at_int (Kd.V_reads' HO585.out).2.2 0 p586 q586
    cases e586
    have qi586 : (0 < t583.length) = True := eq_true (by omega)
    (try rw [show ((0 : Int)).toNat = 0 from rfl] at hx586_0)
    (try rw [Addr.add_zero'] at hx586_0)
    replace p586 := eq_true p586
    replace q586 := eq_true q586
    go_wp2
    go_meet
    case rel => exact ⟨_, (decide ((rd t583 0) > 1)), fs, H', ⟨by first | omega | exact Nat.le_refl _⟩, ⟨vs HO1.out⟩, ⟨vs HO2.out⟩, ⟨vs HO585.out⟩, ⟨bq BK582.out⟩, ⟨bz HB.out⟩⟩
  case rest =>
   clear HC8
   (try clear c1); (try clear c2); (try clear c4b0); (try clear c4b1); (try clear c4b2); (try clear c11b0); (try clear c11b1); (try clear c13b0); (try clear c13b1); (try clear hcz6_0); (try clear hcz6_1); (try clear hcz6_2); (try clear hfz6_0); (try clear hfz6_1); (try clear hfz6_2); (try clear hx586_0); (try clear p586); (try clear q586)
   obtain ⟨kq, x24_7, rfl, HA, HJ7, HO_1, HO_2, HO_7, BK582, HB⟩ := hcut
   cases kq with
   | zero => exact absurd HA.out (by simp [insolvencyref1_reduced.j0])
   | succ kj7 =>
    have H := HA.out
    clear HA
    simp only [insolvencyref1_reduced.j0] at H
    have HC15 := Aside0.mk H
    clear H
    (try (simp only [Exit.then]; refine (by assumption : ∀ (a : Act) (w : World), Code.wp _ _ _ a w → _) _ _ ?_))
    go_upto_if 24 with (fail)
    go_cut [1, 2] (fun v1 v2 wc => ∃ (kq : Nat) (x1_14 : List Int) (x2_14 : List Int), Aside0 (insolvencyref1_reduced.j1 kq a0 x1_14 x2_14 = some (r1, r2, r3)) ∧ Aside0 (kq ≤ kj7) ∧ Aside0 (Kd.V (Kd.int .u32) 52 wc w.heap.size (fun k_ => ((P1_ k_ ∨ P2_ k_) ∨ w.heap.size ≤ k_) ∧ k_ ≠ gb582) v1 x1_14) ∧ Aside0 (Kd.V (Kd.int .u32) 52 wc w.heap.size (fun k_ => ((P1_ k_ ∨ P2_ k_) ∨ w.heap.size ≤ k_) ∧ k_ ≠ gb582) v2 x2_14) ∧ Aside0 (wc.heap[gb582]? = some (.cells #[.bool false, .string (⟨#[]⟩ : ByteArray), .string (⟨#[]⟩ : ByteArray)] 24 (0, 0))) ∧ Aside0 (Below w.heap.size w wc))
    case first =>
     have H := HC15.out
     clear HC15
     by_cases c16 : x24_7 = true
     ·subst c16
      have H1 : ((insolvencyref1_divide.f kj7 l1 t583).bind fun bt587 => ((insolvencyref1_divide.f kj7 l2 t583).bind fun bt593 => (insolvencyref1_reduced.j1 kj7 a0 bt587.1 bt593.1))) = some (r1, r2, r3) := by rw [if_pos rfl] at H; exact H
      clear H
      have H := H1
      clear H1
      obtain ⟨⟨t587, t590⟩, A17, H⟩ := bs1 H; dsimp only at H
      obtain ⟨⟨t593, t596⟩, A18, H⟩ := bs1 H; dsimp only at H
      have H' := Aside0.mk H
      clear H
      obtain ⟨Ao19, co19, rfl⟩ := Kd.V_slice HO_7.out
      go_wp2_with (first | ((with_reducible refine gc 80 rfl ?_); refine gl (some 28) Tryz.func80 #[.slice A1 l1.length c1, .slice Ao19 t583.length co19] ?_; (with_reducible refine (insolvencyref1_divide.calls kj7 (fun k_ => (((P1_ k_ ∨ P2_ k_) ∨ w.heap.size ≤ k_) ∧ k_ ≠ gb582)) _ _ l1 _ _ t583 t587 t590 _ ?side1 ?side2 ?side3 A17.out).mono ?_); (case side1 => exact HO_1.out); (case side2 => exact vs (Kd.V_reads' HO_7.out).2.2); (case side3 => exact (Kd.V_reads' HO_7.out).2.1); rintro e w20 ⟨v588, v591, rfl, ho0, ho1, hb⟩; refine ⟨_, rfl, ?_⟩; replace HO_1 := Aside0.mk (vb HO_1.out hb); replace HO_2 := Aside0.mk (vb HO_2.out hb); replace HO_7 := Aside0.mk (vb HO_7.out hb); have HO589 := Aside0.mk (Kd.V_lower (Kd.V_mono (ok' := fun k_ => ((P1_ k_ ∨ P2_ k_) ∨ w.heap.size ≤ k_) ∧ k_ ≠ gb582) ho0 (fun k_ hk_ => ⟨Or.elim hk_ (fun hs_ => hs_.1) (fun hn_ => (.inr (Nat.le_trans (sz HB.out) hn_))), Or.elim hk_ (fun hs_ => hs_.2) (fun hn_ => (Kd.freshB (g := gb582) (o := .cells #[.bool false, .string (⟨#[]⟩ : ByteArray), .string (⟨#[]⟩ : ByteArray)] 24 (0, 0)) (bq BK582.out) k_ hn_))⟩)) (sz HB.out)); have HO592 := Aside0.mk (Kd.V_lower (Kd.V_mono (ok' := fun k_ => ((P1_ k_ ∨ P2_ k_) ∨ w.heap.size ≤ k_) ∧ k_ ≠ gb582) ho1 (fun k_ hk_ => ⟨Or.elim hk_ (fun hs_ => hs_.1) (fun hn_ => (.inr (Nat.le_trans (sz HB.out) hn_))), Or.elim hk_ (fun hs_ => hs_.2) (fun hn_ => (Kd.freshB (g := gb582) (o := .cells #[.bool false, .string (⟨#[]⟩ : ByteArray), .string (⟨#[]⟩ : ByteArray)] 24 (0, 0)) (bq BK582.out) k_ hn_))⟩)) (sz HB.out)); replace BK582 := Aside0.mk (bk0 BK582.out hb); replace HB := Aside0.mk (bs HB.out hb); (try clear hb ho0 ho1)) | ((with_reducible refine gc 80 rfl ?_); refine gl (some 34) Tryz.func80 #[.slice A2 l2.length c2, .slice Ao19 t583.length co19] ?_; (with_reducible refine (insolvencyref1_divide.calls kj7 (fun k_ => (((P1_ k_ ∨ P2_ k_) ∨ w.heap.size ≤ k_) ∧ k_ ≠ gb582)) _ _ l2 _ _ t583 t593 t596 _ ?side1 ?side2 ?side3 A18.out).mono ?_); (case side1 => exact HO_2.out); (case side2 => exact vs (Kd.V_reads' HO_7.out).2.2); (case side3 => exact (Kd.V_reads' HO_7.out).2.1); rintro e w21 ⟨v594, v597, rfl, ho0, ho1, hb⟩; refine ⟨_, rfl, ?_⟩; replace HO_1 := Aside0.mk (vb HO_1.out hb); replace HO_2 := Aside0.mk (vb HO_2.out hb); replace HO_7 := Aside0.mk (vb HO_7.out hb); replace HO589 := Aside0.mk (vb HO589.out hb); replace HO592 := Aside0.mk (vb HO592.out hb); have HO595 := Aside0.mk (Kd.V_lower (Kd.V_mono (ok' := fun k_ => ((P1_ k_ ∨ P2_ k_) ∨ w.heap.size ≤ k_) ∧ k_ ≠ gb582) ho0 (fun k_ hk_ => ⟨Or.elim hk_ (fun hs_ => hs_.1) (fun hn_ => (.inr (Nat.le_trans (sz HB.out) hn_))), Or.elim hk_ (fun hs_ => hs_.2) (fun hn_ => (Kd.freshB (g := gb582) (o := .cells #[.bool false, .string (⟨#[]⟩ : ByteArray), .string (⟨#[]⟩ : ByteArray)] 24 (0, 0)) (bq BK582.out) k_ hn_))⟩)) (sz HB.out)); have HO598 := Aside0.mk (Kd.V_lower (Kd.V_mono (ok' := fun k_ => ((P1_ k_ ∨ P2_ k_) ∨ w.heap.size ≤ k_) ∧ k_ ≠ gb582) ho1 (fun k_ hk_ => ⟨Or.elim hk_ (fun hs_ => hs_.1) (fun hn_ => (.inr (Nat.le_trans (sz HB.out) hn_))), Or.elim hk_ (fun hs_ => hs_.2) (fun hn_ => (Kd.freshB (g := gb582) (o := .cells #[.bool false, .string (⟨#[]⟩ : ByteArray), .string (⟨#[]⟩ : ByteArray)] 24 (0, 0)) (bq BK582.out) k_ hn_))⟩)) (sz HB.out)); replace BK582 := Aside0.mk (bk0 BK582.out hb); replace HB := Aside0.mk (bs HB.out hb); (try clear hb ho0 ho1)))
      go_meet
      case rel => exact ⟨_, (t587), (t593), H', ⟨by have := HJ7.out; first | omega | exact Nat.le_refl _⟩, ⟨vs HO589.out⟩, ⟨vs HO595.out⟩, ⟨bq BK582.out⟩, ⟨bz HB.out⟩⟩
     ·replace c16 := Bool.eq_false_iff.mpr c16
      subst c16
      have H1 : (insolvencyref1_reduced.j1 kj7 a0 l1 l2) = some (r1, r2, r3) := by rw [if_neg (show ¬ (false = true) by decide)] at H; exact H
      clear H
      have H := H1
      clear H1
      have H' := Aside0.mk H
      clear H
      go_wp2
      go_meet
      case rel => exact ⟨_, (l1), (l2), H', ⟨by have := HJ7.out; first | omega | exact Nat.le_refl _⟩, ⟨vs HO_1.out⟩, ⟨vs HO_2.out⟩, ⟨bq BK582.out⟩, ⟨bz HB.out⟩⟩
    case rest =>
     clear HC15
     (try clear c1); (try clear c2); (try clear c4b0); (try clear c4b1); (try clear c4b2); (try clear c11b0); (try clear c11b1); (try clear c13b0); (try clear c13b1); (try clear c16); (try clear hcz6_0); (try clear hcz6_1); (try clear hcz6_2); (try clear hfz6_0); (try clear hfz6_1); (try clear hfz6_2); (try clear hx586_0); (try clear p586); (try clear q586)
     obtain ⟨kq, x1_14, x2_14, HA, HJ14, HO_1, HO_2, BK582, HB⟩ := hcut
     cases kq with
     | zero => exact absurd HA.out (by simp [insolvencyref1_reduced.j1])
     | succ kj14 =>
      have H := HA.out
      clear HA
      simp only [insolvencyref1_reduced.j1] at H
      obtain ⟨t599, A22, H⟩ := bs1 H
      by_cases c23 : (x2_14.length : Int) > 1
      ·rw [if_pos c23] at H
       have c23b0 : decide (1 < (x2_14.length : Int)) = true := decide_eq_true c23
       have c23b1 : decide (1 < x2_14.length) = true := decide_eq_true (by omega)
       clear c23
       obtain ⟨t601, A24, H⟩ := bs1 H
       simp only [Option.some.injEq, Prod.mk.injEq] at H
       obtain ⟨rfl, rfl, rfl⟩ := H
       obtain ⟨Ao25, co25, rfl⟩ := Kd.V_slice HO_1.out
       go_wp2_with (first | ((with_reducible refine gc 97 rfl ?_); refine gl (some 39) Tryz.func97 #[.slice Ao25 x1_14.length co25] ?_; (with_reducible refine (insolvencyref1_text.calls kj14 _ _ x1_14 t599 _ ?side1 ?side2 A22.out).mono ?_); (case side1 => exact vs (Kd.V_reads' HO_1.out).2.2); (case side2 => exact (Kd.V_reads' HO_1.out).2.1); rintro e w26 ⟨rfl, hb⟩; refine ⟨_, rfl, ?_⟩; replace HO_1 := Aside0.mk (vb HO_1.out hb); replace HO_2 := Aside0.mk (vb HO_2.out hb); replace BK582 := Aside0.mk (bk0 BK582.out hb); replace HB := Aside0.mk (bs HB.out hb); (try clear hb)) | ((with_reducible refine gd 8 rfl ?_); refine bx 8 (#[.bool false, .string (⟨#[]⟩ : ByteArray), .string (⟨#[]⟩ : ByteArray)]) 24 ?_; intro gb600 hg w27 hbox hb; replace HO_1 := Aside0.mk (Kd.V_below (Kd.V_elderB (vs HO_1.out) gb600 (Nat.le_of_eq hg.symm)) hb); replace HO_2 := Aside0.mk (Kd.V_below (Kd.V_elderB (vs HO_2.out) gb600 (Nat.le_of_eq hg.symm)) hb); have BK600 := Aside0.mk (hbox); have GW600 := sg hg HB.out; have GE600 := sg hg HB.out; replace HB := Aside0.mk (bs HB.out hb); have NB582_600 := nl hg BK582.out; have NB600_582 := nr hg BK582.out; replace BK582 := Aside0.mk (bk0 BK582.out hb); clear hb hbox hg; have hnb28 := NB600_582.out; have hnc28 := NB582_600.out; obtain ⟨hcz29_0, hcz29_1, hcz29_2, hfz29_0, hfz29_1, hfz29_2⟩ := cz BK600.out; obtain ⟨Ao30, co30, rfl⟩ := Kd.V_slice HO_2.out) | ((with_reducible refine gc 97 rfl ?_); refine gl (some 51) Tryz.func97 #[.slice Ao30 x2_14.length co30] ?_; (with_reducible refine (insolvencyref1_text.calls kj14 _ _ x2_14 t601 _ ?side1 ?side2 A24.out).mono ?_); (case side1 => refine (Kd.V_reads' (e := 52) (base := w.heap.size) (ok := fun k_ => ((((P1_ k_ ∨ P2_ k_) ∨ w.heap.size ≤ k_) ∧ k_ ≠ gb582) ∧ k_ ≠ gb600)) (n := x2_14.length) (c := co30) ?_).2.2; exact (vs ((Kd.V_mono (Kd.V_far (p := ⟨gb600, 2, none⟩) (Kd.V_far (p := ⟨gb600, 1, none⟩) (Kd.V_far (p := ⟨gb600, 0, none⟩) (Kd.V_mono HO_2.out (fun k_ hk => (⟨hk, hk.2⟩ : _ ∧ k_ ≠ gb600))) (fun _ hk => hk.2) (.bool a0)) (fun _ hk => hk.2) (.string t599)) (fun _ hk => hk.2) (.string (⟨#[]⟩ : ByteArray))) (fun _ h_ => h_.1))))); (case side2 => exact (Kd.V_reads' HO_2.out).2.1); rintro e w31 ⟨rfl, hb⟩; refine ⟨_, rfl, ?_⟩; replace HO_1 := Aside0.mk (Kd.V_below (vs ((Kd.V_mono (Kd.V_far (p := ⟨gb600, 2, none⟩) (Kd.V_far (p := ⟨gb600, 1, none⟩) (Kd.V_far (p := ⟨gb600, 0, none⟩) (Kd.V_mono HO_1.out (fun k_ hk => (⟨hk, hk.2⟩ : _ ∧ k_ ≠ gb600))) (fun _ hk => hk.2) (.bool a0)) (fun _ hk => hk.2) (.string t599)) (fun _ hk => hk.2) (.string (⟨#[]⟩ : ByteArray))) (fun _ h_ => h_.1)))) hb); replace HO_2 := Aside0.mk (Kd.V_below (vs ((Kd.V_mono (Kd.V_far (p := ⟨gb600, 2, none⟩) (Kd.V_far (p := ⟨gb600, 1, none⟩) (Kd.V_far (p := ⟨gb600, 0, none⟩) (Kd.V_mono HO_2.out (fun k_ hk => (⟨hk, hk.2⟩ : _ ∧ k_ ≠ gb600))) (fun _ hk => hk.2) (.bool a0)) (fun _ hk => hk.2) (.string t599)) (fun _ hk => hk.2) (.string (⟨#[]⟩ : ByteArray))) (fun _ h_ => h_.1)))) hb); replace BK582 := Aside0.mk (bk0 BK582.out hb); replace BK600 := Aside0.mk (bk BK600.out hb (.cells #[.bool a0, .string t599, .string (⟨#[]⟩ : ByteArray)] 24 (0, 0))); replace HB := Aside0.mk (bs HB.out hb); (try clear hb); obtain ⟨hcz32_0, hcz32_1, hcz32_2, hfz32_0, hfz32_1, hfz32_2⟩ := cz BK600.out; obtain ⟨hcz33_0, hcz33_1, hcz33_2, hfz33_0, hfz33_1, hfz33_2⟩ := cz BK582.out))
       refine bodyPost_ret (results_cell_row rfl _ _ gb582 24 #[.bool a0, .string t599, .string t601] (0, 0) _ rfl (bq BK582.out) Tryz.underlying24 rfl (by kernel_rfl)) rfl ?_
       exact ⟨fe, bz HB.out⟩
      ·rw [if_neg c23] at H
       have c23b0 : decide (1 < (x2_14.length : Int)) = false := decide_eq_false c23
       have c23b1 : decide (1 < x2_14.length) = false := decide_eq_false (by omega)
       clear c23
       obtain ⟨c34, H⟩ := iN H
       have c34b0 : decide (0 < (x2_14.length : Int)) = true := decide_eq_true c34
       have c34b1 : decide (0 < x2_14.length) = true := decide_eq_true (by omega)
       clear c34
       by_cases c35 : (rd x2_14 0) > 1
       ·rw [if_pos c35] at H
        have c35b0 : decide (1 < (rd x2_14 0)) = true := decide_eq_true c35
        clear c35
        obtain ⟨t603, A36, H⟩ := bs1 H
        simp only [Option.some.injEq, Prod.mk.injEq] at H
        obtain ⟨rfl, rfl, rfl⟩ := H
        obtain ⟨Ao37, co37, rfl⟩ := Kd.V_slice HO_1.out
        go_wp2_with (first | ((with_reducible refine gc 97 rfl ?_); refine gl (some 39) Tryz.func97 #[.slice Ao37 x1_14.length co37] ?_; (with_reducible refine (insolvencyref1_text.calls kj14 _ _ x1_14 t599 _ ?side1 ?side2 A22.out).mono ?_); (case side1 => exact vs (Kd.V_reads' HO_1.out).2.2); (case side2 => exact (Kd.V_reads' HO_1.out).2.1); rintro e w38 ⟨rfl, hb⟩; refine ⟨_, rfl, ?_⟩; replace HO_1 := Aside0.mk (vb HO_1.out hb); replace HO_2 := Aside0.mk (vb HO_2.out hb); replace BK582 := Aside0.mk (bk0 BK582.out hb); replace HB := Aside0.mk (bs HB.out hb); (try clear hb)) | ((with_reducible refine gd 8 rfl ?_); refine bx 8 (#[.bool false, .string (⟨#[]⟩ : ByteArray), .string (⟨#[]⟩ : ByteArray)]) 24 ?_; intro gb600 hg w39 hbox hb; replace HO_1 := Aside0.mk (Kd.V_below (Kd.V_elderB (vs HO_1.out) gb600 (Nat.le_of_eq hg.symm)) hb); replace HO_2 := Aside0.mk (Kd.V_below (Kd.V_elderB (vs HO_2.out) gb600 (Nat.le_of_eq hg.symm)) hb); have BK600 := Aside0.mk (hbox); have GW600 := sg hg HB.out; have GE600 := sg hg HB.out; replace HB := Aside0.mk (bs HB.out hb); have NB582_600 := nl hg BK582.out; have NB600_582 := nr hg BK582.out; replace BK582 := Aside0.mk (bk0 BK582.out hb); clear hb hbox hg; have hnb40 := NB600_582.out; have hnc40 := NB582_600.out; obtain ⟨hcz41_0, hcz41_1, hcz41_2, hfz41_0, hfz41_1, hfz41_2⟩ := cz BK600.out; obtain ⟨Ao42, co42, rfl⟩ := Kd.V_slice HO_2.out; have p602 : 0 ≤ (0 : Int) := (by omega); have q602 : 0 < (x2_14.length : Int) := oa; obtain ⟨ad602, e602, hx602_0⟩ := Kd.at_int (Kd.V_reads' HO_2.out).2.2 0 p602 q602; cases e602; have qi602 : (0 < x2_14.length) = True := eq_true (by omega); (try rw [show ((0 : Int)).toNat = 0 from rfl] at hx602_0); (try rw [Addr.add_zero'] at hx602_0); have hn602_0 : ad602.block ≠ gb600 := (Kd.V_in HO_2.out (by omega) (by decide)).2; have hn602_1 : ad602.block ≠ gb600 := (Kd.V_in HO_2.out (by omega) (by decide)).2; have hn602_2 : ad602.block ≠ gb600 := (Kd.V_in HO_2.out (by omega) (by decide)).2; replace hx602_0 := (cell_far (p := ⟨gb600, 0, none⟩) (by first | (rw [add_block]; exact hn602_0) | (show (Addr.add _ _).block ≠ _; rw [add_block]; exact hn602_0) | exact hn602_0) (.bool a0)).trans hx602_0; replace hx602_0 := (cell_far (p := ⟨gb600, 1, none⟩) (by first | (rw [add_block]; exact hn602_1) | (show (Addr.add _ _).block ≠ _; rw [add_block]; exact hn602_1) | exact hn602_1) (.string t599)).trans hx602_0; replace hx602_0 := (cell_far (p := ⟨gb600, 2, none⟩) (by first | (rw [add_block]; exact hn602_2) | (show (Addr.add _ _).block ≠ _; rw [add_block]; exact hn602_2) | exact hn602_2) (.string (⟨#[]⟩ : ByteArray))).trans hx602_0; clear hn602_0; clear hn602_1; clear hn602_2; replace p602 := eq_true p602; replace q602 := eq_true q602) | ((with_reducible refine gc 97 rfl ?_); refine gl (some 51) Tryz.func97 #[.slice (some ad602) x2_14.length co42] ?_; (with_reducible refine (insolvencyref1_text.calls kj14 _ _ x2_14 t603 _ ?side1 ?side2 A36.out).mono ?_); (case side1 => refine (Kd.V_reads' (e := 52) (base := w.heap.size) (ok := fun k_ => ((((P1_ k_ ∨ P2_ k_) ∨ w.heap.size ≤ k_) ∧ k_ ≠ gb582) ∧ k_ ≠ gb600)) (n := x2_14.length) (c := co42) ?_).2.2; exact (vs ((Kd.V_mono (Kd.V_far (p := ⟨gb600, 2, none⟩) (Kd.V_far (p := ⟨gb600, 1, none⟩) (Kd.V_far (p := ⟨gb600, 0, none⟩) (Kd.V_mono HO_2.out (fun k_ hk => (⟨hk, hk.2⟩ : _ ∧ k_ ≠ gb600))) (fun _ hk => hk.2) (.bool a0)) (fun _ hk => hk.2) (.string t599)) (fun _ hk => hk.2) (.string (⟨#[]⟩ : ByteArray))) (fun _ h_ => h_.1))))); (case side2 => exact (Kd.V_reads' HO_2.out).2.1); rintro e w43 ⟨rfl, hb⟩; refine ⟨_, rfl, ?_⟩; replace HO_1 := Aside0.mk (Kd.V_below (vs ((Kd.V_mono (Kd.V_far (p := ⟨gb600, 2, none⟩) (Kd.V_far (p := ⟨gb600, 1, none⟩) (Kd.V_far (p := ⟨gb600, 0, none⟩) (Kd.V_mono HO_1.out (fun k_ hk => (⟨hk, hk.2⟩ : _ ∧ k_ ≠ gb600))) (fun _ hk => hk.2) (.bool a0)) (fun _ hk => hk.2) (.string t599)) (fun _ hk => hk.2) (.string (⟨#[]⟩ : ByteArray))) (fun _ h_ => h_.1)))) hb); replace HO_2 := Aside0.mk (Kd.V_below (vs ((Kd.V_mono (Kd.V_far (p := ⟨gb600, 2, none⟩) (Kd.V_far (p := ⟨gb600, 1, none⟩) (Kd.V_far (p := ⟨gb600, 0, none⟩) (Kd.V_mono HO_2.out (fun k_ hk => (⟨hk, hk.2⟩ : _ ∧ k_ ≠ gb600))) (fun _ hk => hk.2) (.bool a0)) (fun _ hk => hk.2) (.string t599)) (fun _ hk => hk.2) (.string (⟨#[]⟩ : ByteArray))) (fun _ h_ => h_.1)))) hb); replace BK582 := Aside0.mk (bk0 BK582.out hb); replace BK600 := Aside0.mk (bk BK600.out hb (.cells #[.bool a0, .string t599, .string (⟨#[]⟩ : ByteArray)] 24 (0, 0))); replace HB := Aside0.mk (bs HB.out hb); (try clear hb); obtain ⟨hcz44_0, hcz44_1, hcz44_2, hfz44_0, hfz44_1, hfz44_2⟩ := cz BK600.out; obtain ⟨hcz45_0, hcz45_1, hcz45_2, hfz45_0, hfz45_1, hfz45_2⟩ := cz BK582.out))
        refine bodyPost_ret (results_cell_row rfl _ _ gb582 24 #[.bool a0, .string t599, .string t603] (0, 0) _ rfl (bq BK582.out) Tryz.underlying24 rfl (by kernel_rfl)) rfl ?_
        exact ⟨fe, bz HB.out⟩
       ·rw [if_neg c35] at H
        have c35b0 : decide (1 < (rd x2_14 0)) = false := decide_eq_false c35
        clear c35
        simp only [Option.some.injEq, Prod.mk.injEq] at H
        obtain ⟨rfl, rfl, rfl⟩ := H
        obtain ⟨Ao46, co46, rfl⟩ := Kd.V_slice HO_1.out
        go_wp2_with (first | ((with_reducible refine gc 97 rfl ?_); refine gl (some 39) Tryz.func97 #[.slice Ao46 x1_14.length co46] ?_; (with_reducible refine (insolvencyref1_text.calls kj14 _ _ x1_14 t599 _ ?side1 ?side2 A22.out).mono ?_); (case side1 => exact vs (Kd.V_reads' HO_1.out).2.2); (case side2 => exact (Kd.V_reads' HO_1.out).2.1); rintro e w47 ⟨rfl, hb⟩; refine ⟨_, rfl, ?_⟩; replace HO_1 := Aside0.mk (vb HO_1.out hb); replace HO_2 := Aside0.mk (vb HO_2.out hb); replace BK582 := Aside0.mk (bk0 BK582.out hb); replace HB := Aside0.mk (bs HB.out hb); (try clear hb)) | ((with_reducible refine gd 8 rfl ?_); refine bx 8 (#[.bool false, .string (⟨#[]⟩ : ByteArray), .string (⟨#[]⟩ : ByteArray)]) 24 ?_; intro gb600 hg w48 hbox hb; replace HO_1 := Aside0.mk (Kd.V_below (Kd.V_elderB (vs HO_1.out) gb600 (Nat.le_of_eq hg.symm)) hb); replace HO_2 := Aside0.mk (Kd.V_below (Kd.V_elderB (vs HO_2.out) gb600 (Nat.le_of_eq hg.symm)) hb); have BK600 := Aside0.mk (hbox); have GW600 := sg hg HB.out; have GE600 := sg hg HB.out; replace HB := Aside0.mk (bs HB.out hb); have NB582_600 := nl hg BK582.out; have NB600_582 := nr hg BK582.out; replace BK582 := Aside0.mk (bk0 BK582.out hb); clear hb hbox hg; have hnb49 := NB600_582.out; have hnc49 := NB582_600.out; obtain ⟨hcz50_0, hcz50_1, hcz50_2, hfz50_0, hfz50_1, hfz50_2⟩ := cz BK600.out; obtain ⟨Ao51, co51, rfl⟩ := Kd.V_slice HO_2.out; have p602 : 0 ≤ (0 : Int) := (by omega); have q602 : 0 < (x2_14.length : Int) := oa; obtain ⟨ad602, e602, hx602_0⟩ := Kd.at_int (Kd.V_reads' HO_2.out).2.2 0 p602 q602; cases e602; have qi602 : (0 < x2_14.length) = True := eq_true (by omega); (try rw [show ((0 : Int)).toNat = 0 from rfl] at hx602_0); (try rw [Addr.add_zero'] at hx602_0); have hn602_0 : ad602.block ≠ gb600 := (Kd.V_in HO_2.out (by omega) (by decide)).2; have hn602_1 : ad602.block ≠ gb600 := (Kd.V_in HO_2.out (by omega) (by decide)).2; have hn602_2 : ad602.block ≠ gb600 := (Kd.V_in HO_2.out (by omega) (by decide)).2; replace hx602_0 := (cell_far (p := ⟨gb600, 0, none⟩) (by first | (rw [add_block]; exact hn602_0) | (show (Addr.add _ _).block ≠ _; rw [add_block]; exact hn602_0) | exact hn602_0) (.bool a0)).trans hx602_0; replace hx602_0 := (cell_far (p := ⟨gb600, 1, none⟩) (by first | (rw [add_block]; exact hn602_1) | (show (Addr.add _ _).block ≠ _; rw [add_block]; exact hn602_1) | exact hn602_1) (.string t599)).trans hx602_0; replace hx602_0 := (cell_far (p := ⟨gb600, 2, none⟩) (by first | (rw [add_block]; exact hn602_2) | (show (Addr.add _ _).block ≠ _; rw [add_block]; exact hn602_2) | exact hn602_2) (.string (⟨#[]⟩ : ByteArray))).trans hx602_0; clear hn602_0; clear hn602_1; clear hn602_2; replace p602 := eq_true p602; replace q602 := eq_true q602; obtain ⟨hcz52_0, hcz52_1, hcz52_2, hfz52_0, hfz52_1, hfz52_2⟩ := cz BK582.out))
        refine bodyPost_ret (results_cell_row rfl _ _ gb582 24 #[.bool a0, .string t599, .string (⟨#[]⟩ : ByteArray)] (0, 0) _ rfl (bq BK582.out) Tryz.underlying24 rfl (by kernel_rfl)) rfl ?_
        exact ⟨fe, bz HB.out⟩

attribute [local go_sem high] eqA24
/-! ### insolvencyref1_limbs: function 79 -/
def insolvencyref1_limbs.l0 : Nat → ByteArray → List Int → Int → Option (List Int)
 | 0, _, _, _ => none
 | k + 1, x0, x3, x4 => if x4 < (x0.size : Int) then (if 0 ≤ (wrap64 (Int.tdiv x4 4)) then (if (wrap64 (Int.tdiv x4 4)) < (x3.length : Int) then (if 0 ≤ (wrap64 ((wrap64 ((x0.size : Int) - 1)) - x4)) then (if (wrap64 ((wrap64 ((x0.size : Int) - 1)) - x4)) < (x0.size : Int) then (if 0 ≤ (IntKind.u64.wrap (wrap64 (8 * (Int.tmod x4 4)))) then (insolvencyref1_limbs.l0 k x0 (x3.set ((wrap64 (Int.tdiv x4 4)) : Int).toNat (Go.bits .or .u32 (rd x3 (wrap64 (Int.tdiv x4 4))) (shl .u32 ((bt x0 (wrap64 ((wrap64 ((x0.size : Int) - 1)) - x4))) % 4294967296) (IntKind.u64.wrap (wrap64 (8 * (Int.tmod x4 4))))))) (wrap64 (x4 + 1))) else (none)) else (none)) else (none)) else (none)) else (none)) else (some x3)
def insolvencyref1_limbs.f (k : Nat) (a0 : ByteArray) : Option (List Int) := (insolvencyref1_Normalize.f k a0).bind fun t674 => (if 0 ≤ (wrap64 (Int.tdiv (wrap64 ((t674.size : Int) + 3)) 4)) then (if (wrap64 (Int.tdiv (wrap64 ((t674.size : Int) + 3)) 4) : Int).toNat ≤ 70368744177664 then (insolvencyref1_limbs.l0 k t674 (List.replicate (wrap64 (Int.tdiv (wrap64 ((t674.size : Int) + 3)) 4) : Int).toNat 0) 0) else (none)) else (none))
theorem insolvencyref1_limbs.mono_l : ∀ k, (∀ y0 y1 y2, LeO (insolvencyref1_limbs.l0 k y0 y1 y2) (insolvencyref1_limbs.l0 (k + 1) y0 y1 y2))
 | 0 => fun _ _ _ r h => by simp [insolvencyref1_limbs.l0] at h
 | k + 1 => by
  have ih0 := insolvencyref1_limbs.mono_l k
  ·intro y0 y1 y2
   unfold insolvencyref1_limbs.l0
   repeat' with_reducible first | exact ih0 _ _ _ | exact insolvencyref1_Normalize.mono _ _ | exact LeO.refl _ | exact LeO.none _ | refine LeO.ite ?_ ?_ | refine LeO.bind ?_ (fun _ => ?_)
theorem insolvencyref1_limbs.mono : ∀ a0 k, LeO (insolvencyref1_limbs.f k a0) (insolvencyref1_limbs.f (k + 1) a0) := by
 intro a0 k
 have ih0 := insolvencyref1_limbs.mono_l k
 unfold insolvencyref1_limbs.f
 repeat' with_reducible first | exact ih0 _ _ _ | exact insolvencyref1_Normalize.mono _ _ | exact LeO.refl _ | exact LeO.none _ | refine LeO.ite ?_ ?_ | refine LeO.bind ?_ (fun _ => ?_)
def insolvencyref1_limbs.T6 : Bool × List (List Nat × List Nat) := (true, [([], []), ([], []), ([1], [1]), ([], []), ([], []), ([4], [4]), ([3, 5], [3, 5]), ([6], [6]), ([], []), ([], []), ([9], [9]), ([10], [10]), ([], []), ([11, 12], [11, 12]), ([8, 13], [8, 13]), ([14], [14]), ([], []), ([16], [16]), ([17], [17]), ([18], [18]), ([15, 19], [15, 19]), ([7, 20], [7, 20]), ([0, 2, 0, 1, 2, 3, 4, 5, 6, 7, 8, 9, 10, 11, 12, 13, 14, 15, 16, 17, 18, 19, 20, 21], [0, 2]), ([22, 21, 0, 1, 2, 3, 4, 5, 6, 7, 8, 9, 10, 11, 12, 13, 14, 15, 16, 17, 18, 19, 20, 21], [21, 22])])
def insolvencyref1_limbs.B6 : List Nat := [0, 0, 2, 0, 0, 16, 56, 120, 0, 0, 512, 1536, 0, 7680, 16128, 32512, 0, 65536, 196608, 458752, 1048320, 2097144, 4194303, 8388607]
theorem insolvencyref1_limbs.tab6 : rtab .any (opsOf Tryz.f79 6) = insolvencyref1_limbs.T6 := by kernel_rfl
theorem insolvencyref1_limbs.bits6 : waitsOk insolvencyref1_limbs.T6.2 insolvencyref1_limbs.B6 = true := by kernel_rfl
set_option maxHeartbeats 8000000 in
set_option maxRecDepth 100000 in
theorem insolvencyref1_limbs.calls (k : Nat) (a0 : ByteArray) (r : List Int) (w : World) (h : insolvencyref1_limbs.f k a0 = some r) :
  Calls Tryz.prog 79 #[.string a0] w fun e w' => ∃ v0_ : Value, e = .returned (v0_) ∧ Kd.R (Kd.int .u32) 52 w' w.heap.size (fun _ => True) v0_ r ∧ Below w.heap.size w w' := by
 have HB := Aside0.mk (Below.refl w.heap.size w)
 have H := h
 clear h
 unfold insolvencyref1_limbs.f at H
 obtain ⟨t674, A2, H⟩ := bs1 H
 obtain ⟨ji3, hji3⟩ : ∃ j_ : Int, (wrap64 (Int.tdiv (wrap64 ((t674.size : Int) + 3)) 4)) = j_ := ⟨_, rfl⟩
 first | rw [hji3] at H | simp only [hji3] at H
 (try rw [hji3] at A2)
 have hji3w : (IntKind.i64.wrap (Int.tdiv (wrap64 ((t674.size : Int) + 3)) 4)) = ji3 := (i64_w _).trans hji3
 obtain ⟨c4, H⟩ := iN H
 have c4b0 := eq_true c4
 have c4b1 : decide (0 ≤ (ji3)) = true := decide_eq_true c4
 clear c4
 obtain ⟨c5, H⟩ := iN H
 have c5b0 := eq_true c5
 have c5b1 : decide ((ji3 : Int).toNat ≤ 70368744177664) = true := decide_eq_true c5
 clear c5
 obtain ⟨y675, hy675⟩ : ∃ y_ : List Int, y_ = (List.replicate (ji3 : Int).toNat 0) := ⟨_, rfl⟩
 (try first | rw [← hy675] at H | (dsimp only at H; rw [← hy675] at H)); (try rw [Option.bind_some] at H)
 have Ny675 := Aside0.mk hy675
 clear hy675
 have H' := Aside0.mk H
 clear H
 go_enter Tryz.func79, Tryz.ntmps79
 go_wp2_with (first | ((with_reducible refine gc 118 rfl ?_); refine gl (some 6) Tryz.func118 #[.string a0] ?_; (with_reducible refine (insolvencyref1_Normalize.calls k a0 t674 _ A2.out).mono ?_); rintro e w' ⟨rfl, ⟨nd, rfl⟩⟩; refine ⟨_, rfl, ?_⟩) | ((with_reducible refine gd 11 rfl ?_); refine Kd.R_make (Kd.int .u32) _ 52 rfl (N := 11) rfl 71 _ _ rfl ji3 rfl rfl Tryz.underlying71 (.int .u32 0) 4 info52 rfl (by decide) (by omega) 0 (ok := fun _ => True) (okp := fun _ => True) rfl (fun _ hk => hk) trivial oa (Nat.le_trans (Nat.mul_le_mul_right _ (oa : ji3.toNat ≤ 70368744177664)) (by omega)) (Below.refl _ _) (Nat.le_refl _) ?_; intro v676 w6 ho7 hb hg_ hnew_; clear hg_ hnew_; (first | rw [← Ny675.out] at ho7 | (simp only [Int.reduceToNat] at ho7; rw [← Ny675.out] at ho7)); have HO677 := Aside0.mk (Kd.R_lower ho7 (sz HB.out)); replace HB := Aside0.mk (bs HB.out hb); clear hb ho7))
 go_loopg [4] k (fun kq v4 w' => ∃ (x3_1 : List Int) (x4_1 : Int), v4 = .int .i64 x4_1 ∧ Aside0 (insolvencyref1_limbs.l0 kq t674 x3_1 x4_1 = some r) ∧ Aside0 (kq ≤ k) ∧ Aside0 (Kd.R (Kd.int .u32) 52 w' w.heap.size (fun _ => True) v676 x3_1) ∧ Aside0 (Below w.heap.size w w'))
 case atStart => exact ⟨(y675), (0), fs, H', ⟨Nat.le_refl _⟩, ⟨vs HO677.out⟩, ⟨bz HB.out⟩⟩
 case round =>
  clear H'
  (try clear c4b0); (try clear c4b1); (try clear c5b0); (try clear c5b1)
  obtain ⟨x3_1, x4_1, rfl, HA, HK1, HO_3, HB⟩ := hrel
  cases gk with
  | zero => exact absurd HA.out (by simp [insolvencyref1_limbs.l0])
  | succ k1 =>
   have H := HA.out
   clear HA
   simp only [insolvencyref1_limbs.l0] at H
   by_cases c8 : x4_1 < (t674.size : Int)
   ·rw [if_pos c8] at H
    have c8b0 : decide (x4_1 < (t674.size : Int)) = true := decide_eq_true c8
    clear c8
    obtain ⟨ji9, hji9⟩ : ∃ j_ : Int, (wrap64 (Int.tdiv x4_1 4)) = j_ := ⟨_, rfl⟩
    first | rw [hji9] at H | simp only [hji9] at H
    have hji9w : (IntKind.i64.wrap (Int.tdiv x4_1 4)) = ji9 := (i64_w _).trans hji9
    obtain ⟨c10, H⟩ := iN H
    have c10b0 : decide (0 ≤ (ji9)) = true := decide_eq_true c10
    clear c10
    obtain ⟨c11, H⟩ := iN H
    have c11b0 : decide ((ji9) < (x3_1.length : Int)) = true := decide_eq_true c11
    clear c11
    obtain ⟨ji12, hji12⟩ : ∃ j_ : Int, (wrap64 ((wrap64 ((t674.size : Int) - 1)) - x4_1)) = j_ := ⟨_, rfl⟩
    first | rw [hji12] at H | simp only [hji12] at H
    have hji12w : (IntKind.i64.wrap ((wrap64 ((t674.size : Int) - 1)) - x4_1)) = ji12 := (i64_w _).trans hji12
    obtain ⟨c13, H⟩ := iN H
    have c13b0 : decide (0 ≤ (ji12)) = true := decide_eq_true c13
    clear c13
    obtain ⟨c14, H⟩ := iN H
    have c14b0 : decide ((ji12) < (t674.size : Int)) = true := decide_eq_true c14
    clear c14
    obtain ⟨ji16, hji16⟩ : ∃ j_ : Int, (IntKind.u64.wrap (wrap64 (8 * (Int.tmod x4_1 4)))) = j_ := ⟨_, rfl⟩
    first | rw [hji16] at H | simp only [hji16] at H
    obtain ⟨c17, H⟩ := iN H
    have c17b0 := eq_true c17
    have c17b1 : decide (0 ≤ (ji16)) = true := decide_eq_true c17
    clear c17
    obtain ⟨ji18, hji18⟩ : ∃ j_ : Int, (shl .u32 ((bt t674 (ji12)) % 4294967296) (ji16)) = j_ := ⟨_, rfl⟩
    first | rw [hji18] at H | simp only [hji18] at H
    have hji18_ : (IntKind.u32.wrap (((bt t674 (ji12)) % 4294967296) * 2 ^ min (ji16).toNat 32)) = ji18 := hji18
    have hji18z : (ji16) ≤ 32 → (IntKind.u32.wrap (((bt t674 (ji12)) % 4294967296) * 2 ^ (ji16).toNat)) = ji18 := shl_small hji18
    have hji18u_ : ((((bt t674 (ji12)) % 4294967296) * 2 ^ min (ji16).toNat 32) % 4294967296) = ji18 := hji18_
    have hji18u2_ : (ji16) ≤ 32 → ((((bt t674 (ji12)) % 4294967296) * 2 ^ (ji16).toNat) % 4294967296) = ji18 := hji18z
    have hji18u3_ : (IntKind.u32.wrap (IntKind.u32.wrap (bt t674 (ji12)) * 2 ^ min (ji16).toNat 32)) = ji18 := hji18_
    obtain ⟨y679, hy679⟩ : ∃ y_ : List Int, y_ = (x3_1.set ((ji9) : Int).toNat (Go.bits .or .u32 (rd x3_1 (ji9)) (ji18))) := ⟨_, rfl⟩
    (try first | rw [← hy679] at H | (dsimp only at H; rw [← hy679] at H)); (try rw [Option.bind_some] at H)
    have Ny679 := Aside0.mk hy679
    clear hy679
    have H' := Aside0.mk H
    clear H
    try go_wp2
    replace HO_3 := Aside0.mk (Kd.R_drew HO_3.out)
    replace HB := Aside0.mk (below_drew1 HB.out)
    obtain ⟨Ao21, co21, eo21⟩ := Kd.R_slice HO_3.out
    (first | subst eo21 | (injection eo21 with f1_ f2_ f3_; have f4_ := f1_.symm; have f5_ := f3_.symm; clear f1_ f2_ f3_; subst f4_; subst f5_))
    have p678 : 0 ≤ ((ji9) : Int) := oa
    have q678 : (ji9) < (x3_1.length : Int) := oa
    obtain ⟨ad678, e678, hx678_0⟩ := Kd.at_int (Kd.R_reads' HO_3.out).2.2 (ji9) p678 q678
    cases e678
    replace p678 := eq_true p678
    replace q678 := eq_true q678
    have p15 : 0 ≤ ((ji12) : Int) := oa
    have q15 : (ji12) < (t674.size : Int) := oa
    have hx15 := bt_at t674 (ji12)
    replace p15 := eq_true p15
    replace q15 := eq_true q15
    have p19 : 0 ≤ ((ji9) : Int) := oa
    have q19 : ((ji9) : Int) < ((x3_1.length : Int) : Int) := oa
    obtain ⟨go19, co19, eo19, gb19, gl19, cl19, HG19⟩ := Kd.R_form HO_3.out (by omega)
    (first | cases eo19 | (injection eo19 with ea_ en_ ec_; (first | subst ea_ | (injection ea_ with ea_; subst ea_)); subst ec_; clear en_))
    have GB19 := Aside0.mk gb19
    have GG19 := Aside0.mk HG19
    clear gb19 gl19 HG19
    (first | simp only [add_plain] at hx678_0 | skip)
    obtain ⟨hx19_0, hf19_0⟩ := Kd.R_celln 0 HO_3.out ((ji9) : Int) p19 q19
    replace p19 := eq_true p19
    replace q19 := eq_true q19
    have HP22 := Kd.R_putn HO_3.out ((ji9) : Int) (Go.bits .or .u32 (rd x3_1 (ji9)) (ji18))
    rw [← Ny679.out] at HP22
    have HQ22 := Aside0.mk HP22
    clear HP22
    refine start_ (n := 24) (S := fun w' => w'.cell? ⟨go19, ((ji9)).toNat, none⟩ = some (.int .u32 (rd x3_1 (ji9)))) (ds := [23]) #[false, false, false, false, false, false, false, false, false, false, false, false, false, false, false, false, false, false, false, false, false, false, false, false] (by kernel_rfl) rfl rfl (hx678_0) (fun hHeld => ?_); refine with_tabW insolvencyref1_limbs.tab6 insolvencyref1_limbs.bits6 (fun HT_ HW_ => ?_)
    generalize wr.drew = w20 at HO_3 HB GG19 HQ22 hf19_0 hx19_0 hx678_0 hHeld ⊢
    refine py 0 (some 18) #[true, false, false, false, false, false, false, false, false, false, false, false, false, false, false, false, false, false, false, false, false, false, false, false] HT_ ?_
    refine py 1 (some 19) #[true, true, false, false, false, false, false, false, false, false, false, false, false, false, false, false, false, false, false, false, false, false, false, false] HT_ ?_
    refine py 2 (some 20) #[true, true, true, false, false, false, false, false, false, false, false, false, false, false, false, false, false, false, false, false, false, false, false, false] HT_ ?_
    refine py 3 (some 21) #[true, true, true, true, false, false, false, false, false, false, false, false, false, false, false, false, false, false, false, false, false, false, false, false] HT_ ?_
    refine py 4 (some 22) #[true, true, true, true, true, false, false, false, false, false, false, false, false, false, false, false, false, false, false, false, false, false, false, false] HT_ ?_
    refine py 5 (some 23) #[true, true, true, true, true, true, false, false, false, false, false, false, false, false, false, false, false, false, false, false, false, false, false, false] HT_ ?_
    refine py 6 (some 24) #[true, true, true, true, true, true, true, false, false, false, false, false, false, false, false, false, false, false, false, false, false, false, false, false] HT_ ?_
    refine py 8 (some 26) #[true, true, true, true, true, true, true, false, true, false, false, false, false, false, false, false, false, false, false, false, false, false, false, false] HT_ ?_
    refine py 9 (some 27) #[true, true, true, true, true, true, true, false, true, true, false, false, false, false, false, false, false, false, false, false, false, false, false, false] HT_ ?_
    refine py 10 (some 28) #[true, true, true, true, true, true, true, false, true, true, true, false, false, false, false, false, false, false, false, false, false, false, false, false] HT_ ?_
    refine py 11 (some 29) #[true, true, true, true, true, true, true, false, true, true, true, true, false, false, false, false, false, false, false, false, false, false, false, false] HT_ ?_
    refine py 12 (some 30) #[true, true, true, true, true, true, true, false, true, true, true, true, true, false, false, false, false, false, false, false, false, false, false, false] HT_ ?_
    refine py 13 (some 31) #[true, true, true, true, true, true, true, false, true, true, true, true, true, true, false, false, false, false, false, false, false, false, false, false] HT_ ?_
    refine py 16 (some 34) #[true, true, true, true, true, true, true, false, true, true, true, true, true, true, false, false, true, false, false, false, false, false, false, false] HT_ ?_
    refine py 17 (some 35) #[true, true, true, true, true, true, true, false, true, true, true, true, true, true, false, false, true, true, false, false, false, false, false, false] HT_ ?_
    refine py 18 (some 36) #[true, true, true, true, true, true, true, false, true, true, true, true, true, true, false, false, true, true, true, false, false, false, false, false] HT_ ?_
    refine py 19 (some 37) #[true, true, true, true, true, true, true, false, true, true, true, true, true, true, false, false, true, true, true, true, false, false, false, false] HT_ ?_
    refine take_ (i := 7) (N := some 25) (v := ?_) (a' := ?_) #[true, true, true, true, true, true, true, true, true, true, true, true, true, true, false, false, true, true, true, true, false, false, false, false] rfl rfl (take_ofW HT_.out HW_.out (by kernel_rfl)) (fun _ _ _ h => h) (Or.inl ⟨by rfl, ?_⟩) hHeld ?_ ?_
    rotate_left
    ·intro w' s0
     go_simp
     with_reducible rfl
    rotate_left
    ·simp only [Act.put, List.setIfInBounds_toArray, List.set_cons_zero, List.set_cons_succ, i64_w, i32_w]
     rfl
    refine take_ (i := 14) (N := some 32) (v := ?_) (a' := ?_) #[true, true, true, true, true, true, true, true, true, true, true, true, true, true, true, false, true, true, true, true, false, false, false, false] rfl rfl (take_ofW HT_.out HW_.out (by kernel_rfl)) (fun _ _ _ h => h) (Or.inl ⟨by rfl, ?_⟩) hHeld ?_ ?_
    rotate_left
    ·intro w' s0
     go_simp
     with_reducible rfl
    rotate_left
    ·simp only [Act.put, List.setIfInBounds_toArray, List.set_cons_zero, List.set_cons_succ, i64_w, i32_w]
     rfl
    refine py 15 (some 33) #[true, true, true, true, true, true, true, true, true, true, true, true, true, true, true, true, true, true, true, true, false, false, false, false] HT_ ?_
    refine py 20 (some 38) #[true, true, true, true, true, true, true, true, true, true, true, true, true, true, true, true, true, true, true, true, true, false, false, false] HT_ ?_
    refine py 21 (some 39) #[true, true, true, true, true, true, true, true, true, true, true, true, true, true, true, true, true, true, true, true, true, true, false, false] HT_ ?_
    refine py 22 (some 40) #[true, true, true, true, true, true, true, true, true, true, true, true, true, true, true, true, true, true, true, true, true, true, true, false] HT_ ?_
    refine last_ (i := 23) (N := none) #[true, true, true, true, true, true, true, true, true, true, true, true, true, true, true, true, true, true, true, true, true, true, true, true] rfl rfl (one_of HT_.out (by kernel_rfl)) (by decide) (fun K hK => ?_)
    refine skip_ (w1 := ?_) (by rfl) rfl ?_ ?_
    rotate_left
    ·go_simp
     rfl
    refine hK.out _ _ ?_
    clear hK K
    refine done_ (done_of HT_.out (by kernel_rfl)) ?_
    try go_wp2
    go_roundg k1
    case measure => have := HK1.out; omega
    case rel => exact ⟨(y679), (wrap64 (x4_1 + 1)), fs, H', ⟨by have := HK1.out; omega⟩, ⟨vs HQ22.out⟩, ⟨bz HB.out⟩⟩
   ·rw [if_neg c8] at H
    have c8b0 : decide (x4_1 < (t674.size : Int)) = false := decide_eq_false c8
    clear c8
    obtain rfl := Option.some.inj H
    go_wp2
    go_ret
    exact ⟨_, by first | rfl | (simp [errW_none, errW_some] <;> rfl) | (simp only [← hji3]; first | rfl | (simp [errW_none, errW_some] <;> rfl)) | (simp [*, errW_none, errW_some] <;> rfl), vs HO_3.out, bz HB.out⟩

/-! ### insolvencyref1_FromUint: function 46 -/
def insolvencyref1_FromUint.f (k : Nat) (a0 : Int) : Option (ByteArray) := (insolvencyref1_text.f k (([(a0) % 4294967296, (a0 / 4294967296) % 4294967296] : List Int))).bind fun t778 => (some t778)
theorem insolvencyref1_FromUint.mono : ∀ a0 k, LeO (insolvencyref1_FromUint.f k a0) (insolvencyref1_FromUint.f (k + 1) a0) := by
 intro a0 k
 unfold insolvencyref1_FromUint.f
 repeat' with_reducible first | exact insolvencyref1_text.mono _ _ | exact LeO.refl _ | exact LeO.none _ | refine LeO.ite ?_ ?_ | refine LeO.bind ?_ (fun _ => ?_)
set_option maxHeartbeats 8000000 in
set_option maxRecDepth 100000 in
theorem insolvencyref1_FromUint.calls (k : Nat) (a0 : Int) (r : ByteArray) (w : World) (h : insolvencyref1_FromUint.f k a0 = some r) :
  Calls Tryz.prog 46 #[.int .u64 a0] w fun e w' => e = .returned (.string r) ∧ Below w.heap.size w w' := by
 have HB := Aside0.mk (Below.refl w.heap.size w)
 have H := h
 clear h
 unfold insolvencyref1_FromUint.f at H
 obtain ⟨y775, hy775⟩ : ∃ y_ : List Int, y_ = (([(a0) % 4294967296, (a0 / 4294967296) % 4294967296] : List Int)) := ⟨_, rfl⟩
 (try first | rw [← hy775] at H | (dsimp only at H; rw [← hy775] at H)); (try rw [Option.bind_some] at H)
 have Ny775 := Aside0.mk hy775
 clear hy775
 obtain ⟨t778, A2, H⟩ := bs1 H
 obtain rfl := Option.some.inj H
 go_enter Tryz.func46, Tryz.ntmps46
 go_wp2_with (first | ((with_reducible refine gd 8 rfl ?_); refine Kd.R_lit (Kd.int .u32) _ 52 ?hg (N := 8) ?hd (xs := ([(a0) % 4294967296, (a0 / 4294967296) % 4294967296] : List Int)) (inner := [.int .u32 ((a0) % 4294967296), .int .u32 ((a0 / 4294967296) % 4294967296)]) (ok := fun _ => True) (okp := fun _ => True) ?hr ?hp (fun _ hk => hk) trivial (Below.refl _ _) (Nat.le_refl _) (by simp) ?_; (case hd => rfl); (case hg => rfl); (case hr => first | (go_simp; done) | (go_simp; rfl)); (case hp => exact (Reps.one (show Kd.M (Kd.int .u32) _ _ _ ((a0) % 4294967296) [.int .u32 ((a0) % 4294967296)] from rfl) (Reps.one (show Kd.M (Kd.int .u32) _ _ _ ((a0 / 4294967296) % 4294967296) [.int .u32 ((a0 / 4294967296) % 4294967296)] from rfl) (Reps.none _ _)))); intro v776 w3 ho4 hb hg_ hnew_; clear hg_ hnew_; (first | rw [← Ny775.out] at ho4 | (simp only [Int.reduceToNat] at ho4; rw [← Ny775.out] at ho4)); have HO777 := Aside0.mk (Kd.R_lower ho4 (sz HB.out)); replace HB := Aside0.mk (bs HB.out hb); clear hb ho4; obtain ⟨Ao5, co5, eo5⟩ := Kd.R_slice HO777.out; subst eo5) | ((with_reducible refine gc 97 rfl ?_); refine gl (some 9) Tryz.func97 #[.slice Ao5 y775.length co5] ?_; (with_reducible refine (insolvencyref1_text.calls k _ _ y775 t778 _ ?side1 ?side2 A2.out).mono ?_); (case side1 => exact vs (Kd.R_reads' HO777.out).2.2); (case side2 => exact (Kd.R_reads' HO777.out).2.1); rintro e w6 ⟨rfl, hb⟩; refine ⟨_, rfl, ?_⟩; replace HO777 := Aside0.mk (rb HO777.out hb); replace HB := Aside0.mk (bs HB.out hb); (try clear hb)))
 go_ret
 exact ⟨fe, bz HB.out⟩

/-! ### insolvencyref1_Make: function 85 -/
def insolvencyref1_Make.f (k : Nat) (a0 : Bool) (a1 : ByteArray) (a2 : ByteArray) : Option (Bool × ByteArray × ByteArray × Bool) := (insolvencyref1_limbs.f k a2).bind fun t780 => (if (t780.length : Int) = 0 then (some (false, (⟨#[]⟩ : ByteArray), (⟨#[]⟩ : ByteArray), false)) else ((insolvencyref1_limbs.f k a1).bind fun t783 => ((insolvencyref1_reduced.f k a0 t783 t780).bind fun bt786 => (some (bt786.1, bt786.2.1, bt786.2.2, true)))))
theorem insolvencyref1_Make.mono : ∀ a0 a1 a2 k, LeO (insolvencyref1_Make.f k a0 a1 a2) (insolvencyref1_Make.f (k + 1) a0 a1 a2) := by
 intro a0 a1 a2 k
 unfold insolvencyref1_Make.f
 repeat' with_reducible first | exact insolvencyref1_limbs.mono _ _ | exact insolvencyref1_reduced.mono _ _ _ _ | exact LeO.refl _ | exact LeO.none _ | refine LeO.ite ?_ ?_ | refine LeO.bind ?_ (fun _ => ?_)
set_option maxHeartbeats 8000000 in
set_option maxRecDepth 100000 in
theorem insolvencyref1_Make.calls (k : Nat) (a0 : Bool) (a1 : ByteArray) (a2 : ByteArray) (r1 : Bool) (r2 : ByteArray) (r3 : ByteArray) (r4 : Bool) (w : World) (h : insolvencyref1_Make.f k a0 a1 a2 = some (r1, r2, r3, r4)) :
  Calls Tryz.prog 85 #[.bool a0, .string a1, .string a2] w fun e w' => e = .returned (.tuple #[.agg #[.bool r1, .string r2, .string r3], .bool r4]) ∧ Below w.heap.size w w' := by
 have hu24 := Tryz.underlying24
 have HB := Aside0.mk (Below.refl w.heap.size w)
 have H := h
 clear h
 unfold insolvencyref1_Make.f at H
 obtain ⟨t780, A4, H⟩ := bs1 H
 by_cases c5 : (t780.length : Int) = 0
 ·rw [if_pos c5] at H
  have c5b0 := beq_iff_eq.mpr c5
  have c5b1 := bne_eq_false_iff_eq.mpr c5
  clear c5
  simp only [Option.some.injEq, Prod.mk.injEq] at H
  obtain ⟨rfl, rfl, rfl, rfl⟩ := H
  go_enter Tryz.func85, Tryz.ntmps85
  go_wp2_with (first | ((with_reducible refine gd 6 rfl ?_); refine bx 6 (#[.bool false, .string (⟨#[]⟩ : ByteArray), .string (⟨#[]⟩ : ByteArray)]) 24 ?_; intro gb779 hg w6 hbox hb; have BK779 := Aside0.mk (hbox); have GW779 := sg hg HB.out; have GE779 := sg hg HB.out; replace HB := Aside0.mk (bs HB.out hb); clear hb hbox hg) | ((with_reducible refine gc 79 rfl ?_); refine gl (some 10) Tryz.func79 #[.string a2] ?_; (with_reducible refine (insolvencyref1_limbs.calls k a2 t780 _ A4.out).mono ?_); rintro e w7 ⟨v781, rfl, ho0, hb⟩; refine ⟨_, rfl, ?_⟩; have HO782 := Aside0.mk (Kd.R_lower ho0 (sz HB.out)); replace BK779 := Aside0.mk (bk0 BK779.out hb); replace HB := Aside0.mk (bs HB.out hb); (try clear hb ho0); obtain ⟨Ao8, co8, eo8⟩ := Kd.R_slice HO782.out; subst eo8; obtain ⟨hcz9_0, hcz9_1, hcz9_2, hfz9_0, hfz9_1, hfz9_2⟩ := cz BK779.out))
  refine bodyPost_ret (results_ct rfl _ _ gb779 24 #[.bool false, .string (⟨#[]⟩ : ByteArray), .string (⟨#[]⟩ : ByteArray)] (0, 0) _ rfl (bq BK779.out) Tryz.underlying24 rfl (by kernel_rfl)) rfl ?_
  exact ⟨fe, bz HB.out⟩
 ·rw [if_neg c5] at H
  have c5b0 := beq_eq_false_iff_ne.mpr c5
  have c5b1 := bne_iff_ne.mpr c5
  have c5b2 : ¬ (t780 = []) := fun h_ => c5 (by rw [h_]; rfl)
  obtain ⟨t783, A10, H⟩ := bs1 H
  obtain ⟨⟨t786, t787, t788⟩, A11, H⟩ := bs1 H; dsimp only at H
  simp only [Option.some.injEq, Prod.mk.injEq] at H
  obtain ⟨rfl, rfl, rfl, rfl⟩ := H
  go_enter Tryz.func85, Tryz.ntmps85
  go_wp2_with (first | ((with_reducible refine gd 6 rfl ?_); refine bx 6 (#[.bool false, .string (⟨#[]⟩ : ByteArray), .string (⟨#[]⟩ : ByteArray)]) 24 ?_; intro gb779 hg w12 hbox hb; have BK779 := Aside0.mk (hbox); have GW779 := sg hg HB.out; have GE779 := sg hg HB.out; replace HB := Aside0.mk (bs HB.out hb); clear hb hbox hg) | ((with_reducible refine gc 79 rfl ?_); refine gl (some 10) Tryz.func79 #[.string a2] ?_; (with_reducible refine (insolvencyref1_limbs.calls k a2 t780 _ A4.out).mono ?_); rintro e w13 ⟨v781, rfl, ho0, hb⟩; refine ⟨_, rfl, ?_⟩; have HO782 := Aside0.mk (Kd.R_lower ho0 (sz HB.out)); replace BK779 := Aside0.mk (bk0 BK779.out hb); replace HB := Aside0.mk (bs HB.out hb); (try clear hb ho0); obtain ⟨Ao14, co14, eo14⟩ := Kd.R_slice HO782.out; subst eo14) | ((with_reducible refine gc 79 rfl ?_); refine gl (some 17) Tryz.func79 #[.string a1] ?_; (with_reducible refine (insolvencyref1_limbs.calls k a1 t783 _ A10.out).mono ?_); rintro e w15 ⟨v784, rfl, ho0, hb⟩; refine ⟨_, rfl, ?_⟩; have HO785 := Aside0.mk (Kd.R_lower (Kd.R_new' ho0 (Kd.R_lt (vs HO782.out))) (sz HB.out)); replace HO782 := Aside0.mk (Kd.R_elder' (vs HO782.out) (Kd.R_base ho0) hb); replace BK779 := Aside0.mk (bk0 BK779.out hb); replace HB := Aside0.mk (bs HB.out hb); (try clear hb ho0); obtain ⟨Ao16, co16, eo16⟩ := Kd.R_slice HO785.out; subst eo16) | ((with_reducible refine gc 70 rfl ?_); refine gl (some 19) Tryz.func70 #[.bool a0, .slice Ao16 t783.length co16, .slice Ao14 t780.length co14] ?_; (with_reducible refine (insolvencyref1_reduced.calls k a0 (fun k_ => some k_ = (.slice Ao16 t783.length co16 : Value).ownBlock) _ _ t783 (fun k_ => some k_ = (.slice Ao14 t780.length co14 : Value).ownBlock) _ _ t780 t786 t787 t788 _ ?side1 ?side2 A11.out).mono ?_); (case side1 => exact Kd.R_V (Kd.R_tight rfl (Kd.R_types (HO785.out) BK779.out (by decide)))); (case side2 => exact Kd.R_V (Kd.R_tight rfl (Kd.R_types (HO782.out) BK779.out (by decide)))); rintro e w17 ⟨rfl, hb⟩; refine ⟨_, rfl, ?_⟩; replace HO782 := Aside0.mk (rb HO782.out hb); replace HO785 := Aside0.mk (rb HO785.out hb); replace BK779 := Aside0.mk (bk0 BK779.out hb); replace HB := Aside0.mk (bs HB.out hb); (try clear hb); obtain ⟨hcz18_0, hcz18_1, hcz18_2, hfz18_0, hfz18_1, hfz18_2⟩ := cz BK779.out))
  refine bodyPost_ret (results_ct rfl _ _ gb779 24 #[.bool t786, .string t787, .string t788] (0, 0) _ rfl (bq BK779.out) Tryz.underlying24 rfl (by kernel_rfl)) rfl ?_
  exact ⟨fe, bz HB.out⟩

/-! ### insolvencyref1_size: function 86 -/
def insolvencyref1_size.f (a0 : Int) : Option (Int) := if a0 < 0 then (some (IntKind.u64.wrap ((IntKind.u64.wrap (wrap64 (-(wrap64 (a0 + 1))))) + 1))) else (some (IntKind.u64.wrap (a0)))
set_option maxHeartbeats 8000000 in
set_option maxRecDepth 100000 in
theorem insolvencyref1_size.calls (a0 : Int) (r : Int) (w : World) (h : insolvencyref1_size.f a0 = some r) :
  Calls Tryz.prog 86 #[.int .i64 a0] w fun e w' => e = .returned (.int .u64 r) ∧ Drawn0 w w' := by
 have H := h
 clear h
 unfold insolvencyref1_size.f at H
 by_cases c2 : a0 < 0
 ·rw [if_pos c2] at H
  have c2b0 : decide (a0 < 0) = true := decide_eq_true c2
  clear c2
  obtain rfl := Option.some.inj H
  go_enter Tryz.func86, Tryz.ntmps86
  go_wp2
  go_ret
  exact ⟨fs, dz⟩
 ·rw [if_neg c2] at H
  have c2b0 : decide (a0 < 0) = false := decide_eq_false c2
  clear c2
  obtain rfl := Option.some.inj H
  go_enter Tryz.func86, Tryz.ntmps86
  go_wp2
  go_ret
  exact ⟨fs, dz⟩

/-! ### insolvencyref1_Fraction: function 26 -/
def insolvencyref1_Fraction.f (k : Nat) (a0 : Int) (a1 : Int) : Option (Bool × ByteArray × ByteArray × Bool) := (insolvencyref1_size.f a0).bind fun t790 => ((insolvencyref1_FromUint.f k t790).bind fun t791 => ((insolvencyref1_size.f a1).bind fun t792 => ((insolvencyref1_FromUint.f k t792).bind fun t793 => ((insolvencyref1_Make.f k ((decide (a0 < 0)) != (decide (a1 < 0))) t791 t793).bind fun bt794 => (some (bt794.1, bt794.2.1, bt794.2.2.1, bt794.2.2.2))))))
theorem insolvencyref1_Fraction.mono : ∀ a0 a1 k, LeO (insolvencyref1_Fraction.f k a0 a1) (insolvencyref1_Fraction.f (k + 1) a0 a1) := by
 intro a0 a1 k
 unfold insolvencyref1_Fraction.f
 repeat' with_reducible first | exact insolvencyref1_FromUint.mono _ _ | exact insolvencyref1_Make.mono _ _ _ _ | exact LeO.refl _ | exact LeO.none _ | refine LeO.ite ?_ ?_ | refine LeO.bind ?_ (fun _ => ?_)
set_option maxHeartbeats 8000000 in
set_option maxRecDepth 100000 in
theorem insolvencyref1_Fraction.calls (k : Nat) (a0 : Int) (a1 : Int) (r1 : Bool) (r2 : ByteArray) (r3 : ByteArray) (r4 : Bool) (w : World) (h : insolvencyref1_Fraction.f k a0 a1 = some (r1, r2, r3, r4)) :
  Calls Tryz.prog 26 #[.int .i64 a0, .int .i64 a1] w fun e w' => e = .returned (.tuple #[.agg #[.bool r1, .string r2, .string r3], .bool r4]) ∧ Below w.heap.size w w' := by
 have hu24 := Tryz.underlying24
 have HB := Aside0.mk (Below.refl w.heap.size w)
 have H := h
 clear h
 unfold insolvencyref1_Fraction.f at H
 obtain ⟨t790, A3, H⟩ := bs1 H
 obtain ⟨t791, A4, H⟩ := bs1 H
 obtain ⟨t792, A5, H⟩ := bs1 H
 obtain ⟨t793, A6, H⟩ := bs1 H
 obtain ⟨⟨t794, t795, t796, t797⟩, A7, H⟩ := bs1 H; dsimp only at H
 simp only [Option.some.injEq, Prod.mk.injEq] at H
 obtain ⟨rfl, rfl, rfl, rfl⟩ := H
 go_enter Tryz.func26, Tryz.ntmps26
 go_wp2_with (first | ((with_reducible refine gd 4 rfl ?_); refine bx 4 (#[.bool false, .string (⟨#[]⟩ : ByteArray), .string (⟨#[]⟩ : ByteArray)]) 24 ?_; intro gb789 hg w8 hbox hb; have BK789 := Aside0.mk (hbox); have GW789 := sg hg HB.out; have GE789 := sg hg HB.out; replace HB := Aside0.mk (bs HB.out hb); clear hb hbox hg) | ((with_reducible refine gc 86 rfl ?_); refine gl (some 12) Tryz.func86 #[.int .i64 a0] ?_; (with_reducible refine (insolvencyref1_size.calls a0 t790 _ A3.out).mono ?_); rintro e w' ⟨rfl, ⟨nd, rfl⟩⟩; refine ⟨_, rfl, ?_⟩; (try (rw [drewN_self w8]; generalize hq_ : World.drewN w8 _ = w8; have n0_ : Aside0 (w8.heap[gb789]? = some (.cells #[.bool false, .string (⟨#[]⟩ : ByteArray), .string (⟨#[]⟩ : ByteArray)] 24 (0, 0))) := ⟨by rw [← hq_]; exact (bq BK789.out)⟩; have n1_ : Aside0 (Below w.heap.size w w8) := ⟨by rw [← hq_]; exact (bz HB.out)⟩; clear BK789 HB hq_; have BK789 := n0_; have HB := n1_; clear n0_ n1_))) | ((with_reducible refine gc 46 rfl ?_); refine gl (some 13) Tryz.func46 #[.int .u64 t790] ?_; (with_reducible refine (insolvencyref1_FromUint.calls k t790 t791 _ A4.out).mono ?_); rintro e w9 ⟨rfl, hb⟩; refine ⟨_, rfl, ?_⟩; replace BK789 := Aside0.mk (bk0 BK789.out hb); replace HB := Aside0.mk (bs HB.out hb); (try clear hb)) | ((with_reducible refine gc 86 rfl ?_); refine gl (some 15) Tryz.func86 #[.int .i64 a1] ?_; (with_reducible refine (insolvencyref1_size.calls a1 t792 _ A5.out).mono ?_); rintro e w' ⟨rfl, ⟨nd, rfl⟩⟩; refine ⟨_, rfl, ?_⟩; (try (rw [drewN_self w9]; generalize hq_ : World.drewN w9 _ = w9; have n0_ : Aside0 (w9.heap[gb789]? = some (.cells #[.bool false, .string (⟨#[]⟩ : ByteArray), .string (⟨#[]⟩ : ByteArray)] 24 (0, 0))) := ⟨by rw [← hq_]; exact (bq BK789.out)⟩; have n1_ : Aside0 (Below w.heap.size w w9) := ⟨by rw [← hq_]; exact (bz HB.out)⟩; clear BK789 HB hq_; have BK789 := n0_; have HB := n1_; clear n0_ n1_))) | ((with_reducible refine gc 46 rfl ?_); refine gl (some 16) Tryz.func46 #[.int .u64 t792] ?_; (with_reducible refine (insolvencyref1_FromUint.calls k t792 t793 _ A6.out).mono ?_); rintro e w10 ⟨rfl, hb⟩; refine ⟨_, rfl, ?_⟩; replace BK789 := Aside0.mk (bk0 BK789.out hb); replace HB := Aside0.mk (bs HB.out hb); (try clear hb)) | ((with_reducible refine gc 85 rfl ?_); refine gl (some 17) Tryz.func85 #[.bool ((decide (a0 < 0)) != (decide (a1 < 0))), .string t791, .string t793] ?_; (with_reducible refine (insolvencyref1_Make.calls k ((decide (a0 < 0)) != (decide (a1 < 0))) t791 t793 t794 t795 t796 t797 _ A7.out).mono ?_); rintro e w11 ⟨rfl, hb⟩; refine ⟨_, rfl, ?_⟩; replace BK789 := Aside0.mk (bk0 BK789.out hb); replace HB := Aside0.mk (bs HB.out hb); (try clear hb); obtain ⟨hcz12_0, hcz12_1, hcz12_2, hfz12_0, hfz12_1, hfz12_2⟩ := cz BK789.out))
 refine bodyPost_ret (results_ct rfl _ _ gb789 24 #[.bool t794, .string t795, .string t796] (0, 0) _ rfl (bq BK789.out) Tryz.underlying24 rfl (by kernel_rfl)) rfl ?_
 exact ⟨fe, bz HB.out⟩

/-! ### rational_Int: function 27 -/
def rational_Int.f (k : Nat) (a0 : Int) : Option (Bool × ByteArray × ByteArray) := (rational_magnitude.f k a0).bind fun t799 => ((rational_reduced.f k (decide (a0 < 0)) t799 (⟨#[1]⟩ : ByteArray)).bind fun bt800 => (some (bt800.1, bt800.2.1, bt800.2.2)))
theorem rational_Int.mono : ∀ a0 k, LeO (rational_Int.f k a0) (rational_Int.f (k + 1) a0) := by
 intro a0 k
 unfold rational_Int.f
 repeat' with_reducible first | exact rational_magnitude.mono _ _ | exact rational_reduced.mono _ _ _ _ | exact LeO.refl _ | exact LeO.none _ | refine LeO.ite ?_ ?_ | refine LeO.bind ?_ (fun _ => ?_)
set_option maxHeartbeats 8000000 in
set_option maxRecDepth 100000 in
theorem rational_Int.calls (k : Nat) (a0 : Int) (r1 : Bool) (r2 : ByteArray) (r3 : ByteArray) (w : World) (h : rational_Int.f k a0 = some (r1, r2, r3)) :
  Calls Tryz.prog 27 #[.int .i64 a0] w fun e w' => e = .returned (.agg #[.bool r1, .string r2, .string r3]) ∧ Below w.heap.size w w' := by
 have hu24 := Tryz.underlying24
 have HB := Aside0.mk (Below.refl w.heap.size w)
 have H := h
 clear h
 unfold rational_Int.f at H
 obtain ⟨t799, A2, H⟩ := bs1 H
 obtain ⟨⟨t800, t801, t802⟩, A3, H⟩ := bs1 H; dsimp only at H
 simp only [Option.some.injEq, Prod.mk.injEq] at H
 obtain ⟨rfl, rfl, rfl⟩ := H
 go_enter Tryz.func27, Tryz.ntmps27
 go_wp2_with (first | ((with_reducible refine gd 2 rfl ?_); refine bx 2 (#[.bool false, .string (⟨#[]⟩ : ByteArray), .string (⟨#[]⟩ : ByteArray)]) 24 ?_; intro gb798 hg w4 hbox hb; have BK798 := Aside0.mk (hbox); have GW798 := sg hg HB.out; have GE798 := sg hg HB.out; replace HB := Aside0.mk (bs HB.out hb); clear hb hbox hg) | ((with_reducible refine gc 84 rfl ?_); refine gl (some 6) Tryz.func84 #[.int .i64 a0] ?_; (with_reducible refine (rational_magnitude.calls k a0 t799 _ A2.out).mono ?_); rintro e w5 ⟨rfl, hb⟩; refine ⟨_, rfl, ?_⟩; replace BK798 := Aside0.mk (bk0 BK798.out hb); replace HB := Aside0.mk (bs HB.out hb); (try clear hb)) | ((with_reducible refine gc 62 rfl ?_); refine gl (some 7) Tryz.func62 #[.bool (decide (a0 < 0)), .string t799, .string (⟨#[1]⟩ : ByteArray)] ?_; (with_reducible refine (rational_reduced.calls k (decide (a0 < 0)) t799 (⟨#[1]⟩ : ByteArray) t800 t801 t802 _ A3.out).mono ?_); rintro e w6 ⟨rfl, hb⟩; refine ⟨_, rfl, ?_⟩; replace BK798 := Aside0.mk (bk0 BK798.out hb); replace HB := Aside0.mk (bs HB.out hb); (try clear hb); obtain ⟨hcz7_0, hcz7_1, hcz7_2, hfz7_0, hfz7_1, hfz7_2⟩ := cz BK798.out))
 refine bodyPost_ret (results_cell_row rfl _ _ gb798 24 #[.bool t800, .string t801, .string t802] (0, 0) _ rfl (bq BK798.out) Tryz.underlying24 rfl (by kernel_rfl)) rfl ?_
 exact ⟨fe, bz HB.out⟩

/-! ### insolvencyref1_Int: function 28 -/
def insolvencyref1_Int.f (k : Nat) (a0 : Int) : Option (Bool × ByteArray × ByteArray) := (insolvencyref1_size.f a0).bind fun t804 => ((insolvencyref1_FromUint.f k t804).bind fun t805 => (some (decide (a0 < 0), t805, (⟨#[]⟩ : ByteArray))))
theorem insolvencyref1_Int.mono : ∀ a0 k, LeO (insolvencyref1_Int.f k a0) (insolvencyref1_Int.f (k + 1) a0) := by
 intro a0 k
 unfold insolvencyref1_Int.f
 repeat' with_reducible first | exact insolvencyref1_FromUint.mono _ _ | exact LeO.refl _ | exact LeO.none _ | refine LeO.ite ?_ ?_ | refine LeO.bind ?_ (fun _ => ?_)
set_option maxHeartbeats 8000000 in
set_option maxRecDepth 100000 in
theorem insolvencyref1_Int.calls (k : Nat) (a0 : Int) (r1 : Bool) (r2 : ByteArray) (r3 : ByteArray) (w : World) (h : insolvencyref1_Int.f k a0 = some (r1, r2, r3)) :
  Calls Tryz.prog 28 #[.int .i64 a0] w fun e w' => e = .returned (.agg #[.bool r1, .string r2, .string r3]) ∧ Below w.heap.size w w' := by
 have hu24 := Tryz.underlying24
 have HB := Aside0.mk (Below.refl w.heap.size w)
 have H := h
 clear h
 unfold insolvencyref1_Int.f at H
 obtain ⟨t804, A2, H⟩ := bs1 H
 obtain ⟨t805, A3, H⟩ := bs1 H
 simp only [Option.some.injEq, Prod.mk.injEq] at H
 obtain ⟨rfl, rfl, rfl⟩ := H
 go_enter Tryz.func28, Tryz.ntmps28
 go_wp2_with (first | ((with_reducible refine gd 2 rfl ?_); refine bx 2 (#[.bool false, .string (⟨#[]⟩ : ByteArray), .string (⟨#[]⟩ : ByteArray)]) 24 ?_; intro gb803 hg w4 hbox hb; have BK803 := Aside0.mk (hbox); have GW803 := sg hg HB.out; have GE803 := sg hg HB.out; replace HB := Aside0.mk (bs HB.out hb); clear hb hbox hg) | ((with_reducible refine gc 86 rfl ?_); refine gl (some 6) Tryz.func86 #[.int .i64 a0] ?_; (with_reducible refine (insolvencyref1_size.calls a0 t804 _ A2.out).mono ?_); rintro e w' ⟨rfl, ⟨nd, rfl⟩⟩; refine ⟨_, rfl, ?_⟩; (try (rw [drewN_self w4]; generalize hq_ : World.drewN w4 _ = w4; have n0_ : Aside0 (w4.heap[gb803]? = some (.cells #[.bool false, .string (⟨#[]⟩ : ByteArray), .string (⟨#[]⟩ : ByteArray)] 24 (0, 0))) := ⟨by rw [← hq_]; exact (bq BK803.out)⟩; have n1_ : Aside0 (Below w.heap.size w w4) := ⟨by rw [← hq_]; exact (bz HB.out)⟩; clear BK803 HB hq_; have BK803 := n0_; have HB := n1_; clear n0_ n1_))) | ((with_reducible refine gc 46 rfl ?_); refine gl (some 7) Tryz.func46 #[.int .u64 t804] ?_; (with_reducible refine (insolvencyref1_FromUint.calls k t804 t805 _ A3.out).mono ?_); rintro e w5 ⟨rfl, hb⟩; refine ⟨_, rfl, ?_⟩; replace BK803 := Aside0.mk (bk0 BK803.out hb); replace HB := Aside0.mk (bs HB.out hb); (try clear hb); obtain ⟨hcz6_0, hcz6_1, hcz6_2, hfz6_0, hfz6_1, hfz6_2⟩ := cz BK803.out))
 refine bodyPost_ret (results_cell_row rfl _ _ gb803 24 #[.bool (decide (a0 < 0)), .string t805, .string (⟨#[]⟩ : ByteArray)] (0, 0) _ rfl (bq BK803.out) Tryz.underlying24 rfl (by kernel_rfl)) rfl ?_
 exact ⟨fe, bz HB.out⟩

/-! ### insolvencylaw2_RationalFraction: function 6 -/
def insolvencylaw2_RationalFraction.f (k : Nat) (a0 : Int) (a1 : Int) : Option (Bool) := (rational_Fraction.f k a0 a1).bind fun bt806 => ((insolvencyref1_Fraction.f k a0 a1).bind fun bt811 => ((insolvencylaw2_awake.f k).bind fun t816 => (if t816 = true then (if (bt806.1 == bt811.1 && (bt806.2.1.toList == bt811.2.1.toList && (bt806.2.2.1.toList == bt811.2.2.1.toList))) = true then (if (bt806.2.2.2 == bt811.2.2.2) = true then ((rational_Int.f k a0).bind fun bt817 => ((insolvencyref1_Int.f k a0).bind fun bt820 => (some (bt817.1 == bt820.1 && (bt817.2.1.toList == bt820.2.1.toList && (bt817.2.2.toList == bt820.2.2.toList)))))) else (some false)) else (some false)) else (some false))))
theorem insolvencylaw2_RationalFraction.mono : ∀ a0 a1 k, LeO (insolvencylaw2_RationalFraction.f k a0 a1) (insolvencylaw2_RationalFraction.f (k + 1) a0 a1) := by
 intro a0 a1 k
 unfold insolvencylaw2_RationalFraction.f
 repeat' with_reducible first | exact insolvencylaw2_awake.mono _ | exact insolvencyref1_Fraction.mono _ _ _ | exact insolvencyref1_Int.mono _ _ | exact rational_Fraction.mono _ _ _ | exact rational_Int.mono _ _ | exact LeO.refl _ | exact LeO.none _ | refine LeO.ite ?_ ?_ | refine LeO.bind ?_ (fun _ => ?_)
set_option maxHeartbeats 8000000 in
set_option maxRecDepth 100000 in
theorem insolvencylaw2_RationalFraction.calls (k : Nat) (a0 : Int) (a1 : Int) (r : Bool) (w : World) (h : insolvencylaw2_RationalFraction.f k a0 a1 = some r) (hr : r = true := by first | rfl | assumption) :
  Calls Tryz.prog 6 #[.int .i64 a0, .int .i64 a1] w fun e w' => e = .returned (.bool r) ∧ Below w.heap.size w w' := by
 have hu24 := Tryz.underlying24
 have HB := Aside0.mk (Below.refl w.heap.size w)
 have H := h
 clear h
 unfold insolvencylaw2_RationalFraction.f at H
 obtain ⟨⟨t806, t807, t808, t809⟩, A3, H⟩ := bs1 H; dsimp only at H
 obtain ⟨⟨t811, t812, t813, t814⟩, A4, H⟩ := bs1 H; dsimp only at H
 obtain ⟨t816, A5, H⟩ := bs1 H
 by_cases c6 : t816 = true
 ·subst c6
  have H1 : (if (t806 == t811 && (t807.toList == t812.toList && (t808.toList == t813.toList))) = true then (if (t809 == t814) = true then ((rational_Int.f k a0).bind fun bt817 => ((insolvencyref1_Int.f k a0).bind fun bt820 => (some (bt817.1 == bt820.1 && (bt817.2.1.toList == bt820.2.1.toList && (bt817.2.2.toList == bt820.2.2.toList)))))) else (some false)) else (some false)) = some r := by rw [if_pos rfl] at H; exact H
  clear H
  have H := H1
  clear H1
  by_cases c7 : (t806 == t811 && (t807.toList == t812.toList && (t808.toList == t813.toList))) = true
  ·rw [if_pos c7] at H
   have c7b0 : (t806 == t811 && (t807.toList == t812.toList && (t808.toList == t813.toList))) = true := c7
   (try (have c7b1 : decide (t806 = t811 && (t807.toList == t812.toList && (t808.toList == t813.toList))) = true := by simpa using c7))
   (try (have c7b2 : (t806 == t811 && (t807.toList == t812.toList && (t808.toList == t813.toList))) = true := by simpa using c7))
   clear c7
   by_cases c8 : (t809 == t814) = true
   ·rw [if_pos c8] at H
    have c8b0 : (t809 == t814) = true := c8
    (try (have c8b1 : decide (t809 = t814) = true := by simpa using c8))
    (try (have c8b2 : (t809 == t814) = true := by simpa using c8))
    clear c8
    obtain ⟨⟨t817, t818, t819⟩, A9, H⟩ := bs1 H; dsimp only at H
    obtain ⟨⟨t820, t821, t822⟩, A10, H⟩ := bs1 H; dsimp only at H
    obtain rfl := Option.some.inj H
    go_enter Tryz.func6, Tryz.ntmps6
    go_wp2_with (first | ((with_reducible refine gc 25 rfl ?_); refine gl (some 12) Tryz.func25 #[.int .i64 a0, .int .i64 a1] ?_; (with_reducible refine (rational_Fraction.calls k a0 a1 t806 t807 t808 t809 _ A3.out).mono ?_); rintro e w11 ⟨rfl, hb⟩; refine ⟨_, rfl, ?_⟩; replace HB := Aside0.mk (bs HB.out hb); (try clear hb)) | ((with_reducible refine gd 5 rfl ?_); refine bx 5 (#[.bool false, .string (⟨#[]⟩ : ByteArray), .string (⟨#[]⟩ : ByteArray)]) 24 ?_; intro gb810 hg w12 hbox hb; have BK810 := Aside0.mk (hbox); have GW810 := sg hg HB.out; have GE810 := sg hg HB.out; replace HB := Aside0.mk (bs HB.out hb); clear hb hbox hg; obtain ⟨hcz13_0, hcz13_1, hcz13_2, hfz13_0, hfz13_1, hfz13_2⟩ := cz BK810.out) | ((with_reducible refine gc 26 rfl ?_); refine gl (some 18) Tryz.func26 #[.int .i64 a0, .int .i64 a1] ?_; (with_reducible refine (insolvencyref1_Fraction.calls k a0 a1 t811 t812 t813 t814 _ A4.out).mono ?_); rintro e w14 ⟨rfl, hb⟩; refine ⟨_, rfl, ?_⟩; replace BK810 := Aside0.mk (bk BK810.out hb (.cells #[.bool t806, .string t807, .string t808] 24 (0, 0))); replace HB := Aside0.mk (bs HB.out hb); (try clear hb)) | ((with_reducible refine gd 7 rfl ?_); refine bx 7 (#[.bool false, .string (⟨#[]⟩ : ByteArray), .string (⟨#[]⟩ : ByteArray)]) 24 ?_; intro gb815 hg w15 hbox hb; have BK815 := Aside0.mk (hbox); have GW815 := sg hg HB.out; have GE815 := sg hg HB.out; replace HB := Aside0.mk (bs HB.out hb); have NB810_815 := nl hg BK810.out; have NB815_810 := nr hg BK810.out; replace BK810 := Aside0.mk (bk0 BK810.out hb); clear hb hbox hg; have hnb16 := NB815_810.out; have hnc16 := NB810_815.out; obtain ⟨hcz17_0, hcz17_1, hcz17_2, hfz17_0, hfz17_1, hfz17_2⟩ := cz BK815.out) | ((with_reducible refine gc 16 rfl ?_); refine gl (some 21) Tryz.func16 #[] ?_; (with_reducible refine (insolvencylaw2_awake.calls k  true _ A5.out).mono ?_); rintro e w18 ⟨rfl, hb⟩; refine ⟨_, rfl, ?_⟩; replace BK810 := Aside0.mk (bk0 BK810.out hb); replace BK815 := Aside0.mk (bk BK815.out hb (.cells #[.bool t811, .string t812, .string t813] 24 (0, 0))); replace HB := Aside0.mk (bs HB.out hb); (try clear hb); obtain ⟨hcz19_0, hcz19_1, hcz19_2, hfz19_0, hfz19_1, hfz19_2⟩ := cz BK810.out; obtain ⟨hcz20_0, hcz20_1, hcz20_2, hfz20_0, hfz20_1, hfz20_2⟩ := cz BK815.out) | (go_at_call 27; (with_reducible refine (rational_Int.calls k a0 t817 t818 t819 _ A9.out).mono ?_); rintro e w21 ⟨rfl, hb⟩; replace BK810 := Aside0.mk (bk0 BK810.out hb); replace BK815 := Aside0.mk (bk0 BK815.out hb); replace HB := Aside0.mk (bs HB.out hb); (try clear hb)) | (go_at_call 28; (with_reducible refine (insolvencyref1_Int.calls k a0 t820 t821 t822 _ A10.out).mono ?_); rintro e w22 ⟨rfl, hb⟩; replace BK810 := Aside0.mk (bk0 BK810.out hb); replace BK815 := Aside0.mk (bk0 BK815.out hb); replace HB := Aside0.mk (bs HB.out hb); (try clear hb)))
    go_ret
    exact ⟨fe, bz HB.out⟩
   ·rw [if_neg c8] at H
    exact nf hr H
  ·rw [if_neg c7] at H
   exact nf hr H
 ·replace c6 := Bool.eq_false_iff.mpr c6
  subst c6
  have H1 : (some false) = some r := by rw [if_neg (show ¬ (false = true) by decide)] at H; exact H
  clear H
  have H := H1
  clear H1
  exact nf hr H
/-- THE ONE PURE STATEMENT of insolvencylaw2_RationalFraction: yours. -/
def insolvencylaw2_RationalFraction.Pure : Prop := ∀ (a0 : Int) (a1 : Int), (Lit.int .i64 a0).wf = true → (Lit.int .i64 a1).wf = true → ∃ k, insolvencylaw2_RationalFraction.f k a0 a1 = some true
theorem insolvencylaw2_RationalFraction.walk (P : insolvencylaw2_RationalFraction.Pure) (a0 : Int) (a1 : Int) (w : World) (w0 : (Lit.int .i64 a0).wf = true) (w1 : (Lit.int .i64 a1).wf = true) :
  Calls Tryz.prog 6 #[.int .i64 a0, .int .i64 a1] w fun e w' => e = .returned (.bool true) ∧ Below w.heap.size w w' := by
 obtain ⟨k, h⟩ := P a0 a1 w0 w1
 refine (insolvencylaw2_RationalFraction.calls k a0 a1 true w h).mono ?_
 rintro e w' ⟨rfl, hd⟩
 exact ⟨rfl, hd⟩
end Go.Proofs.YtgepdnoaemeofaaGreatDoor.A
