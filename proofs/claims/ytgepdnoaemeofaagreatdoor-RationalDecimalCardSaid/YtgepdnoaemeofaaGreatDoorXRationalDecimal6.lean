/- Printed by a program of this session (wip/tools) out of the translation: plain functions and the proofs that the code comes to their answers. -/
import Derived.Test.YtgepdnoaemeofaaGreatDoorXRationalDecimal5
namespace Go.Proofs.YtgepdnoaemeofaaGreatDoor.A
open Go.RowKit Go.Proofs.YtgepdnoaemeofaaGreatDoorW.PrintWords Go.Proofs.YtgepdnoaemeofaaGreatDoorW.PrintLast Go.Proofs.YtgepdnoaemeofaaGreatDoorW.PrintMore Go.Proofs.YtgepdnoaemeofaaGreatDoorW.PK
attribute [local go_sem] max2_int min2_int max_two min_two max_three min_three max_four min_four   -- for this text's walks alone
set_option linter.unusedVariables false
set_option linter.unusedSimpArgs false

/-! ### insolvencyref1_divide: function 80 -/
def insolvencyref1_divide.f (k : Nat) (l0 : List Int) (l1 : List Int) : Option (List Int × List Int) := (insolvencyref1_order.f k l0 l1).bind fun t544 => (if t544 < 0 then (some (([] : List Int), l0)) else (if (l1.length : Int) = 1 then (if 0 < (l1.length : Int) then ((insolvencyref1_short.f k l0 (rd l1 0)).bind fun bt546 => ((insolvencyref1_strip.f k (([bt546.2] : List Int))).bind fun t553 => (some (bt546.1, t553)))) else (none)) else ((insolvencyref1_long.f k l0 l1).bind fun bt556 => (some (bt556.1, bt556.2)))))
set_option maxHeartbeats 8000000 in
set_option maxRecDepth 100000 in
theorem insolvencyref1_divide.calls (k : Nat) (P0_ : Nat → Prop) (A0 : Option Addr) (c0 : Nat) (l0 : List Int) (A1 : Option Addr) (c1 : Nat) (l1 : List Int) (r1 : List Int) (r2 : List Int) (w : World) (hs0 : Kd.V (Kd.int .u32) 52 w w.heap.size (fun k_ => P0_ k_) (.slice A0 l0.length c0) l0) (hr1 : Kd.C (Kd.int .u32) w A1 l1.length l1) (hc1 : l1.length ≤ c1) (h : insolvencyref1_divide.f k l0 l1 = some (r1, r2)) :
  Calls Tryz.prog 80 #[.slice A0 l0.length c0, .slice A1 l1.length c1] w fun e w' => ∃ v0_ v1_ : Value, e = .returned (.tuple #[v0_, v1_]) ∧ Kd.V (Kd.int .u32) 52 w' w.heap.size (fun k_ => (P0_ k_ ∨ w.heap.size ≤ k_)) v0_ r1 ∧ Kd.V (Kd.int .u32) 52 w' w.heap.size (fun k_ => (P0_ k_ ∨ w.heap.size ≤ k_)) v1_ r2 ∧ Below w.heap.size w w' := by
 have HO0 := Aside0.mk (show Kd.V (Kd.int .u32) 52 w w.heap.size (fun k_ => (P0_ k_ ∨ w.heap.size ≤ k_)) (.slice A0 l0.length c0) l0 from Kd.V_mono hs0 (fun k_ hk => .inl hk))
 have HR1 := Aside0.mk hr1
 have HC1 := Aside0.mk hc1
 clear hr1 hc1
 have HB := Aside0.mk (Below.refl w.heap.size w)
 have H := h
 clear h
 unfold insolvencyref1_divide.f at H
 obtain ⟨t544, A3, H⟩ := bs1 H
 by_cases c4 : t544 < 0
 ·rw [if_pos c4] at H
  have c4b0 : decide (t544 < 0) = true := decide_eq_true c4
  clear c4
  simp only [Option.some.injEq, Prod.mk.injEq] at H
  obtain ⟨rfl, rfl⟩ := H
  go_enter Tryz.func80, Tryz.ntmps80
  go_wp2_with (first | ((with_reducible refine gc 127 rfl ?_); refine gl (some 10) Tryz.func127 #[.slice A0 l0.length c0, .slice A1 l1.length c1] ?_; (with_reducible refine (insolvencyref1_order.calls k _ _ l0 _ _ l1 t544 _ ?side1 ?side2 ?side3 ?side4 A3.out).mono ?_); (case side1 => exact vs (Kd.V_reads' HO0.out).2.2); (case side2 => exact (Kd.V_reads' HO0.out).2.1); (case side3 => repeat (first | exact HR1.out | (with_reducible refine Kd.C_alloc ?_ _) | (with_reducible refine Kd.C_drewN ?_ _) | (with_reducible refine Kd.C_drew ?_))); (case side4 => exact HC1.out); rintro e w' ⟨rfl, ⟨nd, rfl⟩⟩; refine ⟨_, rfl, ?_⟩))
  go_ret2
  exact ⟨_, _, fe, (by first | exact Kd.V_nil _ _ _ _ _ | exact Kd.V_mono (Kd.R_V (by first | exact Kd.R_nil _ _ _ _ _ | exact Kd.N_nil _ _ _ _ _ | exact Kd.V_nil _ _ _ _ _ | exact Kd.Q_nil _ _ _ _ _ | exact Kd.S_nil _ _ _ _ _)) (fun k_ hk => by first | exact ⟨(.inr (hk.1)), hk.2⟩ | exact (.inr (hk)))), vs HO0.out, bz HB.out⟩
 ·rw [if_neg c4] at H
  have c4b0 : decide (t544 < 0) = false := decide_eq_false c4
  clear c4
  by_cases c5 : (l1.length : Int) = 1
  ·rw [if_pos c5] at H
   have c5b0 := beq_iff_eq.mpr c5
   have c5b1 := bne_eq_false_iff_eq.mpr c5
   clear c5
   obtain ⟨c6, H⟩ := iN H
   have c6b0 : decide (0 < (l1.length : Int)) = true := decide_eq_true c6
   have c6b1 : decide (0 < l1.length) = true := decide_eq_true (by omega)
   clear c6
   obtain ⟨⟨t546, t549⟩, A7, H⟩ := bs1 H; dsimp only at H
   obtain ⟨y550, hy550⟩ : ∃ y_ : List Int, y_ = (([t549] : List Int)) := ⟨_, rfl⟩
   (try first | rw [← hy550] at H | (dsimp only at H; rw [← hy550] at H)); (try rw [Option.bind_some] at H)
   have Ny550 := Aside0.mk hy550
   clear hy550
   obtain ⟨t553, A8, H⟩ := bs1 H
   simp only [Option.some.injEq, Prod.mk.injEq] at H
   obtain ⟨rfl, rfl⟩ := H
   go_enter Tryz.func80, Tryz.ntmps80
   go_wp2_with (first | ((with_reducible refine gc 127 rfl ?_); refine gl (some 10) Tryz.func127 #[.slice A0 l0.length c0, .slice A1 l1.length c1] ?_; (with_reducible refine (insolvencyref1_order.calls k _ _ l0 _ _ l1 t544 _ ?side1 ?side2 ?side3 ?side4 A3.out).mono ?_); (case side1 => exact vs (Kd.V_reads' HO0.out).2.2); (case side2 => exact (Kd.V_reads' HO0.out).2.1); (case side3 => repeat (first | exact HR1.out | (with_reducible refine Kd.C_alloc ?_ _) | (with_reducible refine Kd.C_drewN ?_ _) | (with_reducible refine Kd.C_drew ?_))); (case side4 => exact HC1.out); rintro e w' ⟨rfl, ⟨nd, rfl⟩⟩; refine ⟨_, rfl, ?_⟩; have p545 : 0 ≤ (0 : Int) := (by omega); have q545 : 0 < (l1.length : Int) := oa; obtain ⟨ad545, e545, hx545_0⟩ := Kd.at_int HR1.out 0 p545 q545; cases e545; have qi545 : (0 < l1.length) = True := eq_true (by omega); (try rw [show ((0 : Int)).toNat = 0 from rfl] at hx545_0); (try rw [Addr.add_zero'] at hx545_0); replace p545 := eq_true p545; replace q545 := eq_true q545) | ((with_reducible refine gc 128 rfl ?_); refine gl (some 21) Tryz.func128 #[.slice A0 l0.length c0, .int .u32 (rd l1 0)] ?_; (with_reducible refine (insolvencyref1_short.calls k _ _ l0 (rd l1 0) t546 t549 _ ?side1 ?side2 A7.out).mono ?_); (case side1 => exact vs (Kd.V_reads' HO0.out).2.2); (case side2 => exact (Kd.V_reads' HO0.out).2.1); rintro e w9 ⟨v547, rfl, ho0, hb⟩; refine ⟨_, rfl, ?_⟩; replace HO0 := Aside0.mk (vb HO0.out hb); have HO548 := Aside0.mk (Kd.V_lower (Kd.V_mono (ok' := fun k_ => (P0_ k_ ∨ w.heap.size ≤ k_)) ho0 (fun k_ hk_ => (.inr (Nat.le_trans (sz HB.out) hk_)))) (sz HB.out)); replace HB := Aside0.mk (bs HB.out hb); (try clear hb ho0)) | ((with_reducible refine gd 26 rfl ?_); refine Kd.R_lit (Kd.int .u32) _ 52 ?hg (N := 26) ?hd (xs := ([t549] : List Int)) (inner := [.int .u32 t549]) (ok := fun _ => True) (okp := fun _ => True) ?hr ?hp (fun _ hk => hk) trivial (Below.refl _ _) (Nat.le_refl _) (by simp) ?_; (case hd => rfl); (case hg => rfl); (case hr => first | (go_simp; done) | (go_simp; rfl)); (case hp => exact (Reps.one (show Kd.M (Kd.int .u32) _ _ _ t549 [.int .u32 t549] from rfl) (Reps.none _ _))); intro v551 w10 ho11 hb hg_ hnew_; clear hg_ hnew_; (first | rw [← Ny550.out] at ho11 | (simp only [Int.reduceToNat] at ho11; rw [← Ny550.out] at ho11)); replace HO0 := Aside0.mk (Kd.V_elder' (vs HO0.out) (Kd.R_base ho11) hb); replace HO548 := Aside0.mk (Kd.V_elder' (vs HO548.out) (Kd.R_base ho11) hb); have HO552 := Aside0.mk (Kd.R_lower (Kd.R_newM (M := fun k_ => (w.heap.size ≤ k_)) ho11 (sz HB.out) (fun k_ h_ => h_)) (sz HB.out)); replace HB := Aside0.mk (bs HB.out hb); clear hb ho11; obtain ⟨Ao12, co12, eo12⟩ := Kd.R_slice HO552.out; subst eo12) | ((with_reducible refine gc 71 rfl ?_); refine gl (some 27) Tryz.func71 #[.slice Ao12 y550.length co12] ?_; (with_reducible refine (insolvencyref1_strip.calls k (fun k_ => some k_ = (.slice Ao12 y550.length co12 : Value).ownBlock) _ _ y550 t553 _ ?side1 A8.out).mono ?_); (case side1 => exact Kd.R_V (Kd.R_tight rfl (HO552.out))); rintro e w13 ⟨v554, rfl, ho0, hb⟩; refine ⟨_, rfl, ?_⟩; replace HO0 := Aside0.mk (vb HO0.out hb); replace HO548 := Aside0.mk (vb HO548.out hb); have HO555 := Aside0.mk (Kd.V_lower (Kd.V_mono (ok' := fun k_ => (P0_ k_ ∨ w.heap.size ≤ k_)) ho0 (fun k_ hk_ => Or.elim hk_ (fun hs_ => (.inr (((HO552.out).1 k_ hs_.symm).1))) (fun hn_ => (.inr (Nat.le_trans (sz HB.out) hn_))))) (sz HB.out)); replace HO552 := Aside0.mk (rb HO552.out hb); replace HB := Aside0.mk (bs HB.out hb); (try clear hb ho0)))
   go_ret2
   exact ⟨_, _, fe, vm HO548.out (fun _ hk => hk.1), vs HO555.out, bz HB.out⟩
  ·rw [if_neg c5] at H
   have c5b0 := beq_eq_false_iff_ne.mpr c5
   have c5b1 := bne_iff_ne.mpr c5
   obtain ⟨⟨t556, t559⟩, A14, H⟩ := bs1 H; dsimp only at H
   simp only [Option.some.injEq, Prod.mk.injEq] at H
   obtain ⟨rfl, rfl⟩ := H
   go_enter Tryz.func80, Tryz.ntmps80
   go_wp2_with (first | ((with_reducible refine gc 127 rfl ?_); refine gl (some 10) Tryz.func127 #[.slice A0 l0.length c0, .slice A1 l1.length c1] ?_; (with_reducible refine (insolvencyref1_order.calls k _ _ l0 _ _ l1 t544 _ ?side1 ?side2 ?side3 ?side4 A3.out).mono ?_); (case side1 => exact vs (Kd.V_reads' HO0.out).2.2); (case side2 => exact (Kd.V_reads' HO0.out).2.1); (case side3 => repeat (first | exact HR1.out | (with_reducible refine Kd.C_alloc ?_ _) | (with_reducible refine Kd.C_drewN ?_ _) | (with_reducible refine Kd.C_drew ?_))); (case side4 => exact HC1.out); rintro e w' ⟨rfl, ⟨nd, rfl⟩⟩; refine ⟨_, rfl, ?_⟩) | ((with_reducible refine gc 129 rfl ?_); refine gl (some 30) Tryz.func129 #[.slice A0 l0.length c0, .slice A1 l1.length c1] ?_; (with_reducible refine (insolvencyref1_long.calls k _ _ l0 _ _ l1 t556 t559 _ ?side1 ?side2 ?side3 ?side4 A14.out).mono ?_); (case side1 => exact vs (Kd.V_reads' HO0.out).2.2); (case side2 => exact (Kd.V_reads' HO0.out).2.1); (case side3 => repeat (first | exact HR1.out | (with_reducible refine Kd.C_alloc ?_ _) | (with_reducible refine Kd.C_drewN ?_ _) | (with_reducible refine Kd.C_drew ?_))); (case side4 => exact HC1.out); rintro e w15 ⟨v557, v560, rfl, ho0, ho1, hb⟩; refine ⟨_, rfl, ?_⟩; replace HO0 := Aside0.mk (vb HO0.out hb); have HO558 := Aside0.mk (Kd.V_lower (Kd.V_mono (ok' := fun k_ => (P0_ k_ ∨ w.heap.size ≤ k_)) ho0 (fun k_ hk_ => (.inr (Nat.le_trans (sz HB.out) hk_)))) (sz HB.out)); have HO561 := Aside0.mk (Kd.V_lower (Kd.V_mono (ok' := fun k_ => (P0_ k_ ∨ w.heap.size ≤ k_)) ho1 (fun k_ hk_ => (.inr (Nat.le_trans (sz HB.out) hk_)))) (sz HB.out)); replace HB := Aside0.mk (bs HB.out hb); (try clear hb ho0 ho1)))
   go_ret2
   exact ⟨_, _, fe, vs HO558.out, vs HO561.out, bz HB.out⟩

/-! ### insolvencyref1_Normalize: function 118 -/
def insolvencyref1_Normalize.l0 : Nat → ByteArray → Int → Option (ByteArray)
 | 0, _, _ => none
 | k + 1, x0, x3 => if x3 < (x0.size : Int) then (if 0 ≤ x3 then (if (bt x0 x3) = 0 then (insolvencyref1_Normalize.l0 k x0 (wrap64 (x3 + 1))) else (if x3 ≤ (x0.size : Int) then (some (x0.extract (x3 : Int).toNat x0.size)) else (none))) else (none)) else (if 0 ≤ x3 then (if x3 ≤ (x0.size : Int) then (some (x0.extract (x3 : Int).toNat x0.size)) else (none)) else (none))
def insolvencyref1_Normalize.f (k : Nat) (a0 : ByteArray) : Option (ByteArray) := insolvencyref1_Normalize.l0 k a0 0
set_option maxHeartbeats 8000000 in
set_option maxRecDepth 100000 in
theorem insolvencyref1_Normalize.calls (k : Nat) (a0 : ByteArray) (r : ByteArray) (w : World) (h : insolvencyref1_Normalize.f k a0 = some r) :
  Calls Tryz.prog 118 #[.string a0] w fun e w' => e = .returned (.string r) ∧ Drawn0 w w' := by
 have H := h
 clear h
 unfold insolvencyref1_Normalize.f at H
 have H' := Aside0.mk H
 clear H
 go_enter Tryz.func118, Tryz.ntmps118
 go_wp2
 go_loopg [3] k (fun kq v3 w' => ∃ (x3_1 : Int), v3 = .int .i64 x3_1 ∧ Aside0 (insolvencyref1_Normalize.l0 kq a0 x3_1 = some r) ∧ Aside0 (kq ≤ k) ∧ Drawn0 w w')
 case atStart => exact ⟨(0), fs, H', ⟨Nat.le_refl _⟩, dz⟩
 case round =>
  clear H'
  obtain ⟨x3_1, rfl, HA, HK1, ⟨m1, rfl⟩⟩ := hrel
  cases gk with
  | zero => exact absurd HA.out (by simp [insolvencyref1_Normalize.l0])
  | succ k1 =>
   have H := HA.out
   clear HA
   simp only [insolvencyref1_Normalize.l0] at H
   by_cases c2 : x3_1 < (a0.size : Int)
   ·rw [if_pos c2] at H
    have c2b0 : decide (x3_1 < (a0.size : Int)) = true := decide_eq_true c2
    clear c2
    obtain ⟨c3, H⟩ := iN H
    have c3b0 : decide (0 ≤ x3_1) = true := decide_eq_true c3
    clear c3
    by_cases c5 : (bt a0 x3_1) = 0
    ·rw [if_pos c5] at H
     have c5b0 := beq_iff_eq.mpr c5
     have c5b1 := bne_eq_false_iff_eq.mpr c5
     clear c5
     have H' := Aside0.mk H
     clear H
     have p4 : 0 ≤ (x3_1 : Int) := oa
     have q4 : x3_1 < (a0.size : Int) := oa
     have hx4 := bt_at a0 x3_1
     replace p4 := eq_true p4
     replace q4 := eq_true q4
     go_wp2
     go_roundg k1
     case measure => have := HK1.out; omega
     case rel => exact ⟨(wrap64 (x3_1 + 1)), fs, H', ⟨by have := HK1.out; omega⟩, dz⟩
    ·rw [if_neg c5] at H
     have c5b0 := beq_eq_false_iff_ne.mpr c5
     have c5b1 := bne_iff_ne.mpr c5
     have c6b0 := eq_true (oa : 0 ≤ x3_1)
     obtain ⟨c7, H⟩ := iN H
     have c7b0 := eq_true c7
     have c7b1 : decide (x3_1 ≤ (a0.size : Int)) = true := decide_eq_true c7
     clear c7
     obtain rfl := Option.some.inj H
     have p4 : 0 ≤ (x3_1 : Int) := oa
     have q4 : x3_1 < (a0.size : Int) := oa
     have hx4 := bt_at a0 x3_1
     replace p4 := eq_true p4
     replace q4 := eq_true q4
     go_wp2
     go_ret
     exact ⟨fs, dz⟩
   ·rw [if_neg c2] at H
    have c2b0 : decide (x3_1 < (a0.size : Int)) = false := decide_eq_false c2
    clear c2
    obtain ⟨c8, H⟩ := iN H
    have c8b0 := eq_true c8
    have c8b1 : decide (0 ≤ x3_1) = true := decide_eq_true c8
    clear c8
    obtain ⟨c9, H⟩ := iN H
    have c9b0 := eq_true c9
    have c9b1 : decide (x3_1 ≤ (a0.size : Int)) = true := decide_eq_true c9
    clear c9
    obtain rfl := Option.some.inj H
    go_wp2
    go_ret
    exact ⟨fs, dz⟩

/-! ### insolvencyref1_text: function 97 -/
def insolvencyref1_text.l0 : Nat → List Int → List Int → Int → Option (ByteArray)
 | 0, _, _, _ => none
 | k + 1, x0, x3, x4 => if x4 ≥ 0 then (if 0 ≤ x4 then (if x4 < (x0.length : Int) then ((some (([((rd x0 x4) / 16777216) % 256, ((rd x0 x4) / 65536) % 256, ((rd x0 x4) / 256) % 256, (rd x0 x4) % 256] : List Int) : List Int)).bind fun y569 => (if x3.length + y569.length < 140737488355328 then (insolvencyref1_text.l0 k x0 (x3 ++ y569) (wrap64 (x4 - 1))) else (none))) else (none)) else (none)) else ((insolvencyref1_Normalize.f k (strOfNums x3)).bind fun t575 => (some t575))
def insolvencyref1_text.f (k : Nat) (l0 : List Int) : Option (ByteArray) := (insolvencyref1_strip.f k l0).bind fun t562 => (if 0 ≤ (wrap64 (4 * (t562.length : Int))) then (if (wrap64 (4 * (t562.length : Int)) : Int).toNat ≤ 281474976710656 then (insolvencyref1_text.l0 k t562 (([] : List Int)) (wrap64 ((t562.length : Int) - 1))) else (none)) else (none))
set_option maxHeartbeats 8000000 in
set_option maxRecDepth 100000 in
theorem insolvencyref1_text.calls (k : Nat) (A0 : Option Addr) (c0 : Nat) (l0 : List Int) (r : ByteArray) (w : World) (hr0 : Kd.C (Kd.int .u32) w A0 l0.length l0) (hc0 : l0.length ≤ c0) (h : insolvencyref1_text.f k l0 = some r) :
  Calls Tryz.prog 97 #[.slice A0 l0.length c0] w fun e w' => e = .returned (.string r) ∧ Below w.heap.size w w' := by
 have HR0 := Aside0.mk hr0
 have HC0 := Aside0.mk hc0
 clear hr0 hc0
 have HB := Aside0.mk (Below.refl w.heap.size w)
 have H := h
 clear h
 unfold insolvencyref1_text.f at H
 obtain ⟨t562, A2, H⟩ := bs1 H
 obtain ⟨ji3, hji3⟩ : ∃ j_ : Int, (wrap64 (4 * (t562.length : Int))) = j_ := ⟨_, rfl⟩
 first | rw [hji3] at H | simp only [hji3] at H
 (try rw [hji3] at A2)
 have hji3w : (IntKind.i64.wrap (4 * (t562.length : Int))) = ji3 := (i64_w _).trans hji3
 obtain ⟨c4, H⟩ := iN H
 have c4b0 := eq_true c4
 have c4b1 : decide (0 ≤ (ji3)) = true := decide_eq_true c4
 clear c4
 obtain ⟨c5, H⟩ := iN H
 have c5b0 := eq_true c5
 have c5b1 : decide ((ji3 : Int).toNat ≤ 281474976710656) = true := decide_eq_true c5
 clear c5
 obtain ⟨y565, hy565⟩ : ∃ y_ : List Int, y_ = (([] : List Int)) := ⟨_, rfl⟩
 (try first | rw [← hy565] at H | (dsimp only at H; rw [← hy565] at H)); (try rw [Option.bind_some] at H)
 have Ny565 := Aside0.mk hy565
 clear hy565
 have H' := Aside0.mk H
 clear H
 go_enter Tryz.func97, Tryz.ntmps97
 go_wp2_with (first | ((with_reducible refine gc 71 rfl ?_); refine gl (some 7) Tryz.func71 #[.slice A0 l0.length c0] ?_; (with_reducible refine (insolvencyref1_strip.calls k (fun k_ => k_ < w.heap.size) _ _ l0 t562 _ ?side1 A2.out).mono ?_); (case side1 => exact Kd.V_mk HC0.out (Kd.F_below (Kd.C_F (Kd.heap_int .u32) HR0.out) (bz HB.out))); rintro e w6 ⟨v563, rfl, ho0, hb⟩; refine ⟨_, rfl, ?_⟩; have HO564 := Aside0.mk (Kd.V_lower (Kd.V_mono (ok' := fun k_ => True) ho0 (fun k_ hk_ => trivial)) (sz HB.out)); replace HB := Aside0.mk (bs HB.out hb); (try clear hb ho0); obtain ⟨Ao7, co7, rfl⟩ := Kd.V_slice HO564.out) | ((with_reducible refine gd 11 rfl ?_); refine Kd.R_makecap (Kd.int .u8) _ 5 rfl (N := 11) rfl 57 _ _ rfl ji3 rfl rfl Tryz.underlying57 (.int .u8 0) 1 info5 rfl (by decide) (by omega) 0 (ok := fun _ => True) (okp := fun _ => True) rfl (fun _ hk => hk) trivial oa (Nat.le_trans (Nat.mul_le_mul_right _ (oa : ji3.toNat ≤ 281474976710656)) (by omega)) (Below.refl _ _) (Nat.le_refl _) ?_; intro v566 w8 ho9 hb hg_ hnew_; clear hg_ hnew_; (first | rw [← Ny565.out] at ho9 | (simp only [Int.reduceToNat] at ho9; rw [← Ny565.out] at ho9)); replace HO564 := Aside0.mk (Kd.V_elder' (vs HO564.out) (Kd.R_base ho9) hb); have HO567 := Aside0.mk (Kd.R_lower ho9 (sz HB.out)); replace HB := Aside0.mk (bs HB.out hb); clear hb ho9))
 go_loopg [3, 4] k (fun kq v3 v4 w' => ∃ (x3_1 : List Int) (x4_1 : Int), v4 = .int .i64 x4_1 ∧ Aside0 (insolvencyref1_text.l0 kq t562 x3_1 x4_1 = some r) ∧ Aside0 (kq ≤ k) ∧ Aside0 (Kd.V (Kd.int .u32) 52 w' w.heap.size (fun k_ => some k_ ≠ (v3 : Value).ownBlock) (.slice Ao7 t562.length co7) t562) ∧ Aside0 (Kd.R (Kd.int .u8) 5 w' w.heap.size (fun _ => True) v3 x3_1) ∧ Aside0 (Below w.heap.size w w'))
 case atStart => exact ⟨(y565), (wrap64 ((t562.length : Int) - 1)), fs, H', ⟨Nat.le_refl _⟩, ⟨vm HO564.out (fun _ hk => hk.2)⟩, ⟨vs HO567.out⟩, ⟨bz HB.out⟩⟩
 case round =>
  clear H'
  (try clear c4b0); (try clear c4b1); (try clear c5b0); (try clear c5b1)
  obtain ⟨x3_1, x4_1, rfl, HA, HK1, HO_0, HO_3, HB⟩ := hrel
  cases gk with
  | zero => exact absurd HA.out (by simp [insolvencyref1_text.l0])
  | succ k1 =>
   have H := HA.out
   clear HA
   simp only [insolvencyref1_text.l0] at H
   by_cases c10 : x4_1 ≥ 0
   ·rw [if_pos c10] at H
    have c10b0 : decide (0 ≤ x4_1) = true := decide_eq_true c10
    clear c10
    obtain ⟨c11, H⟩ := iN H
    have c11b0 : decide (0 ≤ x4_1) = true := decide_eq_true c11
    clear c11
    obtain ⟨c12, H⟩ := iN H
    have c12b0 : decide (x4_1 < (t562.length : Int)) = true := decide_eq_true c12
    clear c12
    obtain ⟨y569, hy569⟩ : ∃ y_ : List Int, y_ = (([((rd t562 x4_1) / 16777216) % 256, ((rd t562 x4_1) / 65536) % 256, ((rd t562 x4_1) / 256) % 256, (rd t562 x4_1) % 256] : List Int)) := ⟨_, rfl⟩
    (try first | rw [← hy569] at H | (dsimp only at H; rw [← hy569] at H)); (try rw [Option.bind_some] at H)
    have Ny569 := Aside0.mk hy569
    clear hy569
    obtain ⟨c13, H⟩ := iN H
    have LMc13 := Aside0.mk c13
    clear c13
    obtain ⟨y572, hy572⟩ : ∃ y_ : List Int, y_ = (x3_1 ++ y569) := ⟨_, rfl⟩
    (try first | rw [← hy572] at H | (dsimp only at H; rw [← hy572] at H)); (try rw [Option.bind_some] at H)
    have Ny572 := Aside0.mk hy572
    clear hy572
    have H' := Aside0.mk H
    clear H
    have p568 : 0 ≤ (x4_1 : Int) := oa
    have q568 : x4_1 < (t562.length : Int) := oa
    obtain ⟨ad568, e568, hx568_0⟩ := Kd.at_int (Kd.V_reads' HO_0.out).2.2 x4_1 p568 q568
    cases e568
    replace p568 := eq_true p568
    replace q568 := eq_true q568
    go_wp2_with (first | ((with_reducible refine gd 35 rfl ?_); refine Kd.R_lit (Kd.int .u8) _ 5 ?hg (N := 35) ?hd (xs := ([((rd t562 x4_1) / 16777216) % 256, ((rd t562 x4_1) / 65536) % 256, ((rd t562 x4_1) / 256) % 256, (rd t562 x4_1) % 256] : List Int)) (inner := [.int .u8 (((rd t562 x4_1) / 16777216) % 256), .int .u8 (((rd t562 x4_1) / 65536) % 256), .int .u8 (((rd t562 x4_1) / 256) % 256), .int .u8 ((rd t562 x4_1) % 256)]) (ok := fun _ => True) (okp := fun _ => True) ?hr ?hp (fun _ hk => hk) trivial (Below.refl _ _) (Nat.le_refl _) (by simp) ?_; (case hd => rfl); (case hg => rfl); (case hr => first | (go_simp; done) | (go_simp; rfl)); (case hp => exact (Reps.one (show Kd.M (Kd.int .u8) _ _ _ (((rd t562 x4_1) / 16777216) % 256) [.int .u8 (((rd t562 x4_1) / 16777216) % 256)] from rfl) (Reps.one (show Kd.M (Kd.int .u8) _ _ _ (((rd t562 x4_1) / 65536) % 256) [.int .u8 (((rd t562 x4_1) / 65536) % 256)] from rfl) (Reps.one (show Kd.M (Kd.int .u8) _ _ _ (((rd t562 x4_1) / 256) % 256) [.int .u8 (((rd t562 x4_1) / 256) % 256)] from rfl) (Reps.one (show Kd.M (Kd.int .u8) _ _ _ ((rd t562 x4_1) % 256) [.int .u8 ((rd t562 x4_1) % 256)] from rfl) (Reps.none _ _)))))); intro v570 w14 ho15 hb hg_ hnew_; clear hg_ hnew_; (first | rw [← Ny569.out] at ho15 | (simp only [Int.reduceToNat] at ho15; rw [← Ny569.out] at ho15)); replace HO_0 := Aside0.mk (Kd.V_elder' (vs HO_0.out) (Kd.R_base ho15) hb); have HO571 := Aside0.mk (Kd.R_lower (Kd.R_new' ho15 (Kd.R_lt (vs HO_3.out))) (sz HB.out)); replace HO_3 := Aside0.mk (Kd.R_elder' (vs HO_3.out) (Kd.R_base ho15) hb); replace HB := Aside0.mk (bs HB.out hb); clear hb ho15; obtain ⟨Ao17, co17, eo17⟩ := Kd.R_slice HO571.out; subst eo17) | ((with_reducible refine gate_builtin (b := .append) (xs := #[.tmp 23, .tmp 35]) rfl ?_); at_builtin; refine Kd.R_append_rows (Kd.int .u8) (w0 := w) w.heap.size rfl (.tmp 23) (.tmp 35) 57 5 (.int .u8 0) 1 rfl Tryz.underlying57 info5 rfl (by decide) (by omega) u3 x3_1 y569 _ _ _ (fun k_ => some k_ ≠ (.slice Ao17 y569.length co17 : Value).ownBlock) (fun _ => False) rfl rfl ?aO ?aR (fun _ _ h => h) (fun _ h => h.elim) ?aF ?aB ?aS ?aL ?_; (case aR => exact vs (Kd.R_reads' HO571.out).2.2); (case aB => exact (bz HB.out)); (case aF => exact (fun k_ hk => Kd.fresh' (Kd.R_lt (vs HO571.out)) k_ hk)); (case aO => exact (rm HO_3.out (fun _ hk => hk.2))); (case aS => exact (sz HB.out)); (case aL => have := LMc13.out; omega); intro v573 w16 ho hb hg hat; rw [← Ny572.out] at ho; replace HO_0 := Aside0.mk (Kd.V_afterv (ok := (fun k_ => some k_ ≠ (.slice Ao17 y569.length co17 : Value).ownBlock)) (vm HO_0.out (fun _ hk => ⟨hk.2, hk.1⟩)) hg hat); replace HO571 := Aside0.mk (Kd.R_after (ok := (fun _ => True)) (vs HO571.out) hg hat); replace HB := Aside0.mk (hb); have HO574 := Aside0.mk (ho); clear HO_3; clear ho hb hg hat))
    go_roundg k1
    case measure => have := HK1.out; omega
    case rel => exact ⟨(y572), (wrap64 (x4_1 - 1)), fs, H', ⟨by have := HK1.out; omega⟩, ⟨vm HO_0.out (fun _ hk => hk.2)⟩, ⟨rm HO574.out (fun _ hk => trivial)⟩, ⟨bz HB.out⟩⟩
   ·rw [if_neg c10] at H
    have c10b0 : decide (0 ≤ x4_1) = false := decide_eq_false c10
    clear c10
    obtain ⟨t575, A18, H⟩ := bs1 H
    obtain rfl := Option.some.inj H
    have hcv19 := own_string (P := Tryz.prog) Tryz.underlying57 Tryz.underlying5 Tryz.underlying9 (Kd.own_of_R HO_3.out)
    go_wp2_with (first | ((with_reducible refine gc 118 rfl ?_); refine gl (some 39) Tryz.func118 #[.string (strOfNums x3_1)] ?_; (with_reducible refine (insolvencyref1_Normalize.calls k1 (strOfNums x3_1) t575 _ A18.out).mono ?_); rintro e w' ⟨rfl, ⟨nd, rfl⟩⟩; refine ⟨_, rfl, ?_⟩))
    go_ret
    exact ⟨by first | rfl | (simp [errW_none, errW_some] <;> rfl) | (simp only [← hji3]; first | rfl | (simp [errW_none, errW_some] <;> rfl)) | (simp [*, errW_none, errW_some] <;> rfl), bz HB.out⟩

/-! ### insolvencyref1_common: function 114 -/
def insolvencyref1_common.l0 : Nat → List Int → List Int → Option (List Int)
 | 0, _, _ => none
 | k + 1, x0, x1 => if (x1.length : Int) > 0 then ((insolvencyref1_divide.f k x0 x1).bind fun bt576 => (insolvencyref1_common.l0 k x1 bt576.2)) else (some x0)
def insolvencyref1_common.f (k : Nat) (l0 : List Int) (l1 : List Int) : Option (List Int) := insolvencyref1_common.l0 k l0 l1
set_option maxHeartbeats 8000000 in
set_option maxRecDepth 100000 in
theorem insolvencyref1_common.calls (k : Nat) (P0_ : Nat → Prop) (A0 : Option Addr) (c0 : Nat) (l0 : List Int) (P1_ : Nat → Prop) (A1 : Option Addr) (c1 : Nat) (l1 : List Int) (r : List Int) (w : World) (hs0 : Kd.V (Kd.int .u32) 52 w w.heap.size (fun k_ => P0_ k_) (.slice A0 l0.length c0) l0) (hs1 : Kd.V (Kd.int .u32) 52 w w.heap.size (fun k_ => P1_ k_) (.slice A1 l1.length c1) l1) (h : insolvencyref1_common.f k l0 l1 = some r) :
  Calls Tryz.prog 114 #[.slice A0 l0.length c0, .slice A1 l1.length c1] w fun e w' => ∃ v0_ : Value, e = .returned (v0_) ∧ Kd.V (Kd.int .u32) 52 w' w.heap.size (fun k_ => ((P0_ k_ ∨ P1_ k_) ∨ w.heap.size ≤ k_)) v0_ r ∧ Below w.heap.size w w' := by
 have HO0 := Aside0.mk (show Kd.V (Kd.int .u32) 52 w w.heap.size (fun k_ => ((P0_ k_ ∨ P1_ k_) ∨ w.heap.size ≤ k_)) (.slice A0 l0.length c0) l0 from Kd.V_mono hs0 (fun k_ hk => .inl (.inl hk)))
 have HO1 := Aside0.mk (show Kd.V (Kd.int .u32) 52 w w.heap.size (fun k_ => ((P0_ k_ ∨ P1_ k_) ∨ w.heap.size ≤ k_)) (.slice A1 l1.length c1) l1 from Kd.V_mono hs1 (fun k_ hk => .inl (.inr hk)))
 have HB := Aside0.mk (Below.refl w.heap.size w)
 have H := h
 clear h
 unfold insolvencyref1_common.f at H
 have H' := Aside0.mk H
 clear H
 go_enter Tryz.func114, Tryz.ntmps114
 go_wp2
 go_loopg [0, 1] k (fun kq v0 v1 w' => ∃ (x0_1 : List Int) (x1_1 : List Int), Aside0 (insolvencyref1_common.l0 kq x0_1 x1_1 = some r) ∧ Aside0 (kq ≤ k) ∧ Aside0 (Kd.V (Kd.int .u32) 52 w' w.heap.size (fun k_ => ((P0_ k_ ∨ P1_ k_) ∨ w.heap.size ≤ k_)) v0 x0_1) ∧ Aside0 (Kd.V (Kd.int .u32) 52 w' w.heap.size (fun k_ => ((P0_ k_ ∨ P1_ k_) ∨ w.heap.size ≤ k_)) v1 x1_1) ∧ Aside0 (Below w.heap.size w w'))
 case atStart => exact ⟨(l0), (l1), H', ⟨Nat.le_refl _⟩, ⟨vs HO0.out⟩, ⟨vs HO1.out⟩, ⟨bz HB.out⟩⟩
 case round =>
  clear H'
  (try clear c1)
  obtain ⟨x0_1, x1_1, HA, HK1, HO_0, HO_1, HB⟩ := hrel
  cases gk with
  | zero => exact absurd HA.out (by simp [insolvencyref1_common.l0])
  | succ k1 =>
   have H := HA.out
   clear HA
   simp only [insolvencyref1_common.l0] at H
   by_cases c3 : (x1_1.length : Int) > 0
   ·rw [if_pos c3] at H
    have c3b0 : decide (0 < (x1_1.length : Int)) = true := decide_eq_true c3
    have c3b1 : decide (0 < x1_1.length) = true := decide_eq_true (by omega)
    clear c3
    obtain ⟨⟨t576, t579⟩, A4, H⟩ := bs1 H; dsimp only at H
    have H' := Aside0.mk H
    clear H
    obtain ⟨Ao5, co5, rfl⟩ := Kd.V_slice HO_1.out
    obtain ⟨Ao6, co6, rfl⟩ := Kd.V_slice HO_0.out
    go_wp2_with (first | ((with_reducible refine gc 80 rfl ?_); refine gl (some 13) Tryz.func80 #[.slice Ao6 x0_1.length co6, .slice Ao5 x1_1.length co5] ?_; (with_reducible refine (insolvencyref1_divide.calls k1 (fun k_ => ((P0_ k_ ∨ P1_ k_) ∨ w.heap.size ≤ k_)) _ _ x0_1 _ _ x1_1 t576 t579 _ ?side1 ?side2 ?side3 A4.out).mono ?_); (case side1 => exact HO_0.out); (case side2 => exact vs (Kd.V_reads' HO_1.out).2.2); (case side3 => exact (Kd.V_reads' HO_1.out).2.1); rintro e w7 ⟨v577, v580, rfl, ho0, ho1, hb⟩; refine ⟨_, rfl, ?_⟩; replace HO_0 := Aside0.mk (vb HO_0.out hb); replace HO_1 := Aside0.mk (vb HO_1.out hb); have HO578 := Aside0.mk (Kd.V_lower (Kd.V_mono (ok' := fun k_ => ((P0_ k_ ∨ P1_ k_) ∨ w.heap.size ≤ k_)) ho0 (fun k_ hk_ => Or.elim hk_ (fun hs_ => hs_) (fun hn_ => (.inr (Nat.le_trans (sz HB.out) hn_))))) (sz HB.out)); have HO581 := Aside0.mk (Kd.V_lower (Kd.V_mono (ok' := fun k_ => ((P0_ k_ ∨ P1_ k_) ∨ w.heap.size ≤ k_)) ho1 (fun k_ hk_ => Or.elim hk_ (fun hs_ => hs_) (fun hn_ => (.inr (Nat.le_trans (sz HB.out) hn_))))) (sz HB.out)); replace HB := Aside0.mk (bs HB.out hb); (try clear hb ho0 ho1)))
    go_roundg k1
    case measure => have := HK1.out; omega
    case rel => exact ⟨(x1_1), (t579), H', ⟨by have := HK1.out; omega⟩, ⟨vs HO_1.out⟩, ⟨vs HO581.out⟩, ⟨bz HB.out⟩⟩
   ·rw [if_neg c3] at H
    have c3b0 : decide (0 < (x1_1.length : Int)) = false := decide_eq_false c3
    have c3b1 : decide (0 < x1_1.length) = false := decide_eq_false (by omega)
    clear c3
    obtain rfl := Option.some.inj H
    obtain ⟨Ao8, co8, rfl⟩ := Kd.V_slice HO_1.out
    go_wp2
    go_ret
    exact ⟨_, fe, vs HO_0.out, bz HB.out⟩

attribute [local go_sem high] eqA24
/-! ### insolvencylaw0_Few: function 90 -/
def insolvencylaw0_Few.f (a0_0 : Bool) (a0_1 : ByteArray) (a0_2 : ByteArray) : Option (Bool) := if (a0_1.size : Int) ≤ 24 then (some (decide ((a0_2.size : Int) ≤ 24))) else (some false)
set_option maxHeartbeats 8000000 in
set_option maxRecDepth 100000 in
theorem insolvencylaw0_Few.calls (a0_0 : Bool) (a0_1 : ByteArray) (a0_2 : ByteArray) (r : Bool) (w : World) (h : insolvencylaw0_Few.f a0_0 a0_1 a0_2 = some r) :
  Calls Tryz.prog 90 #[.agg #[.bool a0_0, .string a0_1, .string a0_2]] w fun e w' => e = .returned (.bool r) ∧ Below w.heap.size w w' := by
 have hu24 := Tryz.underlying24
 have HB := Aside0.mk (Below.refl w.heap.size w)
 have H := h
 clear h
 unfold insolvencylaw0_Few.f at H
 by_cases c2 : (a0_1.size : Int) ≤ 24
 ·rw [if_pos c2] at H
  have c2b0 : decide ((a0_1.size : Int) ≤ 24) = true := decide_eq_true c2
  have c2b1 : decide (a0_1.size ≤ 24) = true := decide_eq_true (by omega)
  clear c2
  obtain rfl := Option.some.inj H
  go_enter Tryz.func90, Tryz.ntmps90
  go_wp2_with (first | ((with_reducible refine gd 1 rfl ?_); (try (refine gate_guard (by rfl) ?_; dsimp only)); refine bx 1 (#[.bool a0_0, .string a0_1, .string a0_2]) 24 ?_; intro gb669 hg w3 hbox hb; have BK669 := Aside0.mk (hbox); have GW669 := sg hg HB.out; have GE669 := sg hg HB.out; replace HB := Aside0.mk (bs HB.out hb); clear hb hbox hg; obtain ⟨hcz4_0, hcz4_1, hcz4_2, hfz4_0, hfz4_1, hfz4_2⟩ := cz BK669.out))
  go_ret
  exact ⟨fe, bz HB.out⟩
 ·rw [if_neg c2] at H
  have c2b0 : decide ((a0_1.size : Int) ≤ 24) = false := decide_eq_false c2
  have c2b1 : decide (a0_1.size ≤ 24) = false := decide_eq_false (by omega)
  clear c2
  obtain rfl := Option.some.inj H
  go_enter Tryz.func90, Tryz.ntmps90
  go_wp2_with (first | ((with_reducible refine gd 1 rfl ?_); (try (refine gate_guard (by rfl) ?_; dsimp only)); refine bx 1 (#[.bool a0_0, .string a0_1, .string a0_2]) 24 ?_; intro gb669 hg w5 hbox hb; have BK669 := Aside0.mk (hbox); have GW669 := sg hg HB.out; have GE669 := sg hg HB.out; replace HB := Aside0.mk (bs HB.out hb); clear hb hbox hg; obtain ⟨hcz6_0, hcz6_1, hcz6_2, hfz6_0, hfz6_1, hfz6_2⟩ := cz BK669.out))
  go_ret
  exact ⟨fe, bz HB.out⟩

/-! ### insolvencylaw0_FewRats: function 33 -/
def insolvencylaw0_FewRats.l0 : Nat → List (S24) → Int → Int → Option (Bool)
 | 0, _, _, _ => none
 | k + 1, x11, x12, x13 => if x13 < x12 then (if 0 ≤ x13 then (if x13 < (x11.length : Int) then ((insolvencylaw0_Few.f ((rd_T24 x11 x13).f0) ((rd_T24 x11 x13).f1) ((rd_T24 x11 x13).f2)).bind fun t672 => (if t672 = true then (insolvencylaw0_FewRats.l0 k x11 x12 (wrap64 (x13 + 1))) else (some false))) else (none)) else (none)) else (some true)
def insolvencylaw0_FewRats.f (k : Nat) (l0 : List (S24)) (a1 : Int) : Option (Bool) := if (l0.length : Int) > a1 then (some false) else (insolvencylaw0_FewRats.l0 k l0 (l0.length : Int) 0)
set_option maxHeartbeats 8000000 in
set_option maxRecDepth 100000 in
theorem insolvencylaw0_FewRats.calls (k : Nat) (A0 : Option Addr) (c0 : Nat) (l0 : List (S24)) (a1 : Int) (r : Bool) (w : World) (hr0 : Kd.C k24 w A0 l0.length l0) (hc0 : l0.length ≤ c0) (h : insolvencylaw0_FewRats.f k l0 a1 = some r) :
  Calls Tryz.prog 33 #[.slice A0 l0.length c0, .int .i64 a1] w fun e w' => e = .returned (.bool r) ∧ Below w.heap.size w w' := by
 have hu24 := Tryz.underlying24
 have HR0 := Aside0.mk hr0
 have HC0 := Aside0.mk hc0
 clear hr0 hc0
 have HB := Aside0.mk (Below.refl w.heap.size w)
 have H := h
 clear h
 unfold insolvencylaw0_FewRats.f at H
 by_cases c3 : (l0.length : Int) > a1
 ·rw [if_pos c3] at H
  have c3b0 : decide (a1 < (l0.length : Int)) = true := decide_eq_true c3
  clear c3
  obtain rfl := Option.some.inj H
  go_enter Tryz.func33, Tryz.ntmps33
  go_wp2
  go_ret
  exact ⟨fe, bz HB.out⟩
 ·rw [if_neg c3] at H
  have c3b0 : decide (a1 < (l0.length : Int)) = false := decide_eq_false c3
  clear c3
  have H' := Aside0.mk H
  clear H
  go_enter Tryz.func33, Tryz.ntmps33
  go_wp2
  go_loopg [13] k (fun kq v13 w' => ∃ (x13_1 : Int), v13 = .int .i64 x13_1 ∧ Aside0 (insolvencylaw0_FewRats.l0 kq l0 (l0.length : Int) x13_1 = some r) ∧ Aside0 (kq ≤ k) ∧ Aside0 (Below w.heap.size w w'))
  case atStart => exact ⟨(0), fs, H', ⟨Nat.le_refl _⟩, ⟨bz HB.out⟩⟩
  case round =>
   clear H'
   (try clear c3b0)
   obtain ⟨x13_1, rfl, HA, HK1, HB⟩ := hrel
   cases gk with
   | zero => exact absurd HA.out (by simp [insolvencylaw0_FewRats.l0])
   | succ k1 =>
    have H := HA.out
    clear HA
    simp only [insolvencylaw0_FewRats.l0] at H
    by_cases c4 : x13_1 < (l0.length : Int)
    ·rw [if_pos c4] at H
     have c4b0 : decide (x13_1 < (l0.length : Int)) = true := decide_eq_true c4
     clear c4
     obtain ⟨c5, H⟩ := iN H
     have c5b0 : decide (0 ≤ x13_1) = true := decide_eq_true c5
     clear c5
     obtain ⟨c6, H⟩ := iN H
     have c6b0 : decide (x13_1 < (l0.length : Int)) = true := decide_eq_true c6
     clear c6
     obtain ⟨t672, A7, H⟩ := bs1 H
     by_cases c8 : t672 = true
     ·subst c8
      have H1 : (insolvencylaw0_FewRats.l0 k1 l0 (l0.length : Int) (wrap64 (x13_1 + 1))) = some r := by rw [if_pos rfl] at H; exact H
      clear H
      have H := H1
      clear H1
      have H' := Aside0.mk H
      clear H
      have p670 : 0 ≤ (x13_1 : Int) := oa
      have q670 : x13_1 < (l0.length : Int) := oa
      obtain ⟨ad670, e670, hx670_0, hx670_1, hx670_2⟩ := at_T24 HR0.out x13_1 p670 q670
      cases e670
      try replace hx670_0 := (HB.out.cell (World.block_lt_of_cell? w _ hx670_0)).trans hx670_0
      try replace hx670_1 := (HB.out.cell (World.block_lt_of_cell? w _ hx670_1)).trans hx670_1
      try replace hx670_2 := (HB.out.cell (World.block_lt_of_cell? w _ hx670_2)).trans hx670_2
      replace p670 := eq_true p670
      replace q670 := eq_true q670
      go_wp2_with (first | ((with_reducible refine gd 6 rfl ?_); refine bx 6 (#[.bool false, .string (⟨#[]⟩ : ByteArray), .string (⟨#[]⟩ : ByteArray)]) 24 ?_; intro gb671 hg w9 hbox hb; have BK671 := Aside0.mk (hbox); have GW671 := sg hg HB.out; have GE671 := sg hg HB.out; replace HB := Aside0.mk (bs HB.out hb); clear hb hbox hg; obtain ⟨hcz10_0, hcz10_1, hcz10_2, hfz10_0, hfz10_1, hfz10_2⟩ := cz BK671.out) | ((with_reducible refine gc 90 rfl ?_); refine gl (some 18) Tryz.func90 #[.agg #[.bool ((rd_T24 l0 x13_1).f0), .string ((rd_T24 l0 x13_1).f1), .string ((rd_T24 l0 x13_1).f2)]] ?_; (with_reducible refine (insolvencylaw0_Few.calls ((rd_T24 l0 x13_1).f0) ((rd_T24 l0 x13_1).f1) ((rd_T24 l0 x13_1).f2) true _ A7.out).mono ?_); rintro e w11 ⟨rfl, hb⟩; refine ⟨_, rfl, ?_⟩; replace BK671 := Aside0.mk (bk BK671.out hb (.cells #[.bool ((rd_T24 l0 x13_1).f0), .string ((rd_T24 l0 x13_1).f1), .string ((rd_T24 l0 x13_1).f2)] 24 (0, 0))); replace HB := Aside0.mk (bs HB.out hb); (try clear hb)))
      go_roundg k1
      case measure => have := HK1.out; omega
      case rel => exact ⟨(wrap64 (x13_1 + 1)), fs, H', ⟨by have := HK1.out; omega⟩, ⟨bz HB.out⟩⟩
     ·replace c8 := Bool.eq_false_iff.mpr c8
      subst c8
      have H1 : (some false) = some r := by rw [if_neg (show ¬ (false = true) by decide)] at H; exact H
      clear H
      have H := H1
      clear H1
      obtain rfl := Option.some.inj H
      have p670 : 0 ≤ (x13_1 : Int) := oa
      have q670 : x13_1 < (l0.length : Int) := oa
      obtain ⟨ad670, e670, hx670_0, hx670_1, hx670_2⟩ := at_T24 HR0.out x13_1 p670 q670
      cases e670
      try replace hx670_0 := (HB.out.cell (World.block_lt_of_cell? w _ hx670_0)).trans hx670_0
      try replace hx670_1 := (HB.out.cell (World.block_lt_of_cell? w _ hx670_1)).trans hx670_1
      try replace hx670_2 := (HB.out.cell (World.block_lt_of_cell? w _ hx670_2)).trans hx670_2
      replace p670 := eq_true p670
      replace q670 := eq_true q670
      go_wp2_with (first | ((with_reducible refine gd 6 rfl ?_); refine bx 6 (#[.bool false, .string (⟨#[]⟩ : ByteArray), .string (⟨#[]⟩ : ByteArray)]) 24 ?_; intro gb671 hg w12 hbox hb; have BK671 := Aside0.mk (hbox); have GW671 := sg hg HB.out; have GE671 := sg hg HB.out; replace HB := Aside0.mk (bs HB.out hb); clear hb hbox hg; obtain ⟨hcz13_0, hcz13_1, hcz13_2, hfz13_0, hfz13_1, hfz13_2⟩ := cz BK671.out) | ((with_reducible refine gc 90 rfl ?_); refine gl (some 18) Tryz.func90 #[.agg #[.bool ((rd_T24 l0 x13_1).f0), .string ((rd_T24 l0 x13_1).f1), .string ((rd_T24 l0 x13_1).f2)]] ?_; (with_reducible refine (insolvencylaw0_Few.calls ((rd_T24 l0 x13_1).f0) ((rd_T24 l0 x13_1).f1) ((rd_T24 l0 x13_1).f2) false _ A7.out).mono ?_); rintro e w14 ⟨rfl, hb⟩; refine ⟨_, rfl, ?_⟩; replace BK671 := Aside0.mk (bk BK671.out hb (.cells #[.bool ((rd_T24 l0 x13_1).f0), .string ((rd_T24 l0 x13_1).f1), .string ((rd_T24 l0 x13_1).f2)] 24 (0, 0))); replace HB := Aside0.mk (bs HB.out hb); (try clear hb)))
      go_ret
      exact ⟨fe, bz HB.out⟩
    ·rw [if_neg c4] at H
     have c4b0 : decide (x13_1 < (l0.length : Int)) = false := decide_eq_false c4
     clear c4
     obtain rfl := Option.some.inj H
     go_wp2
     go_ret
     exact ⟨fe, bz HB.out⟩

/-! ### insolvencylaw2_few: function 19 -/
def insolvencylaw2_few.f (k : Nat) (l0 : List (S24)) : Option (Bool) := (insolvencylaw0_FewRats.f k l0 8).bind fun t673 => (some t673)
set_option maxHeartbeats 8000000 in
set_option maxRecDepth 100000 in
theorem insolvencylaw2_few.calls (k : Nat) (A0 : Option Addr) (c0 : Nat) (l0 : List (S24)) (r : Bool) (w : World) (hr0 : Kd.C k24 w A0 l0.length l0) (hc0 : l0.length ≤ c0) (h : insolvencylaw2_few.f k l0 = some r) :
  Calls Tryz.prog 19 #[.slice A0 l0.length c0] w fun e w' => e = .returned (.bool r) ∧ Below w.heap.size w w' := by
 have HR0 := Aside0.mk hr0
 have HC0 := Aside0.mk hc0
 clear hr0 hc0
 have HB := Aside0.mk (Below.refl w.heap.size w)
 have H := h
 clear h
 unfold insolvencylaw2_few.f at H
 obtain ⟨t673, A2, H⟩ := bs1 H
 obtain rfl := Option.some.inj H
 go_enter Tryz.func19, Tryz.ntmps19
 go_wp2_with (first | ((with_reducible refine gc 33 rfl ?_); refine gl (some 4) Tryz.func33 #[.slice A0 l0.length c0, .int .i64 8] ?_; (with_reducible refine (insolvencylaw0_FewRats.calls k _ _ l0 8 t673 _ ?side1 ?side2 A2.out).mono ?_); (case side1 => repeat (first | exact HR0.out | (with_reducible refine Kd.C_alloc ?_ _) | (with_reducible refine Kd.C_drewN ?_ _) | (with_reducible refine Kd.C_drew ?_))); (case side2 => exact HC0.out); rintro e w3 ⟨rfl, hb⟩; refine ⟨_, rfl, ?_⟩; replace HB := Aside0.mk (bs HB.out hb); (try clear hb)))
 go_ret
 exact ⟨fe, bz HB.out⟩

/-! ### insolvencyref1_limbs: function 79 -/
def insolvencyref1_limbs.l0 : Nat → ByteArray → List Int → Int → Option (List Int)
 | 0, _, _, _ => none
 | k + 1, x0, x3, x4 => if x4 < (x0.size : Int) then (if 0 ≤ (wrap64 (Int.tdiv x4 4)) then (if (wrap64 (Int.tdiv x4 4)) < (x3.length : Int) then (if 0 ≤ (wrap64 ((wrap64 ((x0.size : Int) - 1)) - x4)) then (if (wrap64 ((wrap64 ((x0.size : Int) - 1)) - x4)) < (x0.size : Int) then (if 0 ≤ (IntKind.u64.wrap (wrap64 (8 * (Int.tmod x4 4)))) then (insolvencyref1_limbs.l0 k x0 (x3.set ((wrap64 (Int.tdiv x4 4)) : Int).toNat (Go.bits .or .u32 (rd x3 (wrap64 (Int.tdiv x4 4))) (shl .u32 ((bt x0 (wrap64 ((wrap64 ((x0.size : Int) - 1)) - x4))) % 4294967296) (IntKind.u64.wrap (wrap64 (8 * (Int.tmod x4 4))))))) (wrap64 (x4 + 1))) else (none)) else (none)) else (none)) else (none)) else (none)) else (some x3)
def insolvencyref1_limbs.f (k : Nat) (a0 : ByteArray) : Option (List Int) := (insolvencyref1_Normalize.f k a0).bind fun t674 => (if 0 ≤ (wrap64 (Int.tdiv (wrap64 ((t674.size : Int) + 3)) 4)) then (if (wrap64 (Int.tdiv (wrap64 ((t674.size : Int) + 3)) 4) : Int).toNat ≤ 70368744177664 then (insolvencyref1_limbs.l0 k t674 (List.replicate (wrap64 (Int.tdiv (wrap64 ((t674.size : Int) + 3)) 4) : Int).toNat 0) 0) else (none)) else (none))
def insolvencyref1_limbs.T6 : Bool × List (List Nat × List Nat) := (true, [([], []), ([], []), ([1], [1]), ([], []), ([], []), ([4], [4]), ([3, 5], [3, 5]), ([6], [6]), ([], []), ([], []), ([9], [9]), ([10], [10]), ([], []), ([11, 12], [11, 12]), ([8, 13], [8, 13]), ([14], [14]), ([], []), ([16], [16]), ([17], [17]), ([18], [18]), ([15, 19], [15, 19]), ([7, 20], [7, 20]), ([0, 2, 0, 1, 2, 3, 4, 5, 6, 7, 8, 9, 10, 11, 12, 13, 14, 15, 16, 17, 18, 19, 20, 21], [0, 2]), ([22, 21, 0, 1, 2, 3, 4, 5, 6, 7, 8, 9, 10, 11, 12, 13, 14, 15, 16, 17, 18, 19, 20, 21], [21, 22])])
def insolvencyref1_limbs.B6 : List Nat := [0, 0, 2, 0, 0, 16, 56, 120, 0, 0, 512, 1536, 0, 7680, 16128, 32512, 0, 65536, 196608, 458752, 1048320, 2097144, 4194303, 8388607]
theorem insolvencyref1_limbs.tab6 : rtab .any (opsOf Tryz.f79 6) = insolvencyref1_limbs.T6 := by kernel_rfl
theorem insolvencyref1_limbs.bits6 : waitsOk insolvencyref1_limbs.T6.2 insolvencyref1_limbs.B6 = true := by kernel_rfl
set_option maxHeartbeats 8000000 in
set_option maxRecDepth 100000 in
theorem insolvencyref1_limbs.calls (k : Nat) (a0 : ByteArray) (r : List Int) (w : World) (h : insolvencyref1_limbs.f k a0 = some r) :
  Calls Tryz.prog 79 #[.string a0] w fun e w' => ∃ v0_ : Value, e = .returned (v0_) ∧ Kd.R (Kd.int .u32) 52 w' w.heap.size (fun _ => True) v0_ r ∧ Below w.heap.size w w' := by
 have HB := Aside0.mk (Below.refl w.heap.size w)
 have H := h
 clear h
 unfold insolvencyref1_limbs.f at H
 obtain ⟨t674, A2, H⟩ := bs1 H
 obtain ⟨ji3, hji3⟩ : ∃ j_ : Int, (wrap64 (Int.tdiv (wrap64 ((t674.size : Int) + 3)) 4)) = j_ := ⟨_, rfl⟩
 first | rw [hji3] at H | simp only [hji3] at H
 (try rw [hji3] at A2)
 have hji3w : (IntKind.i64.wrap (Int.tdiv (wrap64 ((t674.size : Int) + 3)) 4)) = ji3 := (i64_w _).trans hji3
 obtain ⟨c4, H⟩ := iN H
 have c4b0 := eq_true c4
 have c4b1 : decide (0 ≤ (ji3)) = true := decide_eq_true c4
 clear c4
 obtain ⟨c5, H⟩ := iN H
 have c5b0 := eq_true c5
 have c5b1 : decide ((ji3 : Int).toNat ≤ 70368744177664) = true := decide_eq_true c5
 clear c5
 obtain ⟨y675, hy675⟩ : ∃ y_ : List Int, y_ = (List.replicate (ji3 : Int).toNat 0) := ⟨_, rfl⟩
 (try first | rw [← hy675] at H | (dsimp only at H; rw [← hy675] at H)); (try rw [Option.bind_some] at H)
 have Ny675 := Aside0.mk hy675
 clear hy675
 have H' := Aside0.mk H
 clear H
 go_enter Tryz.func79, Tryz.ntmps79
 go_wp2_with (first | ((with_reducible refine gc 118 rfl ?_); refine gl (some 6) Tryz.func118 #[.string a0] ?_; (with_reducible refine (insolvencyref1_Normalize.calls k a0 t674 _ A2.out).mono ?_); rintro e w' ⟨rfl, ⟨nd, rfl⟩⟩; refine ⟨_, rfl, ?_⟩) | ((with_reducible refine gd 11 rfl ?_); refine Kd.R_make (Kd.int .u32) _ 52 rfl (N := 11) rfl 71 _ _ rfl ji3 rfl rfl Tryz.underlying71 (.int .u32 0) 4 info52 rfl (by decide) (by omega) 0 (ok := fun _ => True) (okp := fun _ => True) rfl (fun _ hk => hk) trivial oa (Nat.le_trans (Nat.mul_le_mul_right _ (oa : ji3.toNat ≤ 70368744177664)) (by omega)) (Below.refl _ _) (Nat.le_refl _) ?_; intro v676 w6 ho7 hb hg_ hnew_; clear hg_ hnew_; (first | rw [← Ny675.out] at ho7 | (simp only [Int.reduceToNat] at ho7; rw [← Ny675.out] at ho7)); have HO677 := Aside0.mk (Kd.R_lower ho7 (sz HB.out)); replace HB := Aside0.mk (bs HB.out hb); clear hb ho7))
 go_loopg [4] k (fun kq v4 w' => ∃ (x3_1 : List Int) (x4_1 : Int), v4 = .int .i64 x4_1 ∧ Aside0 (insolvencyref1_limbs.l0 kq t674 x3_1 x4_1 = some r) ∧ Aside0 (kq ≤ k) ∧ Aside0 (Kd.R (Kd.int .u32) 52 w' w.heap.size (fun _ => True) v676 x3_1) ∧ Aside0 (Below w.heap.size w w'))
 case atStart => exact ⟨(y675), (0), fs, H', ⟨Nat.le_refl _⟩, ⟨vs HO677.out⟩, ⟨bz HB.out⟩⟩
 case round =>
  clear H'
  (try clear c4b0); (try clear c4b1); (try clear c5b0); (try clear c5b1)
  obtain ⟨x3_1, x4_1, rfl, HA, HK1, HO_3, HB⟩ := hrel
  cases gk with
  | zero => exact absurd HA.out (by simp [insolvencyref1_limbs.l0])
  | succ k1 =>
   have H := HA.out
   clear HA
   simp only [insolvencyref1_limbs.l0] at H
   by_cases c8 : x4_1 < (t674.size : Int)
   ·rw [if_pos c8] at H
    have c8b0 : decide (x4_1 < (t674.size : Int)) = true := decide_eq_true c8
    clear c8
    obtain ⟨ji9, hji9⟩ : ∃ j_ : Int, (wrap64 (Int.tdiv x4_1 4)) = j_ := ⟨_, rfl⟩
    first | rw [hji9] at H | simp only [hji9] at H
    have hji9w : (IntKind.i64.wrap (Int.tdiv x4_1 4)) = ji9 := (i64_w _).trans hji9
    obtain ⟨c10, H⟩ := iN H
    have c10b0 : decide (0 ≤ (ji9)) = true := decide_eq_true c10
    clear c10
    obtain ⟨c11, H⟩ := iN H
    have c11b0 : decide ((ji9) < (x3_1.length : Int)) = true := decide_eq_true c11
    clear c11
    obtain ⟨ji12, hji12⟩ : ∃ j_ : Int, (wrap64 ((wrap64 ((t674.size : Int) - 1)) - x4_1)) = j_ := ⟨_, rfl⟩
    first | rw [hji12] at H | simp only [hji12] at H
    have hji12w : (IntKind.i64.wrap ((wrap64 ((t674.size : Int) - 1)) - x4_1)) = ji12 := (i64_w _).trans hji12
    obtain ⟨c13, H⟩ := iN H
    have c13b0 : decide (0 ≤ (ji12)) = true := decide_eq_true c13
    clear c13
    obtain ⟨c14, H⟩ := iN H
    have c14b0 : decide ((ji12) < (t674.size : Int)) = true := decide_eq_true c14
    clear c14
    obtain ⟨ji16, hji16⟩ : ∃ j_ : Int, (IntKind.u64.wrap (wrap64 (8 * (Int.tmod x4_1 4)))) = j_ := ⟨_, rfl⟩
    first | rw [hji16] at H | simp only [hji16] at H
    obtain ⟨c17, H⟩ := iN H
    have c17b0 := eq_true c17
    have c17b1 : decide (0 ≤ (ji16)) = true := decide_eq_true c17
    clear c17
    obtain ⟨ji18, hji18⟩ : ∃ j_ : Int, (shl .u32 ((bt t674 (ji12)) % 4294967296) (ji16)) = j_ := ⟨_, rfl⟩
    first | rw [hji18] at H | simp only [hji18] at H
    have hji18_ : (IntKind.u32.wrap (((bt t674 (ji12)) % 4294967296) * 2 ^ min (ji16).toNat 32)) = ji18 := hji18
    have hji18z : (ji16) ≤ 32 → (IntKind.u32.wrap (((bt t674 (ji12)) % 4294967296) * 2 ^ (ji16).toNat)) = ji18 := shl_small hji18
    have hji18u_ : ((((bt t674 (ji12)) % 4294967296) * 2 ^ min (ji16).toNat 32) % 4294967296) = ji18 := hji18_
    have hji18u2_ : (ji16) ≤ 32 → ((((bt t674 (ji12)) % 4294967296) * 2 ^ (ji16).toNat) % 4294967296) = ji18 := hji18z
    have hji18u3_ : (IntKind.u32.wrap (IntKind.u32.wrap (bt t674 (ji12)) * 2 ^ min (ji16).toNat 32)) = ji18 := hji18_
    obtain ⟨y679, hy679⟩ : ∃ y_ : List Int, y_ = (x3_1.set ((ji9) : Int).toNat (Go.bits .or .u32 (rd x3_1 (ji9)) (ji18))) := ⟨_, rfl⟩
    (try first | rw [← hy679] at H | (dsimp only at H; rw [← hy679] at H)); (try rw [Option.bind_some] at H)
    have Ny679 := Aside0.mk hy679
    clear hy679
    have H' := Aside0.mk H
    clear H
    try go_wp2
    replace HO_3 := Aside0.mk (Kd.R_drew HO_3.out)
    replace HB := Aside0.mk (below_drew1 HB.out)
    obtain ⟨Ao21, co21, eo21⟩ := Kd.R_slice HO_3.out
    (first | subst eo21 | (injection eo21 with f1_ f2_ f3_; have f4_ := f1_.symm; have f5_ := f3_.symm; clear f1_ f2_ f3_; subst f4_; subst f5_))
    have p678 : 0 ≤ ((ji9) : Int) := oa
    have q678 : (ji9) < (x3_1.length : Int) := oa
    obtain ⟨ad678, e678, hx678_0⟩ := Kd.at_int (Kd.R_reads' HO_3.out).2.2 (ji9) p678 q678
    cases e678
    replace p678 := eq_true p678
    replace q678 := eq_true q678
    have p15 : 0 ≤ ((ji12) : Int) := oa
    have q15 : (ji12) < (t674.size : Int) := oa
    have hx15 := bt_at t674 (ji12)
    replace p15 := eq_true p15
    replace q15 := eq_true q15
    have p19 : 0 ≤ ((ji9) : Int) := oa
    have q19 : ((ji9) : Int) < ((x3_1.length : Int) : Int) := oa
    obtain ⟨go19, co19, eo19, gb19, gl19, cl19, HG19⟩ := Kd.R_form HO_3.out (by omega)
    (first | cases eo19 | (injection eo19 with ea_ en_ ec_; (first | subst ea_ | (injection ea_ with ea_; subst ea_)); subst ec_; clear en_))
    have GB19 := Aside0.mk gb19
    have GG19 := Aside0.mk HG19
    clear gb19 gl19 HG19
    (first | simp only [add_plain] at hx678_0 | skip)
    obtain ⟨hx19_0, hf19_0⟩ := Kd.R_celln 0 HO_3.out ((ji9) : Int) p19 q19
    replace p19 := eq_true p19
    replace q19 := eq_true q19
    have HP22 := Kd.R_putn HO_3.out ((ji9) : Int) (Go.bits .or .u32 (rd x3_1 (ji9)) (ji18))
    rw [← Ny679.out] at HP22
    have HQ22 := Aside0.mk HP22
    clear HP22
    refine start_ (n := 24) (S := fun w' => w'.cell? ⟨go19, ((ji9)).toNat, none⟩ = some (.int .u32 (rd x3_1 (ji9)))) (ds := [23]) #[false, false, false, false, false, false, false, false, false, false, false, false, false, false, false, false, false, false, false, false, false, false, false, false] (by kernel_rfl) rfl rfl (hx678_0) (fun hHeld => ?_); refine with_tabW insolvencyref1_limbs.tab6 insolvencyref1_limbs.bits6 (fun HT_ HW_ => ?_)
    generalize wr.drew = w20 at HO_3 HB GG19 HQ22 hf19_0 hx19_0 hx678_0 hHeld ⊢
    refine py 0 (some 18) #[true, false, false, false, false, false, false, false, false, false, false, false, false, false, false, false, false, false, false, false, false, false, false, false] HT_ ?_
    refine py 1 (some 19) #[true, true, false, false, false, false, false, false, false, false, false, false, false, false, false, false, false, false, false, false, false, false, false, false] HT_ ?_
    refine py 2 (some 20) #[true, true, true, false, false, false, false, false, false, false, false, false, false, false, false, false, false, false, false, false, false, false, false, false] HT_ ?_
    refine py 3 (some 21) #[true, true, true, true, false, false, false, false, false, false, false, false, false, false, false, false, false, false, false, false, false, false, false, false] HT_ ?_
    refine py 4 (some 22) #[true, true, true, true, true, false, false, false, false, false, false, false, false, false, false, false, false, false, false, false, false, false, false, false] HT_ ?_
    refine py 5 (some 23) #[true, true, true, true, true, true, false, false, false, false, false, false, false, false, false, false, false, false, false, false, false, false, false, false] HT_ ?_
    refine py 6 (some 24) #[true, true, true, true, true, true, true, false, false, false, false, false, false, false, false, false, false, false, false, false, false, false, false, false] HT_ ?_
    refine py 8 (some 26) #[true, true, true, true, true, true, true, false, true, false, false, false, false, false, false, false, false, false, false, false, false, false, false, false] HT_ ?_
    refine py 9 (some 27) #[true, true, true, true, true, true, true, false, true, true, false, false, false, false, false, false, false, false, false, false, false, false, false, false] HT_ ?_
    refine py 10 (some 28) #[true, true, true, true, true, true, true, false, true, true, true, false, false, false, false, false, false, false, false, false, false, false, false, false] HT_ ?_
    refine py 11 (some 29) #[true, true, true, true, true, true, true, false, true, true, true, true, false, false, false, false, false, false, false, false, false, false, false, false] HT_ ?_
    refine py 12 (some 30) #[true, true, true, true, true, true, true, false, true, true, true, true, true, false, false, false, false, false, false, false, false, false, false, false] HT_ ?_
    refine py 13 (some 31) #[true, true, true, true, true, true, true, false, true, true, true, true, true, true, false, false, false, false, false, false, false, false, false, false] HT_ ?_
    refine py 16 (some 34) #[true, true, true, true, true, true, true, false, true, true, true, true, true, true, false, false, true, false, false, false, false, false, false, false] HT_ ?_
    refine py 17 (some 35) #[true, true, true, true, true, true, true, false, true, true, true, true, true, true, false, false, true, true, false, false, false, false, false, false] HT_ ?_
    refine py 18 (some 36) #[true, true, true, true, true, true, true, false, true, true, true, true, true, true, false, false, true, true, true, false, false, false, false, false] HT_ ?_
    refine py 19 (some 37) #[true, true, true, true, true, true, true, false, true, true, true, true, true, true, false, false, true, true, true, true, false, false, false, false] HT_ ?_
    refine take_ (i := 7) (N := some 25) (v := ?_) (a' := ?_) #[true, true, true, true, true, true, true, true, true, true, true, true, true, true, false, false, true, true, true, true, false, false, false, false] rfl rfl (take_ofW HT_.out HW_.out (by kernel_rfl)) (fun _ _ _ h => h) (Or.inl ⟨by rfl, ?_⟩) hHeld ?_ ?_
    rotate_left
    ·intro w' s0
     go_simp
     with_reducible rfl
    rotate_left
    ·simp only [Act.put, List.setIfInBounds_toArray, List.set_cons_zero, List.set_cons_succ, i64_w, i32_w]
     rfl
    refine take_ (i := 14) (N := some 32) (v := ?_) (a' := ?_) #[true, true, true, true, true, true, true, true, true, true, true, true, true, true, true, false, true, true, true, true, false, false, false, false] rfl rfl (take_ofW HT_.out HW_.out (by kernel_rfl)) (fun _ _ _ h => h) (Or.inl ⟨by rfl, ?_⟩) hHeld ?_ ?_
    rotate_left
    ·intro w' s0
     go_simp
     with_reducible rfl
    rotate_left
    ·simp only [Act.put, List.setIfInBounds_toArray, List.set_cons_zero, List.set_cons_succ, i64_w, i32_w]
     rfl
    refine py 15 (some 33) #[true, true, true, true, true, true, true, true, true, true, true, true, true, true, true, true, true, true, true, true, false, false, false, false] HT_ ?_
    refine py 20 (some 38) #[true, true, true, true, true, true, true, true, true, true, true, true, true, true, true, true, true, true, true, true, true, false, false, false] HT_ ?_
    refine py 21 (some 39) #[true, true, true, true, true, true, true, true, true, true, true, true, true, true, true, true, true, true, true, true, true, true, false, false] HT_ ?_
    refine py 22 (some 40) #[true, true, true, true, true, true, true, true, true, true, true, true, true, true, true, true, true, true, true, true, true, true, true, false] HT_ ?_
    refine last_ (i := 23) (N := none) #[true, true, true, true, true, true, true, true, true, true, true, true, true, true, true, true, true, true, true, true, true, true, true, true] rfl rfl (one_of HT_.out (by kernel_rfl)) (by decide) (fun K hK => ?_)
    refine skip_ (w1 := ?_) (by rfl) rfl ?_ ?_
    rotate_left
    ·go_simp
     rfl
    refine hK.out _ _ ?_
    clear hK K
    refine done_ (done_of HT_.out (by kernel_rfl)) ?_
    try go_wp2
    go_roundg k1
    case measure => have := HK1.out; omega
    case rel => exact ⟨(y679), (wrap64 (x4_1 + 1)), fs, H', ⟨by have := HK1.out; omega⟩, ⟨vs HQ22.out⟩, ⟨bz HB.out⟩⟩
   ·rw [if_neg c8] at H
    have c8b0 : decide (x4_1 < (t674.size : Int)) = false := decide_eq_false c8
    clear c8
    obtain rfl := Option.some.inj H
    go_wp2
    go_ret
    exact ⟨_, by first | rfl | (simp [errW_none, errW_some] <;> rfl) | (simp only [← hji3]; first | rfl | (simp [errW_none, errW_some] <;> rfl)) | (simp [*, errW_none, errW_some] <;> rfl), vs HO_3.out, bz HB.out⟩

/-! ### insolvencyref1_GCD: function 119 -/
def insolvencyref1_GCD.f (k : Nat) (a0 : ByteArray) (a1 : ByteArray) : Option (ByteArray) := (insolvencyref1_limbs.f k a0).bind fun t680 => ((insolvencyref1_limbs.f k a1).bind fun t683 => ((insolvencyref1_common.f k t680 t683).bind fun t686 => ((insolvencyref1_text.f k t686).bind fun t689 => (some t689))))
set_option maxHeartbeats 8000000 in
set_option maxRecDepth 100000 in
theorem insolvencyref1_GCD.calls (k : Nat) (a0 : ByteArray) (a1 : ByteArray) (r : ByteArray) (w : World) (h : insolvencyref1_GCD.f k a0 a1 = some r) :
  Calls Tryz.prog 119 #[.string a0, .string a1] w fun e w' => e = .returned (.string r) ∧ Below w.heap.size w w' := by
 have HB := Aside0.mk (Below.refl w.heap.size w)
 have H := h
 clear h
 unfold insolvencyref1_GCD.f at H
 obtain ⟨t680, A3, H⟩ := bs1 H
 obtain ⟨t683, A4, H⟩ := bs1 H
 obtain ⟨t686, A5, H⟩ := bs1 H
 obtain ⟨t689, A6, H⟩ := bs1 H
 obtain rfl := Option.some.inj H
 go_enter Tryz.func119, Tryz.ntmps119
 go_wp2_with (first | ((with_reducible refine gc 79 rfl ?_); refine gl (some 6) Tryz.func79 #[.string a0] ?_; (with_reducible refine (insolvencyref1_limbs.calls k a0 t680 _ A3.out).mono ?_); rintro e w7 ⟨v681, rfl, ho0, hb⟩; refine ⟨_, rfl, ?_⟩; have HO682 := Aside0.mk (Kd.R_lower ho0 (sz HB.out)); replace HB := Aside0.mk (bs HB.out hb); (try clear hb ho0)) | ((with_reducible refine gc 79 rfl ?_); refine gl (some 8) Tryz.func79 #[.string a1] ?_; (with_reducible refine (insolvencyref1_limbs.calls k a1 t683 _ A4.out).mono ?_); rintro e w8 ⟨v684, rfl, ho0, hb⟩; refine ⟨_, rfl, ?_⟩; have HO685 := Aside0.mk (Kd.R_lower (Kd.R_new' ho0 (Kd.R_lt (vs HO682.out))) (sz HB.out)); replace HO682 := Aside0.mk (Kd.R_elder' (vs HO682.out) (Kd.R_base ho0) hb); replace HB := Aside0.mk (bs HB.out hb); (try clear hb ho0); obtain ⟨Ao9, co9, eo9⟩ := Kd.R_slice HO682.out; subst eo9; obtain ⟨Ao10, co10, eo10⟩ := Kd.R_slice HO685.out; subst eo10) | ((with_reducible refine gc 114 rfl ?_); refine gl (some 9) Tryz.func114 #[.slice Ao9 t680.length co9, .slice Ao10 t683.length co10] ?_; (with_reducible refine (insolvencyref1_common.calls k (fun k_ => some k_ = (.slice Ao9 t680.length co9 : Value).ownBlock) _ _ t680 (fun k_ => some k_ = (.slice Ao10 t683.length co10 : Value).ownBlock) _ _ t683 t686 _ ?side1 ?side2 A5.out).mono ?_); (case side1 => exact Kd.R_V (Kd.R_tight rfl (HO682.out))); (case side2 => exact Kd.R_V (Kd.R_tight rfl (HO685.out))); rintro e w11 ⟨v687, rfl, ho0, hb⟩; refine ⟨_, rfl, ?_⟩; replace HO682 := Aside0.mk (rb HO682.out hb); replace HO685 := Aside0.mk (rb HO685.out hb); have HO688 := Aside0.mk (Kd.V_lower (Kd.V_mono (ok' := fun k_ => True) ho0 (fun k_ hk_ => trivial)) (sz HB.out)); replace HB := Aside0.mk (bs HB.out hb); (try clear hb ho0); obtain ⟨Ao12, co12, rfl⟩ := Kd.V_slice HO688.out) | ((with_reducible refine gc 97 rfl ?_); refine gl (some 10) Tryz.func97 #[.slice Ao12 t686.length co12] ?_; (with_reducible refine (insolvencyref1_text.calls k _ _ t686 t689 _ ?side1 ?side2 A6.out).mono ?_); (case side1 => exact vs (Kd.V_reads' HO688.out).2.2); (case side2 => exact (Kd.V_reads' HO688.out).2.1); rintro e w13 ⟨rfl, hb⟩; refine ⟨_, rfl, ?_⟩; replace HO682 := Aside0.mk (rb HO682.out hb); replace HO685 := Aside0.mk (rb HO685.out hb); replace HO688 := Aside0.mk (vb HO688.out hb); replace HB := Aside0.mk (bs HB.out hb); (try clear hb)))
 go_ret
 exact ⟨fe, bz HB.out⟩

/-! ### insolvencyref1_Valid: function 75 -/
def insolvencyref1_Valid.j0 : Nat → Bool → Bool → ByteArray → ByteArray → Option (Bool)
 | 0, _, _, _, _ => none
 | k + 1, x21, x691000, x691001, x691002 => if x21 = true then (some false) else (if x691001.toList = ([] : List UInt8) then (if x691000 = true then (some false) else (some (x691002.toList == ([] : List UInt8)))) else (if x691002.toList = ([] : List UInt8) then (some true) else ((insolvencyref1_GCD.f k x691001 x691002).bind fun t693 => (some (t693.toList == ([1] : List UInt8))))))
def insolvencyref1_Valid.f (k : Nat) (a0_0 : Bool) (a0_1 : ByteArray) (a0_2 : ByteArray) : Option (Bool) := (insolvencyref1_Normalize.f k a0_1).bind fun t691 => (if t691.toList = a0_1.toList then ((insolvencyref1_Normalize.f k a0_2).bind fun t692 => (if t692.toList = a0_2.toList then (insolvencyref1_Valid.j0 k (a0_2.toList == ([1] : List UInt8)) a0_0 a0_1 a0_2) else (insolvencyref1_Valid.j0 k true a0_0 a0_1 a0_2))) else (insolvencyref1_Valid.j0 k true a0_0 a0_1 a0_2))
set_option maxHeartbeats 8000000 in
set_option maxRecDepth 100000 in
theorem insolvencyref1_Valid.calls (k : Nat) (a0_0 : Bool) (a0_1 : ByteArray) (a0_2 : ByteArray) (r : Bool) (w : World) (h : insolvencyref1_Valid.f k a0_0 a0_1 a0_2 = some r) :
  Calls Tryz.prog 75 #[.agg #[.bool a0_0, .string a0_1, .string a0_2]] w fun e w' => e = .returned (.bool r) ∧ Below w.heap.size w w' := by
 have hu24 := Tryz.underlying24
 have HB := Aside0.mk (Below.refl w.heap.size w)
 have H := h
 clear h
 unfold insolvencyref1_Valid.f at H
 have HC2 := Aside0.mk H
 clear H
 go_enter Tryz.func75, Tryz.ntmps75
 (try (simp only [Exit.then]; refine (by assumption : ∀ (a : Act) (w : World), Code.wp _ _ _ a w → _) _ _ ?_))
 go_upto_region 1 with (first | ((with_reducible refine gd 1 rfl ?_); refine bx 1 (#[.bool a0_0, .string a0_1, .string a0_2]) 24 ?_; intro gb690 hg w3 hbox hb; have BK690 := Aside0.mk (hbox); have GW690 := sg hg HB.out; have GE690 := sg hg HB.out; replace HB := Aside0.mk (bs HB.out hb); clear hb hbox hg))
 repeat (go_quiet (first | ((with_reducible refine gd 1 rfl ?_); refine bx 1 (#[.bool a0_0, .string a0_1, .string a0_2]) 24 ?_; intro gb690 hg w3 hbox hb; have BK690 := Aside0.mk (hbox); have GW690 := sg hg HB.out; have GE690 := sg hg HB.out; replace HB := Aside0.mk (bs HB.out hb); clear hb hbox hg)); go_upto_region 1 with (first | ((with_reducible refine gd 1 rfl ?_); refine bx 1 (#[.bool a0_0, .string a0_1, .string a0_2]) 24 ?_; intro gb690 hg w3 hbox hb; have BK690 := Aside0.mk (hbox); have GW690 := sg hg HB.out; have GE690 := sg hg HB.out; replace HB := Aside0.mk (bs HB.out hb); clear hb hbox hg)))
 (try simp only [Act.put, List.setIfInBounds_toArray, List.set_cons_zero, List.set_cons_succ])
 go_cut [21] (fun v21 wc => ∃ (kq : Nat) (x21_1 : Bool), v21 = .bool x21_1 ∧ Aside0 (insolvencyref1_Valid.j0 kq x21_1 a0_0 a0_1 a0_2 = some r) ∧ Aside0 (kq ≤ k) ∧ Aside0 (wc.heap[gb690]? = some (.cells #[.bool a0_0, .string a0_1, .string a0_2] 24 (0, 0))) ∧ Aside0 (Below w.heap.size w wc))
 case first =>
  have H := HC2.out
  clear HC2
  obtain ⟨t691, A4, H⟩ := bs1 H
  by_cases c5 : t691.toList = a0_1.toList
  ·rw [if_pos c5] at H
   have c5b0 := beq_iff_eq.mpr c5
   have c5b1 := bne_eq_false_iff_eq.mpr c5
   clear c5
   (first | rw [c5b0] | (simp only [i64_w, i32_w]; rw [c5b0]) | skip)
   obtain ⟨t692, A6, H⟩ := bs1 H
   by_cases c7 : t692.toList = a0_2.toList
   ·rw [if_pos c7] at H
    have c7b0 := beq_iff_eq.mpr c7
    have c7b1 := bne_eq_false_iff_eq.mpr c7
    clear c7
    have H' := Aside0.mk H
    clear H
    obtain ⟨hcz8_0, hcz8_1, hcz8_2, hfz8_0, hfz8_1, hfz8_2⟩ := cz BK690.out
    go_wp2_with (first | (go_at_call 118; (with_reducible refine (insolvencyref1_Normalize.calls k a0_1 t691 _ A4.out).mono ?_); rintro e w' ⟨rfl, ⟨nd, rfl⟩⟩; (try exact dw)) | (go_at_call 118; (with_reducible refine (insolvencyref1_Normalize.calls k a0_2 t692 _ A6.out).mono ?_); rintro e w' ⟨rfl, ⟨nd, rfl⟩⟩; (try exact dw)))
    repeat (go_quiet (first | (go_at_call 118; (with_reducible refine (insolvencyref1_Normalize.calls k a0_1 t691 _ A4.out).mono ?_); rintro e w' ⟨rfl, ⟨nd, rfl⟩⟩; (try exact dw)) | (go_at_call 118; (with_reducible refine (insolvencyref1_Normalize.calls k a0_2 t692 _ A6.out).mono ?_); rintro e w' ⟨rfl, ⟨nd, rfl⟩⟩; (try exact dw))); try go_wp2_with (first | (go_at_call 118; (with_reducible refine (insolvencyref1_Normalize.calls k a0_1 t691 _ A4.out).mono ?_); rintro e w' ⟨rfl, ⟨nd, rfl⟩⟩; (try exact dw)) | (go_at_call 118; (with_reducible refine (insolvencyref1_Normalize.calls k a0_2 t692 _ A6.out).mono ?_); rintro e w' ⟨rfl, ⟨nd, rfl⟩⟩; (try exact dw))))
    go_meet
    case rel => exact ⟨_, ((a0_2.toList == ([1] : List UInt8))), fs, H', ⟨by first | omega | exact Nat.le_refl _⟩, ⟨bq BK690.out⟩, ⟨bz HB.out⟩⟩
   ·rw [if_neg c7] at H
    have c7b0 := beq_eq_false_iff_ne.mpr c7
    have c7b1 := bne_iff_ne.mpr c7
    have H' := Aside0.mk H
    clear H
    obtain ⟨hcz9_0, hcz9_1, hcz9_2, hfz9_0, hfz9_1, hfz9_2⟩ := cz BK690.out
    go_wp2_with (first | (go_at_call 118; (with_reducible refine (insolvencyref1_Normalize.calls k a0_1 t691 _ A4.out).mono ?_); rintro e w' ⟨rfl, ⟨nd, rfl⟩⟩; (try exact dw)) | (go_at_call 118; (with_reducible refine (insolvencyref1_Normalize.calls k a0_2 t692 _ A6.out).mono ?_); rintro e w' ⟨rfl, ⟨nd, rfl⟩⟩; (try exact dw)))
    repeat (go_quiet (first | (go_at_call 118; (with_reducible refine (insolvencyref1_Normalize.calls k a0_1 t691 _ A4.out).mono ?_); rintro e w' ⟨rfl, ⟨nd, rfl⟩⟩; (try exact dw)) | (go_at_call 118; (with_reducible refine (insolvencyref1_Normalize.calls k a0_2 t692 _ A6.out).mono ?_); rintro e w' ⟨rfl, ⟨nd, rfl⟩⟩; (try exact dw))); try go_wp2_with (first | (go_at_call 118; (with_reducible refine (insolvencyref1_Normalize.calls k a0_1 t691 _ A4.out).mono ?_); rintro e w' ⟨rfl, ⟨nd, rfl⟩⟩; (try exact dw)) | (go_at_call 118; (with_reducible refine (insolvencyref1_Normalize.calls k a0_2 t692 _ A6.out).mono ?_); rintro e w' ⟨rfl, ⟨nd, rfl⟩⟩; (try exact dw))))
    go_meet
    case rel => exact ⟨_, (true), fs, H', ⟨by first | omega | exact Nat.le_refl _⟩, ⟨bq BK690.out⟩, ⟨bz HB.out⟩⟩
  ·rw [if_neg c5] at H
   have c5b0 := beq_eq_false_iff_ne.mpr c5
   have c5b1 := bne_iff_ne.mpr c5
   (first | rw [c5b0] | (simp only [i64_w, i32_w]; rw [c5b0]) | skip)
   have H' := Aside0.mk H
   clear H
   obtain ⟨hcz10_0, hcz10_1, hcz10_2, hfz10_0, hfz10_1, hfz10_2⟩ := cz BK690.out
   go_wp2_with (first | (go_at_call 118; (with_reducible refine (insolvencyref1_Normalize.calls k a0_1 t691 _ A4.out).mono ?_); rintro e w' ⟨rfl, ⟨nd, rfl⟩⟩; (try exact dw)))
   repeat (go_quiet (first | (go_at_call 118; (with_reducible refine (insolvencyref1_Normalize.calls k a0_1 t691 _ A4.out).mono ?_); rintro e w' ⟨rfl, ⟨nd, rfl⟩⟩; (try exact dw))); try go_wp2_with (first | (go_at_call 118; (with_reducible refine (insolvencyref1_Normalize.calls k a0_1 t691 _ A4.out).mono ?_); rintro e w' ⟨rfl, ⟨nd, rfl⟩⟩; (try exact dw))))
   go_meet
   case rel => exact ⟨_, (true), fs, H', ⟨by first | omega | exact Nat.le_refl _⟩, ⟨bq BK690.out⟩, ⟨bz HB.out⟩⟩
 case rest =>
  clear HC2
  (try clear c5b0); (try clear c5b1); (try clear c7b0); (try clear c7b1); (try clear hcz10_0); (try clear hcz10_1); (try clear hcz10_2); (try clear hcz8_0); (try clear hcz8_1); (try clear hcz8_2); (try clear hcz9_0); (try clear hcz9_1); (try clear hcz9_2); (try clear hfz10_0); (try clear hfz10_1); (try clear hfz10_2); (try clear hfz8_0); (try clear hfz8_1); (try clear hfz8_2); (try clear hfz9_0); (try clear hfz9_1); (try clear hfz9_2)
  obtain ⟨kq, x21_1, rfl, HA, HJ1, BK690, HB⟩ := hcut
  cases kq with
  | zero => exact absurd HA.out (by simp [insolvencyref1_Valid.j0])
  | succ kj1 =>
   have H := HA.out
   clear HA
   simp only [insolvencyref1_Valid.j0] at H
   by_cases c11 : x21_1 = true
   ·subst c11
    have H1 : (some false) = some r := by rw [if_pos rfl] at H; exact H
    clear H
    have H := H1
    clear H1
    obtain rfl := Option.some.inj H
    go_wp2
    repeat (go_quiet (fail); try go_wp2)
    go_ret
    exact ⟨fe, bz HB.out⟩
   ·replace c11 := Bool.eq_false_iff.mpr c11
    subst c11
    have H1 : (if a0_1.toList = ([] : List UInt8) then (if a0_0 = true then (some false) else (some (a0_2.toList == ([] : List UInt8)))) else (if a0_2.toList = ([] : List UInt8) then (some true) else ((insolvencyref1_GCD.f kj1 a0_1 a0_2).bind fun t693 => (some (t693.toList == ([1] : List UInt8)))))) = some r := by rw [if_neg (show ¬ (false = true) by decide)] at H; exact H
    clear H
    have H := H1
    clear H1
    by_cases c12 : a0_1.toList = ([] : List UInt8)
    ·rw [if_pos c12] at H
     have c12b0 := beq_iff_eq.mpr c12
     have c12b1 := bne_eq_false_iff_eq.mpr c12
     clear c12
     by_cases c13 : a0_0 = true
     ·subst c13
      have H1 : (some false) = some r := by rw [if_pos rfl] at H; exact H
      clear H
      have H := H1
      clear H1
      obtain rfl := Option.some.inj H
      obtain ⟨hcz14_0, hcz14_1, hcz14_2, hfz14_0, hfz14_1, hfz14_2⟩ := cz BK690.out
      go_wp2
      repeat (go_quiet (fail); try go_wp2)
      go_ret
      exact ⟨fe, bz HB.out⟩
     ·replace c13 := Bool.eq_false_iff.mpr c13
      subst c13
      have H1 : (some (a0_2.toList == ([] : List UInt8))) = some r := by rw [if_neg (show ¬ (false = true) by decide)] at H; exact H
      clear H
      have H := H1
      clear H1
      obtain rfl := Option.some.inj H
      obtain ⟨hcz15_0, hcz15_1, hcz15_2, hfz15_0, hfz15_1, hfz15_2⟩ := cz BK690.out
      go_wp2
      repeat (go_quiet (fail); try go_wp2)
      go_ret
      exact ⟨fe, bz HB.out⟩
    ·rw [if_neg c12] at H
     have c12b0 := beq_eq_false_iff_ne.mpr c12
     have c12b1 := bne_iff_ne.mpr c12
     by_cases c16 : a0_2.toList = ([] : List UInt8)
     ·rw [if_pos c16] at H
      have c16b0 := beq_iff_eq.mpr c16
      have c16b1 := bne_eq_false_iff_eq.mpr c16
      clear c16
      obtain rfl := Option.some.inj H
      obtain ⟨hcz17_0, hcz17_1, hcz17_2, hfz17_0, hfz17_1, hfz17_2⟩ := cz BK690.out
      go_wp2
      repeat (go_quiet (fail); try go_wp2)
      go_ret
      exact ⟨fe, bz HB.out⟩
     ·rw [if_neg c16] at H
      have c16b0 := beq_eq_false_iff_ne.mpr c16
      have c16b1 := bne_iff_ne.mpr c16
      obtain ⟨t693, A18, H⟩ := bs1 H
      obtain rfl := Option.some.inj H
      obtain ⟨hcz19_0, hcz19_1, hcz19_2, hfz19_0, hfz19_1, hfz19_2⟩ := cz BK690.out
      go_wp2_with (first | (go_at_call 119; (with_reducible refine (insolvencyref1_GCD.calls kj1 a0_1 a0_2 t693 _ A18.out).mono ?_); rintro e w20 ⟨rfl, hb⟩; replace BK690 := Aside0.mk (bk0 BK690.out hb); replace HB := Aside0.mk (bs HB.out hb); (try clear hb)))
      repeat (go_quiet (first | (go_at_call 119; (with_reducible refine (insolvencyref1_GCD.calls kj1 a0_1 a0_2 t693 _ A18.out).mono ?_); rintro e w20 ⟨rfl, hb⟩; replace BK690 := Aside0.mk (bk0 BK690.out hb); replace HB := Aside0.mk (bs HB.out hb); (try clear hb))); try go_wp2_with (first | (go_at_call 119; (with_reducible refine (insolvencyref1_GCD.calls kj1 a0_1 a0_2 t693 _ A18.out).mono ?_); rintro e w20 ⟨rfl, hb⟩; replace BK690 := Aside0.mk (bk0 BK690.out hb); replace HB := Aside0.mk (bs HB.out hb); (try clear hb))))
      go_ret
      exact ⟨fe, bz HB.out⟩

/-! ### insolvencyref1_Fix: function 22 -/
def insolvencyref1_Fix.f (k : Nat) (a0_0 : Bool) (a0_1 : ByteArray) (a0_2 : ByteArray) : Option (Bool × ByteArray × ByteArray) := (insolvencyref1_Valid.f k a0_0 a0_1 a0_2).bind fun t696 => (if t696 = true then (some (a0_0, a0_1, a0_2)) else (some (false, (⟨#[]⟩ : ByteArray), (⟨#[]⟩ : ByteArray))))
set_option maxHeartbeats 8000000 in
set_option maxRecDepth 100000 in
theorem insolvencyref1_Fix.calls (k : Nat) (a0_0 : Bool) (a0_1 : ByteArray) (a0_2 : ByteArray) (r1 : Bool) (r2 : ByteArray) (r3 : ByteArray) (w : World) (h : insolvencyref1_Fix.f k a0_0 a0_1 a0_2 = some (r1, r2, r3)) :
  Calls Tryz.prog 22 #[.agg #[.bool a0_0, .string a0_1, .string a0_2]] w fun e w' => e = .returned (.agg #[.bool r1, .string r2, .string r3]) ∧ Below w.heap.size w w' := by
 have hu24 := Tryz.underlying24
 have HB := Aside0.mk (Below.refl w.heap.size w)
 have H := h
 clear h
 unfold insolvencyref1_Fix.f at H
 obtain ⟨t696, A2, H⟩ := bs1 H
 by_cases c3 : t696 = true
 ·subst c3
  have H1 : (some (a0_0, a0_1, a0_2)) = some (r1, r2, r3) := by rw [if_pos rfl] at H; exact H
  clear H
  have H := H1
  clear H1
  simp only [Option.some.injEq, Prod.mk.injEq] at H
  obtain ⟨rfl, rfl, rfl⟩ := H
  go_enter Tryz.func22, Tryz.ntmps22
  go_wp2_with (first | ((with_reducible refine gd 1 rfl ?_); refine bx 1 (#[.bool a0_0, .string a0_1, .string a0_2]) 24 ?_; intro gb694 hg w4 hbox hb; have BK694 := Aside0.mk (hbox); have GW694 := sg hg HB.out; have GE694 := sg hg HB.out; replace HB := Aside0.mk (bs HB.out hb); clear hb hbox hg) | ((with_reducible refine gd 2 rfl ?_); refine bx 2 (#[.bool false, .string (⟨#[]⟩ : ByteArray), .string (⟨#[]⟩ : ByteArray)]) 24 ?_; intro gb695 hg w5 hbox hb; have BK695 := Aside0.mk (hbox); have GW695 := sg hg HB.out; have GE695 := sg hg HB.out; replace HB := Aside0.mk (bs HB.out hb); have NB694_695 := nl hg BK694.out; have NB695_694 := nr hg BK694.out; replace BK694 := Aside0.mk (bk0 BK694.out hb); clear hb hbox hg; have hnb6 := NB694_695.out; have hnc6 := NB695_694.out; obtain ⟨hcz7_0, hcz7_1, hcz7_2, hfz7_0, hfz7_1, hfz7_2⟩ := cz BK694.out) | ((with_reducible refine gc 75 rfl ?_); refine gl (some 4) Tryz.func75 #[.agg #[.bool a0_0, .string a0_1, .string a0_2]] ?_; (with_reducible refine (insolvencyref1_Valid.calls k a0_0 a0_1 a0_2 true _ A2.out).mono ?_); rintro e w8 ⟨rfl, hb⟩; refine ⟨_, rfl, ?_⟩; replace BK694 := Aside0.mk (bk0 BK694.out hb); replace BK695 := Aside0.mk (bk0 BK695.out hb); replace HB := Aside0.mk (bs HB.out hb); (try clear hb); obtain ⟨hcz9_0, hcz9_1, hcz9_2, hfz9_0, hfz9_1, hfz9_2⟩ := cz BK694.out; obtain ⟨hcz10_0, hcz10_1, hcz10_2, hfz10_0, hfz10_1, hfz10_2⟩ := cz BK695.out))
  refine bodyPost_ret (results_cell_row rfl _ _ gb695 24 #[.bool a0_0, .string a0_1, .string a0_2] (0, 0) _ rfl (bq BK695.out) Tryz.underlying24 rfl (by kernel_rfl)) rfl ?_
  exact ⟨fe, bz HB.out⟩
 ·replace c3 := Bool.eq_false_iff.mpr c3
  subst c3
  have H1 : (some (false, (⟨#[]⟩ : ByteArray), (⟨#[]⟩ : ByteArray))) = some (r1, r2, r3) := by rw [if_neg (show ¬ (false = true) by decide)] at H; exact H
  clear H
  have H := H1
  clear H1
  simp only [Option.some.injEq, Prod.mk.injEq] at H
  obtain ⟨rfl, rfl, rfl⟩ := H
  go_enter Tryz.func22, Tryz.ntmps22
  go_wp2_with (first | ((with_reducible refine gd 1 rfl ?_); refine bx 1 (#[.bool a0_0, .string a0_1, .string a0_2]) 24 ?_; intro gb694 hg w11 hbox hb; have BK694 := Aside0.mk (hbox); have GW694 := sg hg HB.out; have GE694 := sg hg HB.out; replace HB := Aside0.mk (bs HB.out hb); clear hb hbox hg) | ((with_reducible refine gd 2 rfl ?_); refine bx 2 (#[.bool false, .string (⟨#[]⟩ : ByteArray), .string (⟨#[]⟩ : ByteArray)]) 24 ?_; intro gb695 hg w12 hbox hb; have BK695 := Aside0.mk (hbox); have GW695 := sg hg HB.out; have GE695 := sg hg HB.out; replace HB := Aside0.mk (bs HB.out hb); have NB694_695 := nl hg BK694.out; have NB695_694 := nr hg BK694.out; replace BK694 := Aside0.mk (bk0 BK694.out hb); clear hb hbox hg; have hnb13 := NB694_695.out; have hnc13 := NB695_694.out; obtain ⟨hcz14_0, hcz14_1, hcz14_2, hfz14_0, hfz14_1, hfz14_2⟩ := cz BK694.out) | ((with_reducible refine gc 75 rfl ?_); refine gl (some 4) Tryz.func75 #[.agg #[.bool a0_0, .string a0_1, .string a0_2]] ?_; (with_reducible refine (insolvencyref1_Valid.calls k a0_0 a0_1 a0_2 false _ A2.out).mono ?_); rintro e w15 ⟨rfl, hb⟩; refine ⟨_, rfl, ?_⟩; replace BK694 := Aside0.mk (bk0 BK694.out hb); replace BK695 := Aside0.mk (bk0 BK695.out hb); replace HB := Aside0.mk (bs HB.out hb); (try clear hb); obtain ⟨hcz16_0, hcz16_1, hcz16_2, hfz16_0, hfz16_1, hfz16_2⟩ := cz BK695.out))
  refine bodyPost_ret (results_cell_row rfl _ _ gb695 24 #[.bool false, .string (⟨#[]⟩ : ByteArray), .string (⟨#[]⟩ : ByteArray)] (0, 0) _ rfl (bq BK695.out) Tryz.underlying24 rfl (by kernel_rfl)) rfl ?_
  exact ⟨fe, bz HB.out⟩

/-! ### insolvencyref1_written: function 82 -/
mutual
def insolvencyref1_written.l0 : Nat → List Int → List Int → Option (ByteArray)
 | 0, _, _ => none
 | k + 1, x0, x3 => if (x0.length : Int) > 0 then ((insolvencyref1_short.f k x0 10).bind fun bt697 => (if x3.length < 140737488355328 then (insolvencyref1_written.l0 k bt697.1 (x3 ++ [(48 + bt697.2) % 256])) else (none))) else (if (x3.length : Int) = 0 then (some (⟨#[48]⟩ : ByteArray)) else (insolvencyref1_written.l1 k x3 0))
def insolvencyref1_written.l1 : Nat → List Int → Int → Option (ByteArray)
 | 0, _, _ => none
 | k + 1, x3, x6 => if x6 < (wrap64 ((x3.length : Int) / 2)) then (if 0 ≤ x6 then (if x6 < (x3.length : Int) then (if 0 ≤ (wrap64 ((wrap64 ((x3.length : Int) - 1)) - x6)) then (if (wrap64 ((wrap64 ((x3.length : Int) - 1)) - x6)) < (x3.length : Int) then (insolvencyref1_written.l1 k ((x3.set (x6 : Int).toNat (rd x3 (wrap64 ((wrap64 ((x3.length : Int) - 1)) - x6)))).set ((wrap64 ((wrap64 ((x3.length : Int) - 1)) - x6)) : Int).toNat (rd x3 x6)) (wrap64 (x6 + 1))) else (none)) else (none)) else (none)) else (none)) else (some (strOfNums x3))
end
def insolvencyref1_written.f (k : Nat) (l0 : List Int) : Option (ByteArray) := insolvencyref1_written.l0 k l0 ([] : List Int)
set_option maxHeartbeats 8000000 in
set_option maxRecDepth 100000 in
theorem insolvencyref1_written.calls (k : Nat) (P0_ : Nat → Prop) (A0 : Option Addr) (c0 : Nat) (l0 : List Int) (r : ByteArray) (w : World) (hs0 : Kd.V (Kd.int .u32) 52 w w.heap.size (fun k_ => P0_ k_) (.slice A0 l0.length c0) l0) (h : insolvencyref1_written.f k l0 = some r) :
  Calls Tryz.prog 82 #[.slice A0 l0.length c0] w fun e w' => e = .returned (.string r) ∧ Below w.heap.size w w' := by
 have HO0 := Aside0.mk (show Kd.V (Kd.int .u32) 52 w w.heap.size (fun k_ => (P0_ k_ ∨ w.heap.size ≤ k_)) (.slice A0 l0.length c0) l0 from Kd.V_mono hs0 (fun k_ hk => .inl hk))
 have HB := Aside0.mk (Below.refl w.heap.size w)
 have H := h
 clear h
 unfold insolvencyref1_written.f at H
 have H' := Aside0.mk H
 clear H
 go_enter Tryz.func82, Tryz.ntmps82
 go_wp2
 go_loopg [0, 3] k (fun kq v0 v3 w' => ∃ (x0_1 : List Int) (x3_1 : List Int), Aside0 (insolvencyref1_written.l0 kq x0_1 x3_1 = some r) ∧ Aside0 (kq ≤ k) ∧ Aside0 (Kd.V (Kd.int .u32) 52 w' w.heap.size (fun k_ => (P0_ k_ ∨ w.heap.size ≤ k_) ∧ some k_ ≠ (v3 : Value).ownBlock) v0 x0_1) ∧ Aside0 (Kd.R (Kd.int .u8) 5 w' w.heap.size (fun k_ => (w.heap.size ≤ k_)) v3 x3_1) ∧ Aside0 (Below w.heap.size w w'))
 case atStart => exact ⟨(l0), (([] : List Int)), H', ⟨Nat.le_refl _⟩, ⟨vm HO0.out (fun _ hk => ⟨hk, (by simp [Value.ownBlock])⟩)⟩, ⟨by first | exact Kd.R_nil _ _ _ _ _ | exact Kd.N_nil _ _ _ _ _ | exact Kd.V_nil _ _ _ _ _ | exact Kd.Q_nil _ _ _ _ _ | exact Kd.S_nil _ _ _ _ _⟩, ⟨bz HB.out⟩⟩
 case round =>
  clear H'
  obtain ⟨x0_1, x3_1, HA, HK1, HO_0, HO_3, HB⟩ := hrel
  cases gk with
  | zero => exact absurd HA.out (by simp [insolvencyref1_written.l0])
  | succ k1 =>
   have H := HA.out
   clear HA
   simp only [insolvencyref1_written.l0] at H
   by_cases c2 : (x0_1.length : Int) > 0
   ·rw [if_pos c2] at H
    have c2b0 : decide (0 < (x0_1.length : Int)) = true := decide_eq_true c2
    have c2b1 : decide (0 < x0_1.length) = true := decide_eq_true (by omega)
    clear c2
    obtain ⟨⟨t697, t700⟩, A3, H⟩ := bs1 H; dsimp only at H
    obtain ⟨c4, H⟩ := iN H
    have LMc4 := Aside0.mk c4
    clear c4
    obtain ⟨y701, hy701⟩ : ∃ y_ : List Int, y_ = (x3_1 ++ [(48 + t700) % 256]) := ⟨_, rfl⟩
    (try first | rw [← hy701] at H | (dsimp only at H; rw [← hy701] at H)); (try rw [Option.bind_some] at H)
    have Ny701 := Aside0.mk hy701
    clear hy701
    have H' := Aside0.mk H
    clear H
    obtain ⟨Ao5, co5, rfl⟩ := Kd.V_slice HO_0.out
    go_wp2_with (first | ((with_reducible refine gc 128 rfl ?_); refine gl (some 13) Tryz.func128 #[.slice Ao5 x0_1.length co5, .int .u32 10] ?_; (with_reducible refine (insolvencyref1_short.calls k1 _ _ x0_1 10 t697 t700 _ ?side1 ?side2 A3.out).mono ?_); (case side1 => exact vs (Kd.V_reads' HO_0.out).2.2); (case side2 => exact (Kd.V_reads' HO_0.out).2.1); rintro e w6 ⟨v698, rfl, ho0, hb⟩; refine ⟨_, rfl, ?_⟩; replace HO_0 := Aside0.mk (vb HO_0.out hb); have HO699 := Aside0.mk (Kd.V_lower (Kd.V_mono (ok' := fun k_ => (P0_ k_ ∨ w.heap.size ≤ k_) ∧ some k_ ≠ (u3 : Value).ownBlock) ho0 (fun k_ hk_ => ⟨(.inr (Nat.le_trans (sz HB.out) hk_)), (Kd.fresh' (Kd.R_lt (vs HO_3.out)) k_ hk_)⟩)) (sz HB.out)); replace HO_3 := Aside0.mk (rb HO_3.out hb); replace HB := Aside0.mk (bs HB.out hb); (try clear hb ho0)) | ((with_reducible refine gate_builtin (b := .append) (xs := #[.tmp 16, .tmp 20]) rfl ?_); at_builtin; refine Kd.R_append (Kd.int .u8) (w0 := w) w.heap.size rfl (.tmp 16) (.tmp 20) 57 5 (.int .u8 0) 1 rfl Tryz.underlying57 info5 rfl (by decide) (by omega) u3 x3_1 ((48 + t700) % 256) [.int .u8 ((48 + t700) % 256)] (fun k_ => (w.heap.size ≤ k_)) (fun _ => False) rfl rfl ?aP (fun _ hk => hk.elim) ?aF ?aO ?aB ?aS ?aL ?_; (case aP => exact rfl); (case aB => exact (bz HB.out)); (case aF => exact (fun k_ hk => (Nat.le_trans (sz HB.out) hk))); (case aO => exact (vs HO_3.out)); (case aS => exact (sz HB.out)); (case aL => have := LMc4.out; omega); intro v702 w7 ho hb hg hat; rw [← Ny701.out] at ho; replace HO_0 := Aside0.mk (Kd.V_afterv (ok := (fun k_ => (P0_ k_ ∨ w.heap.size ≤ k_))) (vs HO_0.out) hg hat); replace HO699 := Aside0.mk (Kd.V_afterv (ok := (fun k_ => (P0_ k_ ∨ w.heap.size ≤ k_))) (vs HO699.out) hg hat); replace HB := Aside0.mk (hb); have HO703 := Aside0.mk (ho); clear HO_3; clear ho hb hg hat))
    go_roundg k1
    case measure => have := HK1.out; omega
    case rel => exact ⟨(t697), (y701), H', ⟨by have := HK1.out; omega⟩, ⟨vs HO699.out⟩, ⟨vs HO703.out⟩, ⟨bz HB.out⟩⟩
   ·rw [if_neg c2] at H
    have c2b0 : decide (0 < (x0_1.length : Int)) = false := decide_eq_false c2
    have c2b1 : decide (0 < x0_1.length) = false := decide_eq_false (by omega)
    clear c2
    by_cases c8 : (x3_1.length : Int) = 0
    ·rw [if_pos c8] at H
     have c8b0 := beq_iff_eq.mpr c8
     have c8b1 := bne_eq_false_iff_eq.mpr c8
     clear c8
     obtain rfl := Option.some.inj H
     obtain ⟨Ao9, co9, rfl⟩ := Kd.V_slice HO_0.out
     obtain ⟨Ao10, co10, eo10⟩ := Kd.R_slice HO_3.out
     subst eo10
     go_wp2
     go_ret
     exact ⟨fe, bz HB.out⟩
    ·rw [if_neg c8] at H
     have c8b0 := beq_eq_false_iff_ne.mpr c8
     have c8b1 := bne_iff_ne.mpr c8
     have c8b2 : ¬ (x3_1 = []) := fun h_ => c8 (by rw [h_]; rfl)
     have H' := Aside0.mk H
     clear H
     obtain ⟨Ao11, co11, rfl⟩ := Kd.V_slice HO_0.out
     obtain ⟨Ao12, co12, eo12⟩ := Kd.R_slice HO_3.out
     subst eo12
     go_wp2
     go_loopg [6] k1 (fun kq v6 w' => ∃ (x3_2 : List Int) (x6_2 : Int), v6 = .int .i64 x6_2 ∧ Aside0 (insolvencyref1_written.l1 kq x3_2 x6_2 = some r) ∧ Aside0 (kq ≤ k1) ∧ Aside0 (Kd.R (Kd.int .u8) 5 w' w.heap.size (fun k_ => (w.heap.size ≤ k_)) (.slice Ao12 x3_1.length co12) x3_2) ∧ Aside0 (Below w.heap.size w w'))
     case atStart => exact ⟨(x3_1), (0), fs, H', ⟨Nat.le_refl _⟩, ⟨vs HO_3.out⟩, ⟨bz HB.out⟩⟩
     case round =>
      clear H'
      (try clear c2b0); (try clear c2b1); (try clear c8b0); (try clear c8b1); (try clear c8b2)
      obtain ⟨x3_2, x6_2, rfl, HA, HK2, HO_3, HB⟩ := hrel
      have hl3_2 := (Kd.R_reads' HO_3.out).1
      rw [hl3_2] at HO_3
      (try simp only [hl3_2])
      cases gk with
      | zero => exact absurd HA.out (by simp [insolvencyref1_written.l1])
      | succ k2 =>
       have H := HA.out
       clear HA
       simp only [insolvencyref1_written.l1] at H
       by_cases c13 : x6_2 < (wrap64 ((x3_2.length : Int) / 2))
       ·rw [if_pos c13] at H
        have c13b0 : decide (x6_2 < (wrap64 ((x3_2.length : Int) / 2))) = true := decide_eq_true c13
        (try (have c13b0_hl3_2 := c13b0; rw [hl3_2] at c13b0_hl3_2))
        clear c13
        obtain ⟨c14, H⟩ := iN H
        have c14b0 : decide (0 ≤ x6_2) = true := decide_eq_true c14
        clear c14
        obtain ⟨c15, H⟩ := iN H
        have c15b0 : decide (x6_2 < (x3_2.length : Int)) = true := decide_eq_true c15
        (try (have c15b0_hl3_2 := c15b0; rw [hl3_2] at c15b0_hl3_2))
        clear c15
        obtain ⟨ji16, hji16⟩ : ∃ j_ : Int, (wrap64 ((wrap64 ((x3_2.length : Int) - 1)) - x6_2)) = j_ := ⟨_, rfl⟩
        first | rw [hji16] at H | simp only [hji16] at H
        have hji16w : (IntKind.i64.wrap ((wrap64 ((x3_2.length : Int) - 1)) - x6_2)) = ji16 := (i64_w _).trans hji16
        obtain ⟨c17, H⟩ := iN H
        have c17b0 : decide (0 ≤ (ji16)) = true := decide_eq_true c17
        clear c17
        obtain ⟨c18, H⟩ := iN H
        have c18b0 : decide ((ji16) < (x3_2.length : Int)) = true := decide_eq_true c18
        (try (have c18b0_hl3_2 := c18b0; rw [hl3_2] at c18b0_hl3_2))
        clear c18
        obtain ⟨y706, hy706⟩ : ∃ y_ : List Int, y_ = (x3_2.set (x6_2 : Int).toNat (rd x3_2 (ji16))) := ⟨_, rfl⟩
        (try first | rw [← hy706] at H | (dsimp only at H; rw [← hy706] at H)); (try rw [Option.bind_some] at H)
        have Ny706 := Aside0.mk hy706
        clear hy706
        obtain ⟨y707, hy707⟩ : ∃ y_ : List Int, y_ = (y706.set ((ji16) : Int).toNat (rd x3_2 x6_2)) := ⟨_, rfl⟩
        (try first | rw [← hy707] at H | (dsimp only at H; rw [← hy707] at H)); (try rw [Option.bind_some] at H)
        have Ny707 := Aside0.mk hy707
        clear hy707
        have H' := Aside0.mk H
        clear H
        have p704 : 0 ≤ (x6_2 : Int) := oa
        have q704 : x6_2 < (x3_2.length : Int) := oa
        obtain ⟨ad704, e704, hx704_0⟩ := Kd.at_int (Kd.R_reads' HO_3.out).2.2 x6_2 p704 q704
        cases e704
        replace p704 := eq_true p704
        replace q704 := eq_true q704
        have p705 : 0 ≤ ((ji16) : Int) := oa
        have q705 : (ji16) < (x3_2.length : Int) := oa
        obtain ⟨ad705, e705, hx705_0⟩ := Kd.at_int (Kd.R_reads' HO_3.out).2.2 (ji16) p705 q705
        obtain rfl : ad704 = ad705 := (by injection e705)
        replace p705 := eq_true p705
        replace q705 := eq_true q705
        have p19 : 0 ≤ (x6_2 : Int) := oa
        have q19 : (x6_2 : Int) < ((x3_2.length : Int) : Int) := oa
        obtain ⟨go19, co19, eo19, gb19, gl19, cl19, HG19⟩ := Kd.R_form HO_3.out (by omega)
        (first | cases eo19 | (injection eo19 with ea_ en_ ec_; (first | subst ea_ | (injection ea_ with ea_; subst ea_)); subst ec_; clear en_))
        have GB19 := Aside0.mk gb19
        have GG19 := Aside0.mk HG19
        clear gb19 gl19 HG19
        (first | simp only [add_plain] at hx704_0 | skip)
        (first | simp only [add_plain] at hx705_0 | skip)
        obtain ⟨hx19_0, hf19_0⟩ := Kd.R_celln 0 HO_3.out (x6_2 : Int) p19 q19
        replace p19 := eq_true p19
        replace q19 := eq_true q19
        have HP21 := Kd.R_putg HO_3.out (x6_2 : Int) (rd x3_2 (ji16))
        go_wp2_with (first | ((with_reducible refine gate_store (t := 5) (p := 47) rfl ?_); refine se 5 47 (w1 := (wr.setCell ⟨go19, (x6_2 : Int).toNat, none⟩ (.int .u8 (rd x3_2 (ji16))))) ?_; intro w22 hw; have hg : wr.grownBy w22 (some go19) := (by rw [hw]; exact HP21.2); have hp_ : Kd.R (Kd.int .u8) 5 w22 w.heap.size (fun k_ => (w.heap.size ≤ k_)) (.slice (some ⟨go19, 0, none⟩) x3_2.length co12) y706 := (by rw [hw, Ny706.out]; exact HP21.1); clear HP21; replace HO_3 := Aside0.mk (hp_); replace HB := Aside0.mk ((by rw [hw]; exact below_set (HB.out) GB19.out : Below w.heap.size w w22)); clear hg hw hp_; have p20 : 0 ≤ ((ji16) : Int) := oa; have q20 : ((ji16) : Int) < ((x3_2.length : Int) : Int) := oa; obtain ⟨hx20_0, hf20_0⟩ := Kd.R_celln 0 HO_3.out ((ji16) : Int) p20 q20; replace p20 := eq_true p20; replace q20 := eq_true q20; obtain ⟨hy23_, hz23_⟩ := Kd.R_celln 0 HO_3.out ((ji16) : Int) oa oa; have HP23 := Kd.R_putg HO_3.out ((ji16) : Int) (rd x3_2 x6_2)) | ((with_reducible refine gate_store (t := 5) (p := 55) rfl ?_); refine se 5 55 (w1 := (w22.setCell ⟨go19, ((ji16) : Int).toNat, none⟩ (.int .u8 (rd x3_2 x6_2)))) ?_; intro w24 hw; have hg : w22.grownBy w24 (some go19) := (by rw [hw]; exact HP23.2); have hp_ : Kd.R (Kd.int .u8) 5 w24 w.heap.size (fun k_ => (w.heap.size ≤ k_)) (.slice (some ⟨go19, 0, none⟩) x3_2.length co12) y707 := (by rw [hw, Ny707.out]; exact HP23.1); clear HP23; replace HO_3 := Aside0.mk (hp_); replace HB := Aside0.mk ((by rw [hw]; exact below_set (HB.out) GB19.out : Below w.heap.size w w24)); clear hg hw hp_))
        (try simp only [← hl3_2])
        go_roundg k2
        case measure => have := HK1.out; have := HK2.out; omega
        case rel => exact ⟨(y707), (wrap64 (x6_2 + 1)), fs, H', ⟨by have := HK1.out; have := HK2.out; omega⟩, ⟨by (try simp only [hl3_2]); (with_reducible repeat (first | apply Kd.R_alloc | apply Kd.R_drewN | apply Kd.R_drew)); exact HO_3.out⟩, ⟨bz HB.out⟩⟩
       ·rw [if_neg c13] at H
        have c13b0 : decide (x6_2 < (wrap64 ((x3_2.length : Int) / 2))) = false := decide_eq_false c13
        (try (have c13b0_hl3_2 := c13b0; rw [hl3_2] at c13b0_hl3_2))
        clear c13
        obtain rfl := Option.some.inj H
        have hcv25 := own_string (P := Tryz.prog) Tryz.underlying57 Tryz.underlying5 Tryz.underlying9 (Kd.own_of_R HO_3.out)
        go_wp2
        go_ret
        exact ⟨fe, bz HB.out⟩

/-! ### insolvencyref1_den: function 81 -/
def insolvencyref1_den.f (k : Nat) (a0_0 : Bool) (a0_1 : ByteArray) (a0_2 : ByteArray) : Option (List Int) := if a0_2.toList = ([] : List UInt8) then (some (([1] : List Int))) else ((insolvencyref1_limbs.f k a0_2).bind fun t740 => (some t740))
set_option maxHeartbeats 8000000 in
set_option maxRecDepth 100000 in
theorem insolvencyref1_den.calls (k : Nat) (a0_0 : Bool) (a0_1 : ByteArray) (a0_2 : ByteArray) (r : List Int) (w : World) (h : insolvencyref1_den.f k a0_0 a0_1 a0_2 = some r) :
  Calls Tryz.prog 81 #[.agg #[.bool a0_0, .string a0_1, .string a0_2]] w fun e w' => ∃ v0_ : Value, e = .returned (v0_) ∧ Kd.R (Kd.int .u32) 52 w' w.heap.size (fun _ => True) v0_ r ∧ Below w.heap.size w w' := by
 have hu24 := Tryz.underlying24
 have HB := Aside0.mk (Below.refl w.heap.size w)
 have H := h
 clear h
 unfold insolvencyref1_den.f at H
 by_cases c2 : a0_2.toList = ([] : List UInt8)
 ·rw [if_pos c2] at H
  have c2b0 := beq_iff_eq.mpr c2
  have c2b1 := bne_eq_false_iff_eq.mpr c2
  clear c2
  obtain ⟨y737, hy737⟩ : ∃ y_ : List Int, y_ = (([1] : List Int)) := ⟨_, rfl⟩
  (try first | rw [← hy737] at H | (dsimp only at H; rw [← hy737] at H)); (try rw [Option.bind_some] at H)
  have Ny737 := Aside0.mk hy737
  clear hy737
  obtain rfl := Option.some.inj H
  go_enter Tryz.func81, Tryz.ntmps81
  go_wp2_with (first | ((with_reducible refine gd 1 rfl ?_); refine bx 1 (#[.bool a0_0, .string a0_1, .string a0_2]) 24 ?_; intro gb736 hg w3 hbox hb; have BK736 := Aside0.mk (hbox); have GW736 := sg hg HB.out; have GE736 := sg hg HB.out; replace HB := Aside0.mk (bs HB.out hb); clear hb hbox hg; obtain ⟨hcz4_0, hcz4_1, hcz4_2, hfz4_0, hfz4_1, hfz4_2⟩ := cz BK736.out) | ((with_reducible refine gd 6 rfl ?_); refine Kd.R_lit (Kd.int .u32) _ 52 ?hg (N := 6) ?hd (xs := ([1] : List Int)) (inner := [.int .u32 1]) (ok := fun _ => True) (okp := fun _ => True) ?hr ?hp (fun _ hk => hk) trivial (Below.refl _ _) (Nat.le_refl _) (by simp) ?_; (case hd => rfl); (case hg => rfl); (case hr => first | (go_simp; done) | (go_simp; rfl)); (case hp => exact (Reps.one (show Kd.M (Kd.int .u32) _ _ _ 1 [.int .u32 1] from rfl) (Reps.none _ _))); intro v738 w5 ho6 hb hg_ hnew_; clear hg_ hnew_; (first | rw [← Ny737.out] at ho6 | (simp only [Int.reduceToNat] at ho6; rw [← Ny737.out] at ho6)); have HO739 := Aside0.mk (Kd.R_lower ho6 (sz HB.out)); replace BK736 := Aside0.mk (bk0 BK736.out hb); replace HB := Aside0.mk (bs HB.out hb); clear hb ho6))
  go_ret
  exact ⟨_, fe, vs HO739.out, bz HB.out⟩
 ·rw [if_neg c2] at H
  have c2b0 := beq_eq_false_iff_ne.mpr c2
  have c2b1 := bne_iff_ne.mpr c2
  obtain ⟨t740, A7, H⟩ := bs1 H
  obtain rfl := Option.some.inj H
  go_enter Tryz.func81, Tryz.ntmps81
  go_wp2_with (first | ((with_reducible refine gd 1 rfl ?_); refine bx 1 (#[.bool a0_0, .string a0_1, .string a0_2]) 24 ?_; intro gb736 hg w8 hbox hb; have BK736 := Aside0.mk (hbox); have GW736 := sg hg HB.out; have GE736 := sg hg HB.out; replace HB := Aside0.mk (bs HB.out hb); clear hb hbox hg; obtain ⟨hcz9_0, hcz9_1, hcz9_2, hfz9_0, hfz9_1, hfz9_2⟩ := cz BK736.out) | ((with_reducible refine gc 79 rfl ?_); refine gl (some 9) Tryz.func79 #[.string a0_2] ?_; (with_reducible refine (insolvencyref1_limbs.calls k a0_2 t740 _ A7.out).mono ?_); rintro e w10 ⟨v741, rfl, ho0, hb⟩; refine ⟨_, rfl, ?_⟩; have HO742 := Aside0.mk (Kd.R_lower ho0 (sz HB.out)); replace BK736 := Aside0.mk (bk0 BK736.out hb); replace HB := Aside0.mk (bs HB.out hb); (try clear hb ho0)))
  go_ret
  exact ⟨_, fe, vs HO742.out, bz HB.out⟩

/-! ### insolvencyref1_Decimal: function 24 -/
mutual
def insolvencyref1_Decimal.l0 : Nat → Int → List Int → Int → Bool → ByteArray → ByteArray → Option (ByteArray)
 | 0, _, _, _, _, _, _ => none
 | k + 1, x1, x5, x6, x744000, x744001, x744002 => if x6 < x1 then ((insolvencyref1_times.f k x5 (([10] : List Int))).bind fun t753 => (insolvencyref1_Decimal.l0 k x1 t753 (wrap64 (x6 + 1)) x744000 x744001 x744002)) else ((insolvencyref1_den.f k x744000 x744001 x744002).bind fun t756 => ((insolvencyref1_divide.f k x5 t756).bind fun bt759 => ((insolvencyref1_written.f k bt759.1).bind fun t765 => (insolvencyref1_Decimal.l1 k x1 bt759.1 t765 x744000 x744001 x744002))))
def insolvencyref1_Decimal.l1 : Nat → Int → List Int → ByteArray → Bool → ByteArray → ByteArray → Option (ByteArray)
 | 0, _, _, _, _, _, _ => none
 | k + 1, x1, x7, x9, x744000, x744001, x744002 => if (x9.size : Int) ≤ x1 then (if 1 + x9.size ≤ 9223372036854775807 then (insolvencyref1_Decimal.l1 k x1 x7 ((⟨#[48]⟩ : ByteArray) ++ x9) x744000 x744001 x744002) else (none)) else (if x1 > 0 then (if 0 ≤ (wrap64 ((x9.size : Int) - x1)) then (if (wrap64 ((x9.size : Int) - x1)) ≤ (x9.size : Int) then (if (x9.extract 0 ((wrap64 ((x9.size : Int) - x1)) : Int).toNat).size + 1 ≤ 9223372036854775807 then (if ((x9.extract 0 ((wrap64 ((x9.size : Int) - x1)) : Int).toNat) ++ (⟨#[46]⟩ : ByteArray)).size + (x9.extract ((wrap64 ((x9.size : Int) - x1)) : Int).toNat x9.size).size ≤ 9223372036854775807 then (if x744000 = true then (if (x7.length : Int) > 0 then (if 1 + (((x9.extract 0 ((wrap64 ((x9.size : Int) - x1)) : Int).toNat) ++ (⟨#[46]⟩ : ByteArray)) ++ (x9.extract ((wrap64 ((x9.size : Int) - x1)) : Int).toNat x9.size)).size ≤ 9223372036854775807 then (some ((⟨#[45]⟩ : ByteArray) ++ (((x9.extract 0 ((wrap64 ((x9.size : Int) - x1)) : Int).toNat) ++ (⟨#[46]⟩ : ByteArray)) ++ (x9.extract ((wrap64 ((x9.size : Int) - x1)) : Int).toNat x9.size)))) else (none)) else (some (((x9.extract 0 ((wrap64 ((x9.size : Int) - x1)) : Int).toNat) ++ (⟨#[46]⟩ : ByteArray)) ++ (x9.extract ((wrap64 ((x9.size : Int) - x1)) : Int).toNat x9.size)))) else (some (((x9.extract 0 ((wrap64 ((x9.size : Int) - x1)) : Int).toNat) ++ (⟨#[46]⟩ : ByteArray)) ++ (x9.extract ((wrap64 ((x9.size : Int) - x1)) : Int).toNat x9.size)))) else (none)) else (none)) else (none)) else (none)) else (if x744000 = true then (if (x7.length : Int) > 0 then (if 1 + x9.size ≤ 9223372036854775807 then (some ((⟨#[45]⟩ : ByteArray) ++ x9)) else (none)) else (some x9)) else (some x9)))
end
def insolvencyref1_Decimal.f (k : Nat) (a0_0 : Bool) (a0_1 : ByteArray) (a0_2 : ByteArray) (a1 : Int) : Option (ByteArray) := (insolvencyref1_Fix.f k a0_0 a0_1 a0_2).bind fun bt744 => ((insolvencyref1_limbs.f k bt744.2.1).bind fun t747 => (insolvencyref1_Decimal.l0 k (mx 0 (mn a1 20)) t747 0 bt744.1 bt744.2.1 bt744.2.2))
set_option maxHeartbeats 8000000 in
set_option maxRecDepth 100000 in
theorem insolvencyref1_Decimal.calls (k : Nat) (a0_0 : Bool) (a0_1 : ByteArray) (a0_2 : ByteArray) (a1 : Int) (r : ByteArray) (w : World) (h : insolvencyref1_Decimal.f k a0_0 a0_1 a0_2 a1 = some r) :
  Calls Tryz.prog 24 #[.agg #[.bool a0_0, .string a0_1, .string a0_2], .int .i64 a1] w fun e w' => e = .returned (.string r) ∧ Below w.heap.size w w' := by
 have hu24 := Tryz.underlying24
 have HB := Aside0.mk (Below.refl w.heap.size w)
 have H := h
 clear h
 unfold insolvencyref1_Decimal.f at H
 obtain ⟨⟨t744, t745, t746⟩, A3, H⟩ := bs1 H; dsimp only at H
 obtain ⟨ji4, hji4⟩ : ∃ j_ : Int, (mn a1 20) = j_ := ⟨_, rfl⟩
 first | rw [hji4] at H | simp only [hji4] at H
 (try rw [hji4] at A3)
 (try (have hji4h : ji4 ≤ 20 := by (rw [← hji4]; unfold mn; (repeat' split) <;> omega)))
 (try (have hji4g : ji4 ≤ 64 := by omega))
 have hji4_ : (if 20 < a1 then 20 else a1) = ji4 := hji4
 obtain ⟨ji5, hji5⟩ : ∃ j_ : Int, (mx 0 (ji4)) = j_ := ⟨_, rfl⟩
 first | rw [hji5] at H | simp only [hji5] at H
 (try rw [hji5] at A3)
 have hji5_ : (if 0 < (ji4) then (ji4) else 0) = ji5 := hji5
 obtain ⟨t747, A6, H⟩ := bs1 H
 have H' := Aside0.mk H
 clear H
 go_enter Tryz.func24, Tryz.ntmps24
 go_wp2_with (first | ((with_reducible refine gd 2 rfl ?_); (try (refine gate_guard (by rfl) ?_; dsimp only)); refine bx 2 (#[.bool a0_0, .string a0_1, .string a0_2]) 24 ?_; intro gb743 hg w7 hbox hb; have BK743 := Aside0.mk (hbox); have GW743 := sg hg HB.out; have GE743 := sg hg HB.out; replace HB := Aside0.mk (bs HB.out hb); clear hb hbox hg; obtain ⟨hcz8_0, hcz8_1, hcz8_2, hfz8_0, hfz8_1, hfz8_2⟩ := cz BK743.out) | (go_at_call 22; (with_reducible refine (insolvencyref1_Fix.calls k a0_0 a0_1 a0_2 t744 t745 t746 _ A3.out).mono ?_); rintro e w9 ⟨rfl, hb⟩; replace BK743 := Aside0.mk (bk0 BK743.out hb); replace HB := Aside0.mk (bs HB.out hb); (try clear hb); obtain ⟨hcz10_0, hcz10_1, hcz10_2, hfz10_0, hfz10_1, hfz10_2⟩ := cz BK743.out) | (go_at_call 79; (with_reducible refine (insolvencyref1_limbs.calls k t745 t747 _ A6.out).mono ?_); rintro e w11 ⟨v748, rfl, ho0, hb⟩; have HO749 := Aside0.mk (Kd.R_lower ho0 (sz HB.out)); replace BK743 := Aside0.mk (bk BK743.out hb (.cells #[.bool t744, .string t745, .string t746] 24 (0, 0))); replace HB := Aside0.mk (bs HB.out hb); (try clear hb ho0)))
 repeat (go_quiet (first | ((with_reducible refine gd 2 rfl ?_); (try (refine gate_guard (by rfl) ?_; dsimp only)); refine bx 2 (#[.bool a0_0, .string a0_1, .string a0_2]) 24 ?_; intro gb743 hg w7 hbox hb; have BK743 := Aside0.mk (hbox); have GW743 := sg hg HB.out; have GE743 := sg hg HB.out; replace HB := Aside0.mk (bs HB.out hb); clear hb hbox hg; obtain ⟨hcz8_0, hcz8_1, hcz8_2, hfz8_0, hfz8_1, hfz8_2⟩ := cz BK743.out) | (go_at_call 22; (with_reducible refine (insolvencyref1_Fix.calls k a0_0 a0_1 a0_2 t744 t745 t746 _ A3.out).mono ?_); rintro e w9 ⟨rfl, hb⟩; replace BK743 := Aside0.mk (bk0 BK743.out hb); replace HB := Aside0.mk (bs HB.out hb); (try clear hb); obtain ⟨hcz10_0, hcz10_1, hcz10_2, hfz10_0, hfz10_1, hfz10_2⟩ := cz BK743.out) | (go_at_call 79; (with_reducible refine (insolvencyref1_limbs.calls k t745 t747 _ A6.out).mono ?_); rintro e w11 ⟨v748, rfl, ho0, hb⟩; have HO749 := Aside0.mk (Kd.R_lower ho0 (sz HB.out)); replace BK743 := Aside0.mk (bk BK743.out hb (.cells #[.bool t744, .string t745, .string t746] 24 (0, 0))); replace HB := Aside0.mk (bs HB.out hb); (try clear hb ho0))); try go_wp2_with (first | ((with_reducible refine gd 2 rfl ?_); (try (refine gate_guard (by rfl) ?_; dsimp only)); refine bx 2 (#[.bool a0_0, .string a0_1, .string a0_2]) 24 ?_; intro gb743 hg w7 hbox hb; have BK743 := Aside0.mk (hbox); have GW743 := sg hg HB.out; have GE743 := sg hg HB.out; replace HB := Aside0.mk (bs HB.out hb); clear hb hbox hg; obtain ⟨hcz8_0, hcz8_1, hcz8_2, hfz8_0, hfz8_1, hfz8_2⟩ := cz BK743.out) | (go_at_call 22; (with_reducible refine (insolvencyref1_Fix.calls k a0_0 a0_1 a0_2 t744 t745 t746 _ A3.out).mono ?_); rintro e w9 ⟨rfl, hb⟩; replace BK743 := Aside0.mk (bk0 BK743.out hb); replace HB := Aside0.mk (bs HB.out hb); (try clear hb); obtain ⟨hcz10_0, hcz10_1, hcz10_2, hfz10_0, hfz10_1, hfz10_2⟩ := cz BK743.out) | (go_at_call 79; (with_reducible refine (insolvencyref1_limbs.calls k t745 t747 _ A6.out).mono ?_); rintro e w11 ⟨v748, rfl, ho0, hb⟩; have HO749 := Aside0.mk (Kd.R_lower ho0 (sz HB.out)); replace BK743 := Aside0.mk (bk BK743.out hb (.cells #[.bool t744, .string t745, .string t746] 24 (0, 0))); replace HB := Aside0.mk (bs HB.out hb); (try clear hb ho0))))
 go_loopg [5, 6] k (fun kq v5 v6 w' => ∃ (x5_1 : List Int) (x6_1 : Int), v6 = .int .i64 x6_1 ∧ Aside0 (insolvencyref1_Decimal.l0 kq ji5 x5_1 x6_1 t744 t745 t746 = some r) ∧ Aside0 (kq ≤ k) ∧ Aside0 (Kd.V (Kd.int .u32) 52 w' w.heap.size (fun k_ => k_ ≠ gb743) v5 x5_1) ∧ Aside0 (w'.heap[gb743]? = some (.cells #[.bool t744, .string t745, .string t746] 24 (0, 0))) ∧ Aside0 (Below w.heap.size w w'))
 case atStart => exact ⟨(t747), (0), fs, H', ⟨Nat.le_refl _⟩, ⟨Kd.R_V (rm (Kd.R_types HO749.out BK743.out (by decide)) (fun _ hk => hk.2))⟩, ⟨bq BK743.out⟩, ⟨bz HB.out⟩⟩
 case round =>
  clear H'
  (try clear hcz10_0); (try clear hcz10_1); (try clear hcz10_2); (try clear hcz8_0); (try clear hcz8_1); (try clear hcz8_2); (try clear hfz10_0); (try clear hfz10_1); (try clear hfz10_2); (try clear hfz8_0); (try clear hfz8_1); (try clear hfz8_2)
  obtain ⟨x5_1, x6_1, rfl, HA, HK1, HO_5, BK743, HB⟩ := hrel
  cases gk with
  | zero => exact absurd HA.out (by simp [insolvencyref1_Decimal.l0])
  | succ k1 =>
   have H := HA.out
   clear HA
   simp only [insolvencyref1_Decimal.l0] at H
   by_cases c12 : x6_1 < ji5
   ·rw [if_pos c12] at H
    have c12b0 : decide (x6_1 < ji5) = true := decide_eq_true c12
    clear c12
    obtain ⟨y750, hy750⟩ : ∃ y_ : List Int, y_ = (([10] : List Int)) := ⟨_, rfl⟩
    (try first | rw [← hy750] at H | (dsimp only at H; rw [← hy750] at H)); (try rw [Option.bind_some] at H)
    have Ny750 := Aside0.mk hy750
    clear hy750
    obtain ⟨t753, A13, H⟩ := bs1 H
    have H' := Aside0.mk H
    clear H
    go_wp2_with (first | ((with_reducible refine gd 24 rfl ?_); (try (refine gate_guard (by rfl) ?_; dsimp only)); refine Kd.R_lit (Kd.int .u32) _ 52 ?hg (N := 24) ?hd (xs := ([10] : List Int)) (inner := [.int .u32 10]) (ok := fun _ => True) (okp := fun _ => True) ?hr ?hp (fun _ hk => hk) trivial (Below.refl _ _) (Nat.le_refl _) (by simp) ?_; (case hd => rfl); (case hg => rfl); (case hr => first | (go_simp; done) | (go_simp; rfl)); (case hp => exact (Reps.one (show Kd.M (Kd.int .u32) _ _ _ 10 [.int .u32 10] from rfl) (Reps.none _ _))); intro v751 w14 ho15 hb hg_ hnew_; clear hg_ hnew_; (first | rw [← Ny750.out] at ho15 | (simp only [Int.reduceToNat] at ho15; rw [← Ny750.out] at ho15)); replace HO_5 := Aside0.mk (Kd.V_elder' (vs HO_5.out) (Kd.R_base ho15) hb); have HO752 := Aside0.mk (Kd.R_lower ho15 (sz HB.out)); replace BK743 := Aside0.mk (bk0 BK743.out hb); replace HB := Aside0.mk (bs HB.out hb); clear hb ho15; obtain ⟨Ao16, co16, rfl⟩ := Kd.V_slice HO_5.out; obtain ⟨Ao17, co17, eo17⟩ := Kd.R_slice HO752.out; subst eo17) | (go_at_call 69; (with_reducible refine (insolvencyref1_times.calls k1 _ _ x5_1 _ _ y750 t753 _ ?side1 ?side2 ?side3 ?side4 A13.out).mono ?_); (case side1 => exact vs (Kd.V_reads' HO_5.out).2.2); (case side2 => exact (Kd.V_reads' HO_5.out).2.1); (case side3 => exact vs (Kd.R_reads' HO752.out).2.2); (case side4 => exact (Kd.R_reads' HO752.out).2.1); rintro e w18 ⟨v754, rfl, ho0, hb⟩; replace HO_5 := Aside0.mk (vb HO_5.out hb); have HO755 := Aside0.mk (Kd.V_lower (Kd.V_mono (ok' := fun k_ => some k_ ≠ (.slice Ao17 y750.length co17 : Value).ownBlock ∧ k_ ≠ gb743) ho0 (fun k_ hk_ => ⟨(Kd.fresh' (Kd.R_lt (vs HO752.out)) k_ hk_), (Kd.freshB (g := gb743) (o := .cells #[.bool t744, .string t745, .string t746] 24 (0, 0)) (bq BK743.out) k_ hk_)⟩)) (sz HB.out)); replace HO752 := Aside0.mk (rb HO752.out hb); replace BK743 := Aside0.mk (bk0 BK743.out hb); replace HB := Aside0.mk (bs HB.out hb); (try clear hb ho0)))
    repeat (go_quiet (first | ((with_reducible refine gd 24 rfl ?_); (try (refine gate_guard (by rfl) ?_; dsimp only)); refine Kd.R_lit (Kd.int .u32) _ 52 ?hg (N := 24) ?hd (xs := ([10] : List Int)) (inner := [.int .u32 10]) (ok := fun _ => True) (okp := fun _ => True) ?hr ?hp (fun _ hk => hk) trivial (Below.refl _ _) (Nat.le_refl _) (by simp) ?_; (case hd => rfl); (case hg => rfl); (case hr => first | (go_simp; done) | (go_simp; rfl)); (case hp => exact (Reps.one (show Kd.M (Kd.int .u32) _ _ _ 10 [.int .u32 10] from rfl) (Reps.none _ _))); intro v751 w14 ho15 hb hg_ hnew_; clear hg_ hnew_; (first | rw [← Ny750.out] at ho15 | (simp only [Int.reduceToNat] at ho15; rw [← Ny750.out] at ho15)); replace HO_5 := Aside0.mk (Kd.V_elder' (vs HO_5.out) (Kd.R_base ho15) hb); have HO752 := Aside0.mk (Kd.R_lower ho15 (sz HB.out)); replace BK743 := Aside0.mk (bk0 BK743.out hb); replace HB := Aside0.mk (bs HB.out hb); clear hb ho15; obtain ⟨Ao16, co16, rfl⟩ := Kd.V_slice HO_5.out; obtain ⟨Ao17, co17, eo17⟩ := Kd.R_slice HO752.out; subst eo17) | (go_at_call 69; (with_reducible refine (insolvencyref1_times.calls k1 _ _ x5_1 _ _ y750 t753 _ ?side1 ?side2 ?side3 ?side4 A13.out).mono ?_); (case side1 => exact vs (Kd.V_reads' HO_5.out).2.2); (case side2 => exact (Kd.V_reads' HO_5.out).2.1); (case side3 => exact vs (Kd.R_reads' HO752.out).2.2); (case side4 => exact (Kd.R_reads' HO752.out).2.1); rintro e w18 ⟨v754, rfl, ho0, hb⟩; replace HO_5 := Aside0.mk (vb HO_5.out hb); have HO755 := Aside0.mk (Kd.V_lower (Kd.V_mono (ok' := fun k_ => some k_ ≠ (.slice Ao17 y750.length co17 : Value).ownBlock ∧ k_ ≠ gb743) ho0 (fun k_ hk_ => ⟨(Kd.fresh' (Kd.R_lt (vs HO752.out)) k_ hk_), (Kd.freshB (g := gb743) (o := .cells #[.bool t744, .string t745, .string t746] 24 (0, 0)) (bq BK743.out) k_ hk_)⟩)) (sz HB.out)); replace HO752 := Aside0.mk (rb HO752.out hb); replace BK743 := Aside0.mk (bk0 BK743.out hb); replace HB := Aside0.mk (bs HB.out hb); (try clear hb ho0))); try go_wp2_with (first | ((with_reducible refine gd 24 rfl ?_); (try (refine gate_guard (by rfl) ?_; dsimp only)); refine Kd.R_lit (Kd.int .u32) _ 52 ?hg (N := 24) ?hd (xs := ([10] : List Int)) (inner := [.int .u32 10]) (ok := fun _ => True) (okp := fun _ => True) ?hr ?hp (fun _ hk => hk) trivial (Below.refl _ _) (Nat.le_refl _) (by simp) ?_; (case hd => rfl); (case hg => rfl); (case hr => first | (go_simp; done) | (go_simp; rfl)); (case hp => exact (Reps.one (show Kd.M (Kd.int .u32) _ _ _ 10 [.int .u32 10] from rfl) (Reps.none _ _))); intro v751 w14 ho15 hb hg_ hnew_; clear hg_ hnew_; (first | rw [← Ny750.out] at ho15 | (simp only [Int.reduceToNat] at ho15; rw [← Ny750.out] at ho15)); replace HO_5 := Aside0.mk (Kd.V_elder' (vs HO_5.out) (Kd.R_base ho15) hb); have HO752 := Aside0.mk (Kd.R_lower ho15 (sz HB.out)); replace BK743 := Aside0.mk (bk0 BK743.out hb); replace HB := Aside0.mk (bs HB.out hb); clear hb ho15; obtain ⟨Ao16, co16, rfl⟩ := Kd.V_slice HO_5.out; obtain ⟨Ao17, co17, eo17⟩ := Kd.R_slice HO752.out; subst eo17) | (go_at_call 69; (with_reducible refine (insolvencyref1_times.calls k1 _ _ x5_1 _ _ y750 t753 _ ?side1 ?side2 ?side3 ?side4 A13.out).mono ?_); (case side1 => exact vs (Kd.V_reads' HO_5.out).2.2); (case side2 => exact (Kd.V_reads' HO_5.out).2.1); (case side3 => exact vs (Kd.R_reads' HO752.out).2.2); (case side4 => exact (Kd.R_reads' HO752.out).2.1); rintro e w18 ⟨v754, rfl, ho0, hb⟩; replace HO_5 := Aside0.mk (vb HO_5.out hb); have HO755 := Aside0.mk (Kd.V_lower (Kd.V_mono (ok' := fun k_ => some k_ ≠ (.slice Ao17 y750.length co17 : Value).ownBlock ∧ k_ ≠ gb743) ho0 (fun k_ hk_ => ⟨(Kd.fresh' (Kd.R_lt (vs HO752.out)) k_ hk_), (Kd.freshB (g := gb743) (o := .cells #[.bool t744, .string t745, .string t746] 24 (0, 0)) (bq BK743.out) k_ hk_)⟩)) (sz HB.out)); replace HO752 := Aside0.mk (rb HO752.out hb); replace BK743 := Aside0.mk (bk0 BK743.out hb); replace HB := Aside0.mk (bs HB.out hb); (try clear hb ho0))))
    go_roundg k1
    case measure => have := HK1.out; omega
    case rel => exact ⟨(t753), (wrap64 (x6_1 + 1)), fs, H', ⟨by have := HK1.out; omega⟩, ⟨vm HO755.out (fun _ hk => hk.2)⟩, ⟨bq BK743.out⟩, ⟨bz HB.out⟩⟩
   ·rw [if_neg c12] at H
    have c12b0 : decide (x6_1 < ji5) = false := decide_eq_false c12
    clear c12
    obtain ⟨t756, A19, H⟩ := bs1 H
    obtain ⟨⟨t759, t762⟩, A20, H⟩ := bs1 H; dsimp only at H
    obtain ⟨t765, A21, H⟩ := bs1 H
    have H' := Aside0.mk H
    clear H
    obtain ⟨hcz22_0, hcz22_1, hcz22_2, hfz22_0, hfz22_1, hfz22_2⟩ := cz BK743.out
    go_wp2_with (first | (go_at_call 81; (with_reducible refine (insolvencyref1_den.calls k1 t744 t745 t746 t756 _ A19.out).mono ?_); rintro e w23 ⟨v757, rfl, ho0, hb⟩; replace HO_5 := Aside0.mk (Kd.V_elder' (vs HO_5.out) (Kd.R_base ho0) hb); have HO758 := Aside0.mk (Kd.R_lower ho0 (sz HB.out)); replace BK743 := Aside0.mk (bk0 BK743.out hb); replace HB := Aside0.mk (bs HB.out hb); (try clear hb ho0); obtain ⟨Ao24, co24, rfl⟩ := Kd.V_slice HO_5.out; obtain ⟨Ao25, co25, eo25⟩ := Kd.R_slice HO758.out; subst eo25) | (go_at_call 80; (with_reducible refine (insolvencyref1_divide.calls k1 (fun k_ => (k_ ≠ gb743 ∧ some k_ ≠ (.slice Ao25 t756.length co25 : Value).ownBlock)) _ _ x5_1 _ _ t756 t759 t762 _ ?side1 ?side2 ?side3 A20.out).mono ?_); (case side1 => exact HO_5.out); (case side2 => exact vs (Kd.R_reads' HO758.out).2.2); (case side3 => exact (Kd.R_reads' HO758.out).2.1); rintro e w26 ⟨v760, v763, rfl, ho0, ho1, hb⟩; replace HO_5 := Aside0.mk (vb HO_5.out hb); have HO761 := Aside0.mk (Kd.V_lower (Kd.V_mono (ok' := fun k_ => some k_ ≠ (.slice Ao25 t756.length co25 : Value).ownBlock ∧ k_ ≠ gb743) ho0 (fun k_ hk_ => ⟨Or.elim hk_ (fun hs_ => hs_.2) (fun hn_ => (Kd.fresh' (Kd.R_lt (vs HO758.out)) k_ hn_)), Or.elim hk_ (fun hs_ => hs_.1) (fun hn_ => (Kd.freshB (g := gb743) (o := .cells #[.bool t744, .string t745, .string t746] 24 (0, 0)) (bq BK743.out) k_ hn_))⟩)) (sz HB.out)); have HO764 := Aside0.mk (Kd.V_lower (Kd.V_mono (ok' := fun k_ => some k_ ≠ (.slice Ao25 t756.length co25 : Value).ownBlock ∧ k_ ≠ gb743) ho1 (fun k_ hk_ => ⟨Or.elim hk_ (fun hs_ => hs_.2) (fun hn_ => (Kd.fresh' (Kd.R_lt (vs HO758.out)) k_ hn_)), Or.elim hk_ (fun hs_ => hs_.1) (fun hn_ => (Kd.freshB (g := gb743) (o := .cells #[.bool t744, .string t745, .string t746] 24 (0, 0)) (bq BK743.out) k_ hn_))⟩)) (sz HB.out)); replace HO758 := Aside0.mk (rb HO758.out hb); replace BK743 := Aside0.mk (bk0 BK743.out hb); replace HB := Aside0.mk (bs HB.out hb); (try clear hb ho0 ho1); obtain ⟨Ao27, co27, rfl⟩ := Kd.V_slice HO761.out) | (go_at_call 82; (with_reducible refine (insolvencyref1_written.calls k1 (fun k_ => (some k_ ≠ (.slice Ao25 t756.length co25 : Value).ownBlock ∧ k_ ≠ gb743)) _ _ t759 t765 _ ?side1 A21.out).mono ?_); (case side1 => exact HO761.out); rintro e w28 ⟨rfl, hb⟩; replace HO_5 := Aside0.mk (vb HO_5.out hb); replace HO758 := Aside0.mk (rb HO758.out hb); replace HO761 := Aside0.mk (vb HO761.out hb); replace HO764 := Aside0.mk (vb HO764.out hb); replace BK743 := Aside0.mk (bk0 BK743.out hb); replace HB := Aside0.mk (bs HB.out hb); (try clear hb)))
    repeat (go_quiet (first | (go_at_call 81; (with_reducible refine (insolvencyref1_den.calls k1 t744 t745 t746 t756 _ A19.out).mono ?_); rintro e w23 ⟨v757, rfl, ho0, hb⟩; replace HO_5 := Aside0.mk (Kd.V_elder' (vs HO_5.out) (Kd.R_base ho0) hb); have HO758 := Aside0.mk (Kd.R_lower ho0 (sz HB.out)); replace BK743 := Aside0.mk (bk0 BK743.out hb); replace HB := Aside0.mk (bs HB.out hb); (try clear hb ho0); obtain ⟨Ao24, co24, rfl⟩ := Kd.V_slice HO_5.out; obtain ⟨Ao25, co25, eo25⟩ := Kd.R_slice HO758.out; subst eo25) | (go_at_call 80; (with_reducible refine (insolvencyref1_divide.calls k1 (fun k_ => (k_ ≠ gb743 ∧ some k_ ≠ (.slice Ao25 t756.length co25 : Value).ownBlock)) _ _ x5_1 _ _ t756 t759 t762 _ ?side1 ?side2 ?side3 A20.out).mono ?_); (case side1 => exact HO_5.out); (case side2 => exact vs (Kd.R_reads' HO758.out).2.2); (case side3 => exact (Kd.R_reads' HO758.out).2.1); rintro e w26 ⟨v760, v763, rfl, ho0, ho1, hb⟩; replace HO_5 := Aside0.mk (vb HO_5.out hb); have HO761 := Aside0.mk (Kd.V_lower (Kd.V_mono (ok' := fun k_ => some k_ ≠ (.slice Ao25 t756.length co25 : Value).ownBlock ∧ k_ ≠ gb743) ho0 (fun k_ hk_ => ⟨Or.elim hk_ (fun hs_ => hs_.2) (fun hn_ => (Kd.fresh' (Kd.R_lt (vs HO758.out)) k_ hn_)), Or.elim hk_ (fun hs_ => hs_.1) (fun hn_ => (Kd.freshB (g := gb743) (o := .cells #[.bool t744, .string t745, .string t746] 24 (0, 0)) (bq BK743.out) k_ hn_))⟩)) (sz HB.out)); have HO764 := Aside0.mk (Kd.V_lower (Kd.V_mono (ok' := fun k_ => some k_ ≠ (.slice Ao25 t756.length co25 : Value).ownBlock ∧ k_ ≠ gb743) ho1 (fun k_ hk_ => ⟨Or.elim hk_ (fun hs_ => hs_.2) (fun hn_ => (Kd.fresh' (Kd.R_lt (vs HO758.out)) k_ hn_)), Or.elim hk_ (fun hs_ => hs_.1) (fun hn_ => (Kd.freshB (g := gb743) (o := .cells #[.bool t744, .string t745, .string t746] 24 (0, 0)) (bq BK743.out) k_ hn_))⟩)) (sz HB.out)); replace HO758 := Aside0.mk (rb HO758.out hb); replace BK743 := Aside0.mk (bk0 BK743.out hb); replace HB := Aside0.mk (bs HB.out hb); (try clear hb ho0 ho1); obtain ⟨Ao27, co27, rfl⟩ := Kd.V_slice HO761.out) | (go_at_call 82; (with_reducible refine (insolvencyref1_written.calls k1 (fun k_ => (some k_ ≠ (.slice Ao25 t756.length co25 : Value).ownBlock ∧ k_ ≠ gb743)) _ _ t759 t765 _ ?side1 A21.out).mono ?_); (case side1 => exact HO761.out); rintro e w28 ⟨rfl, hb⟩; replace HO_5 := Aside0.mk (vb HO_5.out hb); replace HO758 := Aside0.mk (rb HO758.out hb); replace HO761 := Aside0.mk (vb HO761.out hb); replace HO764 := Aside0.mk (vb HO764.out hb); replace BK743 := Aside0.mk (bk0 BK743.out hb); replace HB := Aside0.mk (bs HB.out hb); (try clear hb))); try go_wp2_with (first | (go_at_call 81; (with_reducible refine (insolvencyref1_den.calls k1 t744 t745 t746 t756 _ A19.out).mono ?_); rintro e w23 ⟨v757, rfl, ho0, hb⟩; replace HO_5 := Aside0.mk (Kd.V_elder' (vs HO_5.out) (Kd.R_base ho0) hb); have HO758 := Aside0.mk (Kd.R_lower ho0 (sz HB.out)); replace BK743 := Aside0.mk (bk0 BK743.out hb); replace HB := Aside0.mk (bs HB.out hb); (try clear hb ho0); obtain ⟨Ao24, co24, rfl⟩ := Kd.V_slice HO_5.out; obtain ⟨Ao25, co25, eo25⟩ := Kd.R_slice HO758.out; subst eo25) | (go_at_call 80; (with_reducible refine (insolvencyref1_divide.calls k1 (fun k_ => (k_ ≠ gb743 ∧ some k_ ≠ (.slice Ao25 t756.length co25 : Value).ownBlock)) _ _ x5_1 _ _ t756 t759 t762 _ ?side1 ?side2 ?side3 A20.out).mono ?_); (case side1 => exact HO_5.out); (case side2 => exact vs (Kd.R_reads' HO758.out).2.2); (case side3 => exact (Kd.R_reads' HO758.out).2.1); rintro e w26 ⟨v760, v763, rfl, ho0, ho1, hb⟩; replace HO_5 := Aside0.mk (vb HO_5.out hb); have HO761 := Aside0.mk (Kd.V_lower (Kd.V_mono (ok' := fun k_ => some k_ ≠ (.slice Ao25 t756.length co25 : Value).ownBlock ∧ k_ ≠ gb743) ho0 (fun k_ hk_ => ⟨Or.elim hk_ (fun hs_ => hs_.2) (fun hn_ => (Kd.fresh' (Kd.R_lt (vs HO758.out)) k_ hn_)), Or.elim hk_ (fun hs_ => hs_.1) (fun hn_ => (Kd.freshB (g := gb743) (o := .cells #[.bool t744, .string t745, .string t746] 24 (0, 0)) (bq BK743.out) k_ hn_))⟩)) (sz HB.out)); have HO764 := Aside0.mk (Kd.V_lower (Kd.V_mono (ok' := fun k_ => some k_ ≠ (.slice Ao25 t756.length co25 : Value).ownBlock ∧ k_ ≠ gb743) ho1 (fun k_ hk_ => ⟨Or.elim hk_ (fun hs_ => hs_.2) (fun hn_ => (Kd.fresh' (Kd.R_lt (vs HO758.out)) k_ hn_)), Or.elim hk_ (fun hs_ => hs_.1) (fun hn_ => (Kd.freshB (g := gb743) (o := .cells #[.bool t744, .string t745, .string t746] 24 (0, 0)) (bq BK743.out) k_ hn_))⟩)) (sz HB.out)); replace HO758 := Aside0.mk (rb HO758.out hb); replace BK743 := Aside0.mk (bk0 BK743.out hb); replace HB := Aside0.mk (bs HB.out hb); (try clear hb ho0 ho1); obtain ⟨Ao27, co27, rfl⟩ := Kd.V_slice HO761.out) | (go_at_call 82; (with_reducible refine (insolvencyref1_written.calls k1 (fun k_ => (some k_ ≠ (.slice Ao25 t756.length co25 : Value).ownBlock ∧ k_ ≠ gb743)) _ _ t759 t765 _ ?side1 A21.out).mono ?_); (case side1 => exact HO761.out); rintro e w28 ⟨rfl, hb⟩; replace HO_5 := Aside0.mk (vb HO_5.out hb); replace HO758 := Aside0.mk (rb HO758.out hb); replace HO761 := Aside0.mk (vb HO761.out hb); replace HO764 := Aside0.mk (vb HO764.out hb); replace BK743 := Aside0.mk (bk0 BK743.out hb); replace HB := Aside0.mk (bs HB.out hb); (try clear hb))))
    go_loopg [9] k1 (fun kq v9 w' => ∃ (x9_2 : ByteArray), v9 = .string x9_2 ∧ Aside0 (insolvencyref1_Decimal.l1 kq ji5 t759 x9_2 t744 t745 t746 = some r) ∧ Aside0 (kq ≤ k1) ∧ Aside0 (Kd.V (Kd.int .u32) 52 w' w.heap.size (fun k_ => k_ ≠ gb743) (.slice Ao27 t759.length co27) t759) ∧ Aside0 (w'.heap[gb743]? = some (.cells #[.bool t744, .string t745, .string t746] 24 (0, 0))) ∧ Aside0 (Below w.heap.size w w'))
    case atStart => exact ⟨(t765), fs, H', ⟨Nat.le_refl _⟩, ⟨vm HO761.out (fun _ hk => hk.2)⟩, ⟨bq BK743.out⟩, ⟨bz HB.out⟩⟩
    case round =>
     clear H'
     (try clear c12b0); (try clear hcz10_0); (try clear hcz10_1); (try clear hcz10_2); (try clear hcz22_0); (try clear hcz22_1); (try clear hcz22_2); (try clear hcz8_0); (try clear hcz8_1); (try clear hcz8_2); (try clear hfz10_0); (try clear hfz10_1); (try clear hfz10_2); (try clear hfz22_0); (try clear hfz22_1); (try clear hfz22_2); (try clear hfz8_0); (try clear hfz8_1); (try clear hfz8_2)
     obtain ⟨x9_2, rfl, HA, HK2, HO_7, BK743, HB⟩ := hrel
     cases gk with
     | zero => exact absurd HA.out (by simp [insolvencyref1_Decimal.l1])
     | succ k2 =>
      have H := HA.out
      clear HA
      simp only [insolvencyref1_Decimal.l1] at H
      by_cases c29 : (x9_2.size : Int) ≤ ji5
      ·rw [if_pos c29] at H
       have c29b0 : decide ((x9_2.size : Int) ≤ ji5) = true := decide_eq_true c29
       clear c29
       obtain ⟨c30, H⟩ := iN H
       have c30b0 := eq_true c30
       have c30b1 : decide (1 + x9_2.size ≤ 9223372036854775807) = true := decide_eq_true c30
       try have c30b2 : (9223372036854775807 < 1 + x9_2.size) = False := eq_false (Nat.not_lt.2 c30)
       have H' := Aside0.mk H
       clear H
       go_wp2
       repeat (go_quiet (fail); try go_wp2)
       go_roundg k2
       case measure => have := HK1.out; have := HK2.out; omega
       case rel => exact ⟨((⟨#[48]⟩ : ByteArray) ++ x9_2), fs, H', ⟨by have := HK1.out; have := HK2.out; omega⟩, ⟨vs HO_7.out⟩, ⟨bq BK743.out⟩, ⟨bz HB.out⟩⟩
      ·rw [if_neg c29] at H
       have c29b0 : decide ((x9_2.size : Int) ≤ ji5) = false := decide_eq_false c29
       clear c29
       by_cases c31 : ji5 > 0
       ·rw [if_pos c31] at H
        have c31b0 : decide (0 < ji5) = true := decide_eq_true c31
        clear c31
        obtain ⟨ji32, hji32⟩ : ∃ j_ : Int, (wrap64 ((x9_2.size : Int) - ji5)) = j_ := ⟨_, rfl⟩
        first | rw [hji32] at H | simp only [hji32] at H
        have hji32w : (IntKind.i64.wrap ((x9_2.size : Int) - ji5)) = ji32 := (i64_w _).trans hji32
        obtain ⟨c33, H⟩ := iN H
        have c33b0 := eq_true c33
        have c33b1 : decide (0 ≤ (ji32)) = true := decide_eq_true c33
        clear c33
        obtain ⟨c34, H⟩ := iN H
        have c34b0 := eq_true c34
        have c34b1 : decide ((ji32) ≤ (x9_2.size : Int)) = true := decide_eq_true c34
        clear c34
        obtain ⟨c35, H⟩ := iN H
        have c35b0 := eq_true c35
        have c35b1 : decide ((x9_2.extract 0 ((ji32) : Int).toNat).size + 1 ≤ 9223372036854775807) = true := decide_eq_true c35
        try have c35b2 : (9223372036854775807 < (x9_2.extract 0 ((ji32) : Int).toNat).size + 1) = False := eq_false (Nat.not_lt.2 c35)
        have c36b0 := eq_true (oa : 0 ≤ (ji32))
        have c37b0 := eq_true (oa : (ji32) ≤ (x9_2.size : Int))
        have hE1_ : (x9_2.extract 0 ((ji32) : Int).toNat).size = ji32.toNat := by (have h33 := of_eq_true c37b0; rw [ByteArray.size_extract]; omega)
        have hE2_ : (x9_2.extract ((ji32) : Int).toNat x9_2.size).size = x9_2.size - ji32.toNat := by (rw [ByteArray.size_extract]; omega)
        have d1_ := c35b2
        rw [hE1_] at d1_
        obtain ⟨c38, H⟩ := iN H
        have c38b0 := eq_true c38
        have c38b1 : decide (((x9_2.extract 0 ((ji32) : Int).toNat) ++ (⟨#[46]⟩ : ByteArray)).size + (x9_2.extract ((ji32) : Int).toNat x9_2.size).size ≤ 9223372036854775807) = true := decide_eq_true c38
        try have c38b2 : (9223372036854775807 < ((x9_2.extract 0 ((ji32) : Int).toNat) ++ (⟨#[46]⟩ : ByteArray)).size + (x9_2.extract ((ji32) : Int).toNat x9_2.size).size) = False := eq_false (Nat.not_lt.2 c38)
        have c38b2d := c38b2
        simp only [ByteArray.size_append, hE1_, hE2_, show (⟨#[46]⟩ : ByteArray).size = 1 from rfl] at c38b2d
        by_cases c39 : t744 = true
        ·subst c39
         have H1 : (if (t759.length : Int) > 0 then (if 1 + (((x9_2.extract 0 ((ji32) : Int).toNat) ++ (⟨#[46]⟩ : ByteArray)) ++ (x9_2.extract ((ji32) : Int).toNat x9_2.size)).size ≤ 9223372036854775807 then (some ((⟨#[45]⟩ : ByteArray) ++ (((x9_2.extract 0 ((ji32) : Int).toNat) ++ (⟨#[46]⟩ : ByteArray)) ++ (x9_2.extract ((ji32) : Int).toNat x9_2.size)))) else (none)) else (some (((x9_2.extract 0 ((ji32) : Int).toNat) ++ (⟨#[46]⟩ : ByteArray)) ++ (x9_2.extract ((ji32) : Int).toNat x9_2.size)))) = some r := by rw [if_pos rfl] at H; exact H
         clear H
         have H := H1
         clear H1
         by_cases c40 : (t759.length : Int) > 0
         ·rw [if_pos c40] at H
          have c40b0 : decide (0 < (t759.length : Int)) = true := decide_eq_true c40
          have c40b1 : decide (0 < t759.length) = true := decide_eq_true (by omega)
          clear c40
          obtain ⟨c41, H⟩ := iN H
          have c41b0 := eq_true c41
          have c41b1 : decide (1 + (((x9_2.extract 0 ((ji32) : Int).toNat) ++ (⟨#[46]⟩ : ByteArray)) ++ (x9_2.extract ((ji32) : Int).toNat x9_2.size)).size ≤ 9223372036854775807) = true := decide_eq_true c41
          try have c41b2 : (9223372036854775807 < 1 + (((x9_2.extract 0 ((ji32) : Int).toNat) ++ (⟨#[46]⟩ : ByteArray)) ++ (x9_2.extract ((ji32) : Int).toNat x9_2.size)).size) = False := eq_false (Nat.not_lt.2 c41)
          have c41b2d := c41b2
          simp only [ByteArray.size_append, hE1_, hE2_, show (⟨#[46]⟩ : ByteArray).size = 1 from rfl] at c41b2d
          obtain rfl := Option.some.inj H
          obtain ⟨hcz42_0, hcz42_1, hcz42_2, hfz42_0, hfz42_1, hfz42_2⟩ := cz BK743.out
          go_wp2
          repeat (go_quiet (fail); try go_wp2)
          go_ret
          exact ⟨by first | rfl | (simp [errW_none, errW_some] <;> rfl) | (simp only [← hji4, ← hji5, ← hji32]; first | rfl | (simp [errW_none, errW_some] <;> rfl)) | (simp [*, errW_none, errW_some] <;> rfl), bz HB.out⟩
         ·rw [if_neg c40] at H
          have c40b0 : decide (0 < (t759.length : Int)) = false := decide_eq_false c40
          have c40b1 : decide (0 < t759.length) = false := decide_eq_false (by omega)
          clear c40
          obtain rfl := Option.some.inj H
          obtain ⟨hcz43_0, hcz43_1, hcz43_2, hfz43_0, hfz43_1, hfz43_2⟩ := cz BK743.out
          go_wp2
          repeat (go_quiet (fail); try go_wp2)
          go_ret
          exact ⟨by first | rfl | (simp [errW_none, errW_some] <;> rfl) | (simp only [← hji4, ← hji5, ← hji32]; first | rfl | (simp [errW_none, errW_some] <;> rfl)) | (simp [*, errW_none, errW_some] <;> rfl), bz HB.out⟩
        ·replace c39 := Bool.eq_false_iff.mpr c39
         subst c39
         have H1 : (some (((x9_2.extract 0 ((ji32) : Int).toNat) ++ (⟨#[46]⟩ : ByteArray)) ++ (x9_2.extract ((ji32) : Int).toNat x9_2.size))) = some r := by rw [if_neg (show ¬ (false = true) by decide)] at H; exact H
         clear H
         have H := H1
         clear H1
         obtain rfl := Option.some.inj H
         obtain ⟨hcz44_0, hcz44_1, hcz44_2, hfz44_0, hfz44_1, hfz44_2⟩ := cz BK743.out
         go_wp2
         repeat (go_quiet (fail); try go_wp2)
         go_ret
         exact ⟨by first | rfl | (simp [errW_none, errW_some] <;> rfl) | (simp only [← hji4, ← hji5, ← hji32]; first | rfl | (simp [errW_none, errW_some] <;> rfl)) | (simp [*, errW_none, errW_some] <;> rfl), bz HB.out⟩
       ·rw [if_neg c31] at H
        have c31b0 : decide (0 < ji5) = false := decide_eq_false c31
        clear c31
        by_cases c45 : t744 = true
        ·subst c45
         have H1 : (if (t759.length : Int) > 0 then (if 1 + x9_2.size ≤ 9223372036854775807 then (some ((⟨#[45]⟩ : ByteArray) ++ x9_2)) else (none)) else (some x9_2)) = some r := by rw [if_pos rfl] at H; exact H
         clear H
         have H := H1
         clear H1
         by_cases c46 : (t759.length : Int) > 0
         ·rw [if_pos c46] at H
          have c46b0 : decide (0 < (t759.length : Int)) = true := decide_eq_true c46
          have c46b1 : decide (0 < t759.length) = true := decide_eq_true (by omega)
          clear c46
          obtain ⟨c47, H⟩ := iN H
          have c47b0 := eq_true c47
          have c47b1 : decide (1 + x9_2.size ≤ 9223372036854775807) = true := decide_eq_true c47
          try have c47b2 : (9223372036854775807 < 1 + x9_2.size) = False := eq_false (Nat.not_lt.2 c47)
          obtain rfl := Option.some.inj H
          obtain ⟨hcz48_0, hcz48_1, hcz48_2, hfz48_0, hfz48_1, hfz48_2⟩ := cz BK743.out
          go_wp2
          repeat (go_quiet (fail); try go_wp2)
          go_ret
          exact ⟨by first | rfl | (simp [errW_none, errW_some] <;> rfl) | (simp only [← hji4, ← hji5]; first | rfl | (simp [errW_none, errW_some] <;> rfl)) | (simp [*, errW_none, errW_some] <;> rfl), bz HB.out⟩
         ·rw [if_neg c46] at H
          have c46b0 : decide (0 < (t759.length : Int)) = false := decide_eq_false c46
          have c46b1 : decide (0 < t759.length) = false := decide_eq_false (by omega)
          clear c46
          obtain rfl := Option.some.inj H
          obtain ⟨hcz49_0, hcz49_1, hcz49_2, hfz49_0, hfz49_1, hfz49_2⟩ := cz BK743.out
          go_wp2
          repeat (go_quiet (fail); try go_wp2)
          go_ret
          exact ⟨by first | rfl | (simp [errW_none, errW_some] <;> rfl) | (simp only [← hji4, ← hji5]; first | rfl | (simp [errW_none, errW_some] <;> rfl)) | (simp [*, errW_none, errW_some] <;> rfl), bz HB.out⟩
        ·replace c45 := Bool.eq_false_iff.mpr c45
         subst c45
         have H1 : (some x9_2) = some r := by rw [if_neg (show ¬ (false = true) by decide)] at H; exact H
         clear H
         have H := H1
         clear H1
         obtain rfl := Option.some.inj H
         obtain ⟨hcz50_0, hcz50_1, hcz50_2, hfz50_0, hfz50_1, hfz50_2⟩ := cz BK743.out
         go_wp2
         repeat (go_quiet (fail); try go_wp2)
         go_ret
         exact ⟨by first | rfl | (simp [errW_none, errW_some] <;> rfl) | (simp only [← hji4, ← hji5]; first | rfl | (simp [errW_none, errW_some] <;> rfl)) | (simp [*, errW_none, errW_some] <;> rfl), bz HB.out⟩

/-! ### insolvencylaw2_RationalDecimal: function 5 -/
def insolvencylaw2_RationalDecimal.f (k : Nat) (a0_0 : Bool) (a0_1 : ByteArray) (a0_2 : ByteArray) (a1 : Int) : Option (Bool) := (insolvencylaw2_few.f k (([(⟨a0_0, a0_1, a0_2⟩ : S24)] : List (S24)))).bind fun t770 => (if t770 = true then ((insolvencylaw2_awake.f k).bind fun t771 => (if t771 = true then ((rational_Decimal.f k a0_0 a0_1 a0_2 a1).bind fun t772 => ((insolvencyref1_Decimal.f k a0_0 a0_1 a0_2 a1).bind fun t773 => (some (t772.toList == t773.toList)))) else (some false))) else ((insolvencylaw2_awake.f k).bind fun t774 => (some t774)))
def insolvencylaw2_RationalDecimal.T3 : Bool × List (List Nat × List Nat) := (true, [([], []), ([0, 0], [0]), ([1], [1]), ([1], [1]), ([2, 3, 1, 1], [1, 2, 3]), ([1], [1]), ([1], [1]), ([5, 6, 4, 1], [1, 5, 6]), ([4, 7, 1], [1, 4, 7]), ([1, 8], [1, 8]), ([9, 7, 0, 1, 2, 3, 4, 5, 6, 7, 8, 9], [9])])
def insolvencylaw2_RationalDecimal.B3 : List Nat := [0, 1, 3, 3, 15, 3, 3, 127, 255, 511, 1023]
theorem insolvencylaw2_RationalDecimal.tab3 : rtab .any (opsOf Tryz.f5 3) = insolvencylaw2_RationalDecimal.T3 := by kernel_rfl
theorem insolvencylaw2_RationalDecimal.bits3 : waitsOk insolvencylaw2_RationalDecimal.T3.2 insolvencylaw2_RationalDecimal.B3 = true := by kernel_rfl
set_option maxHeartbeats 8000000 in
set_option maxRecDepth 100000 in
theorem insolvencylaw2_RationalDecimal.calls (k : Nat) (a0_0 : Bool) (a0_1 : ByteArray) (a0_2 : ByteArray) (a1 : Int) (r : Bool) (w : World) (h : insolvencylaw2_RationalDecimal.f k a0_0 a0_1 a0_2 a1 = some r) (hr : r = true := by first | rfl | assumption) :
  Calls Tryz.prog 5 #[.agg #[.bool a0_0, .string a0_1, .string a0_2], .int .i64 a1] w fun e w' => e = .returned (.bool r) ∧ Below w.heap.size w w' := by
 have hu24 := Tryz.underlying24
 have HB := Aside0.mk (Below.refl w.heap.size w)
 have H := h
 clear h
 unfold insolvencylaw2_RationalDecimal.f at H
 obtain ⟨y767, hy767⟩ : ∃ y_ : List (S24), y_ = (([(⟨a0_0, a0_1, a0_2⟩ : S24)] : List (S24))) := ⟨_, rfl⟩
 (try first | rw [← hy767] at H | (dsimp only at H; rw [← hy767] at H)); (try rw [Option.bind_some] at H)
 have Ny767 := Aside0.mk hy767
 clear hy767
 obtain ⟨t770, A3, H⟩ := bs1 H
 by_cases c4 : t770 = true
 ·subst c4
  have H1 : ((insolvencylaw2_awake.f k).bind fun t771 => (if t771 = true then ((rational_Decimal.f k a0_0 a0_1 a0_2 a1).bind fun t772 => ((insolvencyref1_Decimal.f k a0_0 a0_1 a0_2 a1).bind fun t773 => (some (t772.toList == t773.toList)))) else (some false))) = some r := by rw [if_pos rfl] at H; exact H
  clear H
  have H := H1
  clear H1
  obtain ⟨t771, A5, H⟩ := bs1 H
  by_cases c6 : t771 = true
  ·subst c6
   have H1 : ((rational_Decimal.f k a0_0 a0_1 a0_2 a1).bind fun t772 => ((insolvencyref1_Decimal.f k a0_0 a0_1 a0_2 a1).bind fun t773 => (some (t772.toList == t773.toList)))) = some r := by rw [if_pos rfl] at H; exact H
   clear H
   have H := H1
   clear H1
   obtain ⟨t772, A7, H⟩ := bs1 H
   obtain ⟨t773, A8, H⟩ := bs1 H
   obtain rfl := Option.some.inj H
   go_enter Tryz.func5, Tryz.ntmps5
   try go_wp2_with (first | ((with_reducible refine gd 2 rfl ?_); refine bx 2 (#[.bool a0_0, .string a0_1, .string a0_2]) 24 ?_; intro gb766 hg w9 hbox hb; have BK766 := Aside0.mk (hbox); have GW766 := sg hg HB.out; have GE766 := sg hg HB.out; replace HB := Aside0.mk (bs HB.out hb); clear hb hbox hg; obtain ⟨hcz10_0, hcz10_1, hcz10_2, hfz10_0, hfz10_1, hfz10_2⟩ := cz BK766.out) | ((with_reducible refine gd 6 rfl ?_); refine Kd.R_lit k24 _ 24 ?hg (N := 6) ?hd (xs := ([(⟨a0_0, a0_1, a0_2⟩ : S24)] : List (S24))) (inner := [.bool a0_0, .string a0_1, .string a0_2]) (ok := fun _ => True) (okp := fun _ => True) ?hr ?hp (fun _ hk => hk) trivial (Below.refl _ _) (Nat.le_refl _) (by simp) ?_; (case hd => rfl); (case hg => rfl); (case hr => first | (go_simp; done) | (go_simp; rfl)); (case hp => exact (Reps.c3 (show Kd.M k24 _ _ _ (⟨a0_0, a0_1, a0_2⟩ : S24) [.bool a0_0, .string a0_1, .string a0_2] from (k24_mkM _ _ _ (⟨a0_0, a0_1, a0_2⟩ : S24) )) (Reps.none _ _))); intro v768 w11 ho12 hb hg_ hnew_; clear hg_ hnew_; (first | rw [← Ny767.out] at ho12 | (simp only [Int.reduceToNat] at ho12; rw [← Ny767.out] at ho12)); have HO769 := Aside0.mk (Kd.R_lower (Kd.R_newB ho12 (g := gb766) (o := .cells #[.bool a0_0, .string a0_1, .string a0_2] 24 (0, 0)) (bq BK766.out)) (sz HB.out)); replace BK766 := Aside0.mk (bk0 BK766.out hb); replace HB := Aside0.mk (bs HB.out hb); clear hb ho12; obtain ⟨Ao13, co13, eo13⟩ := Kd.R_slice HO769.out; subst eo13) | ((with_reducible refine gc 19 rfl ?_); refine gl (some 7) Tryz.func19 #[.slice Ao13 y767.length co13] ?_; (with_reducible refine (insolvencylaw2_few.calls k _ _ y767 true _ ?side1 ?side2 A3.out).mono ?_); (case side1 => exact vs (Kd.R_reads' HO769.out).2.2); (case side2 => exact (Kd.R_reads' HO769.out).2.1); rintro e w14 ⟨rfl, hb⟩; refine ⟨_, rfl, ?_⟩; replace HO769 := Aside0.mk (rb HO769.out hb); replace BK766 := Aside0.mk (bk0 BK766.out hb); replace HB := Aside0.mk (bs HB.out hb); (try clear hb)))
   replace HO769 := Aside0.mk (Kd.R_drew HO769.out)
   replace BK766 := Aside0.mk (blk_drew BK766.out)
   replace HB := Aside0.mk (below_drew1 HB.out)
   refine start_ (n := 11) (S := fun w' => w'.cell? ⟨gb766, 0, none⟩ = some (.bool a0_0) ∧ w'.cell? ⟨gb766, 1, none⟩ = some (.string a0_1) ∧ w'.cell? ⟨gb766, 2, none⟩ = some (.string a0_2)) (ds := []) #[false, false, false, false, false, false, false, false, false, false, false] (by kernel_rfl) rfl rfl ⟨(blk_cell BK766.out 0).trans rfl, (blk_cell BK766.out 1).trans rfl, (blk_cell BK766.out 2).trans rfl⟩ (fun hHeld => ?_); refine with_tabW insolvencylaw2_RationalDecimal.tab3 insolvencylaw2_RationalDecimal.bits3 (fun HT_ HW_ => ?_)
   generalize w14.drew = w15 at HO769 BK766 HB hHeld ⊢
   refine one_ (i := 0) (N := some 10) #[true, false, false, false, false, false, false, false, false, false, false] rfl rfl (one_of HT_.out (by kernel_rfl)) (by decide) (fun K hK => ?_)
   refine gs Tryz.func16 #[] ?_
   with_reducible refine (insolvencylaw2_awake.calls k  true _ A5.out).mono ?_
   rintro e w16 ⟨rfl, hb⟩
   refine ⟨_, rfl, ?_⟩
   replace HO769 := Aside0.mk (rb HO769.out hb)
   replace BK766 := Aside0.mk (bk0 BK766.out hb)
   replace HB := Aside0.mk (bs HB.out hb)
   (try clear hb); (try clear hb2); (try clear hk); (try clear hi)
   refine hK.out _ _ ⟨(blk_cell BK766.out 0).trans rfl, (blk_cell BK766.out 1).trans rfl, (blk_cell BK766.out 2).trans rfl⟩ (fun hHeld => ?_)
   clear hK K
   refine nm ?_
   refine py 1 (some 11) #[true, true, false, false, false, false, false, false, false, false, false] HT_ ?_
   refine py 3 (some 13) #[true, true, false, true, false, false, false, false, false, false, false] HT_ ?_
   refine py 6 (some 16) #[true, true, false, true, false, false, true, false, false, false, false] HT_ ?_
   refine take_ (i := 2) (N := some 12) (v := ?_) (a' := ?_) #[true, true, true, true, false, false, true, false, false, false, false] rfl rfl (take_ofW HT_.out HW_.out (by kernel_rfl)) (fun _ _ _ h => h) (Or.inl ⟨by rfl, ?_⟩) hHeld ?_ ?_
   rotate_left
   ·rintro w' ⟨s0, s1, s2⟩
    go_simp
    with_reducible rfl
   rotate_left
   ·simp only [Act.put, List.setIfInBounds_toArray, List.set_cons_zero, List.set_cons_succ, i64_w, i32_w]
    rfl
   refine take_ (i := 5) (N := some 15) (v := ?_) (a' := ?_) #[true, true, true, true, false, true, true, false, false, false, false] rfl rfl (take_ofW HT_.out HW_.out (by kernel_rfl)) (fun _ _ _ h => h) (Or.inl ⟨by rfl, ?_⟩) hHeld ?_ ?_
   rotate_left
   ·rintro w' ⟨s0, s1, s2⟩
    go_simp
    with_reducible rfl
   rotate_left
   ·simp only [Act.put, List.setIfInBounds_toArray, List.set_cons_zero, List.set_cons_succ, i64_w, i32_w]
    rfl
   refine one_ (i := 4) (N := some 14) #[true, true, true, true, true, true, true, false, false, false, false] rfl rfl (one_of HT_.out (by kernel_rfl)) (by decide) (fun K hK => ?_)
   refine gs Tryz.func23 #[.agg #[.bool a0_0, .string a0_1, .string a0_2], .int .i64 a1] ?_
   with_reducible refine (rational_Decimal.calls k a0_0 a0_1 a0_2 a1 t772 _ A7.out).mono ?_
   rintro e w17 ⟨rfl, hb⟩
   refine ⟨_, rfl, ?_⟩
   replace HO769 := Aside0.mk (rb HO769.out hb)
   replace BK766 := Aside0.mk (bk0 BK766.out hb)
   replace HB := Aside0.mk (bs HB.out hb)
   (try clear hb); (try clear hb2); (try clear hk); (try clear hi)
   refine hK.out _ _ ⟨(blk_cell BK766.out 0).trans rfl, (blk_cell BK766.out 1).trans rfl, (blk_cell BK766.out 2).trans rfl⟩ (fun hHeld => ?_)
   clear hK K
   refine nm ?_
   refine one_ (i := 7) (N := some 17) #[true, true, true, true, true, true, true, true, false, false, false] rfl rfl (one_of HT_.out (by kernel_rfl)) (by decide) (fun K hK => ?_)
   refine gs Tryz.func24 #[.agg #[.bool a0_0, .string a0_1, .string a0_2], .int .i64 a1] ?_
   with_reducible refine (insolvencyref1_Decimal.calls k a0_0 a0_1 a0_2 a1 t773 _ A8.out).mono ?_
   rintro e w18 ⟨rfl, hb⟩
   refine ⟨_, rfl, ?_⟩
   replace HO769 := Aside0.mk (rb HO769.out hb)
   replace BK766 := Aside0.mk (bk0 BK766.out hb)
   replace HB := Aside0.mk (bs HB.out hb)
   (try clear hb); (try clear hb2); (try clear hk); (try clear hi)
   refine hK.out _ _ ⟨(blk_cell BK766.out 0).trans rfl, (blk_cell BK766.out 1).trans rfl, (blk_cell BK766.out 2).trans rfl⟩ (fun hHeld => ?_)
   clear hK K
   refine nm ?_
   refine py 8 (some 18) #[true, true, true, true, true, true, true, true, true, false, false] HT_ ?_
   refine py 9 (some 19) #[true, true, true, true, true, true, true, true, true, true, false] HT_ ?_
   refine py 10 (some 4) #[true, true, true, true, true, true, true, true, true, true, true] HT_ ?_
   refine done_ (done_of HT_.out (by kernel_rfl)) ?_
   try go_wp2
   go_ret
   exact ⟨fe, bz HB.out⟩
  ·replace c6 := Bool.eq_false_iff.mpr c6
   subst c6
   have H1 : (some false) = some r := by rw [if_neg (show ¬ (false = true) by decide)] at H; exact H
   clear H
   have H := H1
   clear H1
   exact nf hr H
 ·replace c4 := Bool.eq_false_iff.mpr c4
  subst c4
  have H1 : ((insolvencylaw2_awake.f k).bind fun t774 => (some t774)) = some r := by rw [if_neg (show ¬ (false = true) by decide)] at H; exact H
  clear H
  have H := H1
  clear H1
  obtain ⟨t774, A27, H⟩ := bs1 H
  obtain rfl := Option.some.inj H
  go_enter Tryz.func5, Tryz.ntmps5
  go_wp2_with (first | ((with_reducible refine gd 2 rfl ?_); refine bx 2 (#[.bool a0_0, .string a0_1, .string a0_2]) 24 ?_; intro gb766 hg w28 hbox hb; have BK766 := Aside0.mk (hbox); have GW766 := sg hg HB.out; have GE766 := sg hg HB.out; replace HB := Aside0.mk (bs HB.out hb); clear hb hbox hg; obtain ⟨hcz29_0, hcz29_1, hcz29_2, hfz29_0, hfz29_1, hfz29_2⟩ := cz BK766.out) | ((with_reducible refine gd 6 rfl ?_); refine Kd.R_lit k24 _ 24 ?hg (N := 6) ?hd (xs := ([(⟨a0_0, a0_1, a0_2⟩ : S24)] : List (S24))) (inner := [.bool a0_0, .string a0_1, .string a0_2]) (ok := fun _ => True) (okp := fun _ => True) ?hr ?hp (fun _ hk => hk) trivial (Below.refl _ _) (Nat.le_refl _) (by simp) ?_; (case hd => rfl); (case hg => rfl); (case hr => first | (go_simp; done) | (go_simp; rfl)); (case hp => exact (Reps.c3 (show Kd.M k24 _ _ _ (⟨a0_0, a0_1, a0_2⟩ : S24) [.bool a0_0, .string a0_1, .string a0_2] from (k24_mkM _ _ _ (⟨a0_0, a0_1, a0_2⟩ : S24) )) (Reps.none _ _))); intro v768 w30 ho31 hb hg_ hnew_; clear hg_ hnew_; (first | rw [← Ny767.out] at ho31 | (simp only [Int.reduceToNat] at ho31; rw [← Ny767.out] at ho31)); have HO769 := Aside0.mk (Kd.R_lower (Kd.R_newB ho31 (g := gb766) (o := .cells #[.bool a0_0, .string a0_1, .string a0_2] 24 (0, 0)) (bq BK766.out)) (sz HB.out)); replace BK766 := Aside0.mk (bk0 BK766.out hb); replace HB := Aside0.mk (bs HB.out hb); clear hb ho31; obtain ⟨Ao32, co32, eo32⟩ := Kd.R_slice HO769.out; subst eo32) | ((with_reducible refine gc 19 rfl ?_); refine gl (some 7) Tryz.func19 #[.slice Ao32 y767.length co32] ?_; (with_reducible refine (insolvencylaw2_few.calls k _ _ y767 false _ ?side1 ?side2 A3.out).mono ?_); (case side1 => exact vs (Kd.R_reads' HO769.out).2.2); (case side2 => exact (Kd.R_reads' HO769.out).2.1); rintro e w33 ⟨rfl, hb⟩; refine ⟨_, rfl, ?_⟩; replace HO769 := Aside0.mk (rb HO769.out hb); replace BK766 := Aside0.mk (bk0 BK766.out hb); replace HB := Aside0.mk (bs HB.out hb); (try clear hb)) | ((with_reducible refine gc 16 rfl ?_); refine gl (some 9) Tryz.func16 #[] ?_; (with_reducible refine (insolvencylaw2_awake.calls k  t774 _ A27.out).mono ?_); rintro e w34 ⟨rfl, hb⟩; refine ⟨_, rfl, ?_⟩; replace HO769 := Aside0.mk (rb HO769.out hb); replace BK766 := Aside0.mk (bk0 BK766.out hb); replace HB := Aside0.mk (bs HB.out hb); (try clear hb)))
  go_ret
  exact ⟨fe, bz HB.out⟩
end Go.Proofs.YtgepdnoaemeofaaGreatDoor.A
