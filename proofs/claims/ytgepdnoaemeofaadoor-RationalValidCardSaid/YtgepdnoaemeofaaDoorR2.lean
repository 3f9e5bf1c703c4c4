/- Printed by a program of this session (wip/tools) out of the translation: plain functions and the proofs that the code comes to their answers. -/
import Derived.Test.YtgepdnoaemeofaaDoorK
import Derived.Test.YtgepdnoaemeofaaDoorR0
namespace Go.Proofs.YtgepdnoaemeofaaDoor.R
open Go.RowKit Go.Proofs.YtgepdnoaemeofaaDoorW.PrintWords Go.Proofs.YtgepdnoaemeofaaDoorW.PrintLast Go.Proofs.YtgepdnoaemeofaaDoorW.PrintMore Go.Proofs.YtgepdnoaemeofaaDoorW.PK
attribute [local go_sem] max2_int min2_int max_two min_two max_three min_three max_four min_four   -- for this text's walks alone
set_option linter.unusedVariables false
set_option linter.unusedSimpArgs false

/-! ### insolvencylaw0_Few: function 42 -/
def insolvencylaw0_Few.f (a0_0 : Bool) (a0_1 : ByteArray) (a0_2 : ByteArray) : Option (Bool) := if (a0_1.size : Int) ≤ 24 then (some (decide ((a0_2.size : Int) ≤ 24))) else (some false)
set_option maxHeartbeats 8000000 in
set_option maxRecDepth 100000 in
theorem insolvencylaw0_Few.calls (a0_0 : Bool) (a0_1 : ByteArray) (a0_2 : ByteArray) (r : Bool) (w : World) (h : insolvencylaw0_Few.f a0_0 a0_1 a0_2 = some r) :
  Calls Tryd.prog 42 #[.agg #[.bool a0_0, .string a0_1, .string a0_2]] w fun e w' => e = .returned (.bool r) ∧ Below w.heap.size w w' := by
 have hu23 := Tryd.underlying23
 have HB := Aside0.mk (Below.refl w.heap.size w)
 have H := h
 clear h
 unfold insolvencylaw0_Few.f at H
 by_cases c2 : (a0_1.size : Int) ≤ 24
 ·rw [if_pos c2] at H
  have c2b0 : decide ((a0_1.size : Int) ≤ 24) = true := decide_eq_true c2
  have c2b1 : decide (a0_1.size ≤ 24) = true := decide_eq_true (by omega)
  clear c2
  obtain rfl := Option.some.inj H
  go_enter Tryd.func42, Tryd.ntmps42
  go_wp2_with (first | ((with_reducible refine gd 1 rfl ?_); (try (refine gate_guard (by rfl) ?_; dsimp only)); refine bx 1 (#[.bool a0_0, .string a0_1, .string a0_2]) 23 ?_; intro gb101 hg w3 hbox hb; have BK101 := Aside0.mk (hbox); have GW101 := sg hg HB.out; have GE101 := sg hg HB.out; replace HB := Aside0.mk (bs HB.out hb); clear hb hbox hg; obtain ⟨hcz4_0, hcz4_1, hcz4_2, hfz4_0, hfz4_1, hfz4_2⟩ := c3 BK101.out))
  go_ret
  exact ⟨fe, bz HB.out⟩
 ·rw [if_neg c2] at H
  have c2b0 : decide ((a0_1.size : Int) ≤ 24) = false := decide_eq_false c2
  have c2b1 : decide (a0_1.size ≤ 24) = false := decide_eq_false (by omega)
  clear c2
  obtain rfl := Option.some.inj H
  go_enter Tryd.func42, Tryd.ntmps42
  go_wp2_with (first | ((with_reducible refine gd 1 rfl ?_); (try (refine gate_guard (by rfl) ?_; dsimp only)); refine bx 1 (#[.bool a0_0, .string a0_1, .string a0_2]) 23 ?_; intro gb101 hg w5 hbox hb; have BK101 := Aside0.mk (hbox); have GW101 := sg hg HB.out; have GE101 := sg hg HB.out; replace HB := Aside0.mk (bs HB.out hb); clear hb hbox hg; obtain ⟨hcz6_0, hcz6_1, hcz6_2, hfz6_0, hfz6_1, hfz6_2⟩ := c3 BK101.out))
  go_ret
  exact ⟨fe, bz HB.out⟩

/-! ### insolvencylaw0_FewRats: function 20 -/
def insolvencylaw0_FewRats.l0 : Nat → List (S23) → Int → Int → Option (Bool)
 | 0, _, _, _ => none
 | k + 1, x11, x12, x13 => if x13 < x12 then (if 0 ≤ x13 then (if x13 < (x11.length : Int) then ((insolvencylaw0_Few.f ((rd_T23 x11 x13).f0) ((rd_T23 x11 x13).f1) ((rd_T23 x11 x13).f2)).bind fun t104 => (if t104 = true then (insolvencylaw0_FewRats.l0 k x11 x12 (wrap64 (x13 + 1))) else (some false))) else (none)) else (none)) else (some true)
def insolvencylaw0_FewRats.f (k : Nat) (l0 : List (S23)) (a1 : Int) : Option (Bool) := if (l0.length : Int) > a1 then (some false) else (insolvencylaw0_FewRats.l0 k l0 (l0.length : Int) 0)
theorem insolvencylaw0_FewRats.mono_l : ∀ k, (∀ y0 y1 y2, LeO (insolvencylaw0_FewRats.l0 k y0 y1 y2) (insolvencylaw0_FewRats.l0 (k + 1) y0 y1 y2))
 | 0 => fun _ _ _ r h => by simp [insolvencylaw0_FewRats.l0] at h
 | k + 1 => by
  have ih0 := insolvencylaw0_FewRats.mono_l k
  ·intro y0 y1 y2
   unfold insolvencylaw0_FewRats.l0
   repeat' with_reducible first | exact ih0 _ _ _ | exact LeO.refl _ | exact LeO.none _ | refine LeO.ite ?_ ?_ | refine LeO.bind ?_ (fun _ => ?_)
theorem insolvencylaw0_FewRats.mono : ∀ a0 a1 k, LeO (insolvencylaw0_FewRats.f k a0 a1) (insolvencylaw0_FewRats.f (k + 1) a0 a1) := by
 intro a0 a1 k
 have ih0 := insolvencylaw0_FewRats.mono_l k
 unfold insolvencylaw0_FewRats.f
 repeat' with_reducible first | exact ih0 _ _ _ | exact LeO.refl _ | exact LeO.none _ | refine LeO.ite ?_ ?_ | refine LeO.bind ?_ (fun _ => ?_)
set_option maxHeartbeats 8000000 in
set_option maxRecDepth 100000 in
theorem insolvencylaw0_FewRats.calls (k : Nat) (A0 : Option Addr) (c0 : Nat) (l0 : List (S23)) (a1 : Int) (r : Bool) (w : World) (hr0 : Kd.C k23 w A0 l0.length l0) (hc0 : l0.length ≤ c0) (h : insolvencylaw0_FewRats.f k l0 a1 = some r) :
  Calls Tryd.prog 20 #[.slice A0 l0.length c0, .int .i64 a1] w fun e w' => e = .returned (.bool r) ∧ Below w.heap.size w w' := by
 have hu23 := Tryd.underlying23
 have HR0 := Aside0.mk hr0
 have HC0 := Aside0.mk hc0
 clear hr0 hc0
 have HB := Aside0.mk (Below.refl w.heap.size w)
 have H := h
 clear h
 unfold insolvencylaw0_FewRats.f at H
 by_cases c3 : (l0.length : Int) > a1
 ·rw [if_pos c3] at H
  have c3b0 : decide (a1 < (l0.length : Int)) = true := decide_eq_true c3
  clear c3
  obtain rfl := Option.some.inj H
  go_enter Tryd.func20, Tryd.ntmps20
  go_wp2
  go_ret
  exact ⟨fe, bz HB.out⟩
 ·rw [if_neg c3] at H
  have c3b0 : decide (a1 < (l0.length : Int)) = false := decide_eq_false c3
  clear c3
  have H' := Aside0.mk H
  clear H
  go_enter Tryd.func20, Tryd.ntmps20
  go_wp2
  go_loopg [13] k (fun kq v13 w' => ∃ (x13_1 : Int), v13 = .int .i64 x13_1 ∧ Aside0 (insolvencylaw0_FewRats.l0 kq l0 (l0.length : Int) x13_1 = some r) ∧ Aside0 (kq ≤ k) ∧ Aside0 (Below w.heap.size w w'))
  case atStart => exact ⟨(0), fs, H', ⟨Nat.le_refl _⟩, ⟨bz HB.out⟩⟩
  case round =>
   clear H'
   (try clear c3b0)
   obtain ⟨x13_1, rfl, HA, HK1, HB⟩ := hrel
   cases gk with
   | zero => exact absurd HA.out (by simp [insolvencylaw0_FewRats.l0])
   | succ k1 =>
    have H := HA.out
    clear HA
    simp only [insolvencylaw0_FewRats.l0] at H
    by_cases c4 : x13_1 < (l0.length : Int)
    ·rw [if_pos c4] at H
     have c4b0 : decide (x13_1 < (l0.length : Int)) = true := decide_eq_true c4
     clear c4
     obtain ⟨c5, H⟩ := iN H
     have c5b0 : decide (0 ≤ x13_1) = true := decide_eq_true c5
     clear c5
     obtain ⟨c6, H⟩ := iN H
     have c6b0 : decide (x13_1 < (l0.length : Int)) = true := decide_eq_true c6
     clear c6
     obtain ⟨t104, A7, H⟩ := bs1 H
     by_cases c8 : t104 = true
     ·subst c8
      have H1 : (insolvencylaw0_FewRats.l0 k1 l0 (l0.length : Int) (wrap64 (x13_1 + 1))) = some r := by rw [if_pos rfl] at H; exact H
      clear H
      have H := H1
      clear H1
      have H' := Aside0.mk H
      clear H
      have p102 : 0 ≤ (x13_1 : Int) := oa
      have q102 : x13_1 < (l0.length : Int) := oa
      obtain ⟨ad102, e102, hx102_0, hx102_1, hx102_2⟩ := at_T23 HR0.out x13_1 p102 q102
      cases e102
      try replace hx102_0 := (HB.out.cell (World.block_lt_of_cell? w _ hx102_0)).trans hx102_0
      try replace hx102_1 := (HB.out.cell (World.block_lt_of_cell? w _ hx102_1)).trans hx102_1
      try replace hx102_2 := (HB.out.cell (World.block_lt_of_cell? w _ hx102_2)).trans hx102_2
      replace p102 := eq_true p102
      replace q102 := eq_true q102
      go_wp2_with (first | ((with_reducible refine gd 6 rfl ?_); refine bx 6 (#[.bool false, .string (⟨#[]⟩ : ByteArray), .string (⟨#[]⟩ : ByteArray)]) 23 ?_; intro gb103 hg w9 hbox hb; have BK103 := Aside0.mk (hbox); have GW103 := sg hg HB.out; have GE103 := sg hg HB.out; replace HB := Aside0.mk (bs HB.out hb); clear hb hbox hg; obtain ⟨hcz10_0, hcz10_1, hcz10_2, hfz10_0, hfz10_1, hfz10_2⟩ := c3 BK103.out) | ((with_reducible refine gc 42 rfl ?_); refine gl (some 18) Tryd.func42 #[.agg #[.bool ((rd_T23 l0 x13_1).f0), .string ((rd_T23 l0 x13_1).f1), .string ((rd_T23 l0 x13_1).f2)]] ?_; (with_reducible refine (insolvencylaw0_Few.calls ((rd_T23 l0 x13_1).f0) ((rd_T23 l0 x13_1).f1) ((rd_T23 l0 x13_1).f2) true _ A7.out).mono ?_); rintro e w11 ⟨rfl, hb⟩; refine ⟨_, rfl, ?_⟩; replace BK103 := Aside0.mk (bk BK103.out hb (.cells #[.bool ((rd_T23 l0 x13_1).f0), .string ((rd_T23 l0 x13_1).f1), .string ((rd_T23 l0 x13_1).f2)] 23 (0, 0))); replace HB := Aside0.mk (bs HB.out hb); (try clear hb)))
      go_roundg k1
      case measure => have := HK1.out; omega
      case rel => exact ⟨(wrap64 (x13_1 + 1)), fs, H', ⟨by have := HK1.out; omega⟩, ⟨bz HB.out⟩⟩
     ·replace c8 := Bool.eq_false_iff.mpr c8
      subst c8
      have H1 : (some false) = some r := by rw [if_neg (show ¬ (false = true) by decide)] at H; exact H
      clear H
      have H := H1
      clear H1
      obtain rfl := Option.some.inj H
      have p102 : 0 ≤ (x13_1 : Int) := oa
      have q102 : x13_1 < (l0.length : Int) := oa
      obtain ⟨ad102, e102, hx102_0, hx102_1, hx102_2⟩ := at_T23 HR0.out x13_1 p102 q102
      cases e102
      try replace hx102_0 := (HB.out.cell (World.block_lt_of_cell? w _ hx102_0)).trans hx102_0
      try replace hx102_1 := (HB.out.cell (World.block_lt_of_cell? w _ hx102_1)).trans hx102_1
      try replace hx102_2 := (HB.out.cell (World.block_lt_of_cell? w _ hx102_2)).trans hx102_2
      replace p102 := eq_true p102
      replace q102 := eq_true q102
      go_wp2_with (first | ((with_reducible refine gd 6 rfl ?_); refine bx 6 (#[.bool false, .string (⟨#[]⟩ : ByteArray), .string (⟨#[]⟩ : ByteArray)]) 23 ?_; intro gb103 hg w12 hbox hb; have BK103 := Aside0.mk (hbox); have GW103 := sg hg HB.out; have GE103 := sg hg HB.out; replace HB := Aside0.mk (bs HB.out hb); clear hb hbox hg; obtain ⟨hcz13_0, hcz13_1, hcz13_2, hfz13_0, hfz13_1, hfz13_2⟩ := c3 BK103.out) | ((with_reducible refine gc 42 rfl ?_); refine gl (some 18) Tryd.func42 #[.agg #[.bool ((rd_T23 l0 x13_1).f0), .string ((rd_T23 l0 x13_1).f1), .string ((rd_T23 l0 x13_1).f2)]] ?_; (with_reducible refine (insolvencylaw0_Few.calls ((rd_T23 l0 x13_1).f0) ((rd_T23 l0 x13_1).f1) ((rd_T23 l0 x13_1).f2) false _ A7.out).mono ?_); rintro e w14 ⟨rfl, hb⟩; refine ⟨_, rfl, ?_⟩; replace BK103 := Aside0.mk (bk BK103.out hb (.cells #[.bool ((rd_T23 l0 x13_1).f0), .string ((rd_T23 l0 x13_1).f1), .string ((rd_T23 l0 x13_1).f2)] 23 (0, 0))); replace HB := Aside0.mk (bs HB.out hb); (try clear hb)))
      go_ret
      exact ⟨fe, bz HB.out⟩
    ·rw [if_neg c4] at H
     have c4b0 : decide (x13_1 < (l0.length : Int)) = false := decide_eq_false c4
     clear c4
     obtain rfl := Option.some.inj H
     go_wp2
     go_ret
     exact ⟨fe, bz HB.out⟩

/-! ### insolvencylaw2_few: function 7 -/
def insolvencylaw2_few.f (k : Nat) (l0 : List (S23)) : Option (Bool) := (insolvencylaw0_FewRats.f k l0 8).bind fun t105 => (some t105)
theorem insolvencylaw2_few.mono : ∀ a0 k, LeO (insolvencylaw2_few.f k a0) (insolvencylaw2_few.f (k + 1) a0) := by
 intro a0 k
 unfold insolvencylaw2_few.f
 repeat' with_reducible first | exact insolvencylaw0_FewRats.mono _ _ _ | exact LeO.refl _ | exact LeO.none _ | refine LeO.ite ?_ ?_ | refine LeO.bind ?_ (fun _ => ?_)
set_option maxHeartbeats 8000000 in
set_option maxRecDepth 100000 in
theorem insolvencylaw2_few.calls (k : Nat) (A0 : Option Addr) (c0 : Nat) (l0 : List (S23)) (r : Bool) (w : World) (hr0 : Kd.C k23 w A0 l0.length l0) (hc0 : l0.length ≤ c0) (h : insolvencylaw2_few.f k l0 = some r) :
  Calls Tryd.prog 7 #[.slice A0 l0.length c0] w fun e w' => e = .returned (.bool r) ∧ Below w.heap.size w w' := by
 have HR0 := Aside0.mk hr0
 have HC0 := Aside0.mk hc0
 clear hr0 hc0
 have HB := Aside0.mk (Below.refl w.heap.size w)
 have H := h
 clear h
 unfold insolvencylaw2_few.f at H
 obtain ⟨t105, A2, H⟩ := bs1 H
 obtain rfl := Option.some.inj H
 go_enter Tryd.func7, Tryd.ntmps7
 go_wp2_with (first | ((with_reducible refine gc 20 rfl ?_); refine gl (some 4) Tryd.func20 #[.slice A0 l0.length c0, .int .i64 8] ?_; (with_reducible refine (insolvencylaw0_FewRats.calls k _ _ l0 8 t105 _ ?side1 ?side2 A2.out).mono ?_); (case side1 => repeat (first | exact HR0.out | (with_reducible refine Kd.C_alloc ?_ _) | (with_reducible refine Kd.C_drewN ?_ _) | (with_reducible refine Kd.C_drew ?_))); (case side2 => exact HC0.out); rintro e w3 ⟨rfl, hb⟩; refine ⟨_, rfl, ?_⟩; replace HB := Aside0.mk (bs HB.out hb); (try clear hb)))
 go_ret
 exact ⟨fe, bz HB.out⟩

/-! ### strings_trimLeftByte: function 76 -/
def strings_trimLeftByte.l0 : Nat → ByteArray → Int → Option (ByteArray)
 | 0, _, _ => none
 | k + 1, x0, x1 => if (x0.size : Int) > 0 then (if 0 < (x0.size : Int) then (if (bt x0 0) = x1 then (if 1 ≤ (x0.size : Int) then (strings_trimLeftByte.l0 k (x0.extract 1 x0.size) x1) else (none)) else (some x0)) else (none)) else (some x0)
def strings_trimLeftByte.f (k : Nat) (a0 : ByteArray) (a1 : Int) : Option (ByteArray) := strings_trimLeftByte.l0 k a0 a1
theorem strings_trimLeftByte.mono_l : ∀ k, (∀ y0 y1, LeO (strings_trimLeftByte.l0 k y0 y1) (strings_trimLeftByte.l0 (k + 1) y0 y1))
 | 0 => fun _ _ r h => by simp [strings_trimLeftByte.l0] at h
 | k + 1 => by
  have ih0 := strings_trimLeftByte.mono_l k
  ·intro y0 y1
   unfold strings_trimLeftByte.l0
   repeat' with_reducible first | exact ih0 _ _ | exact LeO.refl _ | exact LeO.none _ | refine LeO.ite ?_ ?_ | refine LeO.bind ?_ (fun _ => ?_)
theorem strings_trimLeftByte.mono : ∀ a0 a1 k, LeO (strings_trimLeftByte.f k a0 a1) (strings_trimLeftByte.f (k + 1) a0 a1) := by
 intro a0 a1 k
 have ih0 := strings_trimLeftByte.mono_l k
 unfold strings_trimLeftByte.f
 repeat' with_reducible first | exact ih0 _ _ | exact LeO.refl _ | exact LeO.none _ | refine LeO.ite ?_ ?_ | refine LeO.bind ?_ (fun _ => ?_)
set_option maxHeartbeats 8000000 in
set_option maxRecDepth 100000 in
theorem strings_trimLeftByte.calls (k : Nat) (a0 : ByteArray) (a1 : Int) (r : ByteArray) (w : World) (h : strings_trimLeftByte.f k a0 a1 = some r) :
  Calls Tryd.prog 76 #[.string a0, .int .u8 a1] w fun e w' => e = .returned (.string r) ∧ Drawn0 w w' := by
 have H := h
 clear h
 unfold strings_trimLeftByte.f at H
 have H' := Aside0.mk H
 clear H
 go_enter Tryd.func76, Tryd.ntmps76
 go_wp2
 go_loopg [0] k (fun kq v0 w' => ∃ (x0_1 : ByteArray), v0 = .string x0_1 ∧ Aside0 (strings_trimLeftByte.l0 kq x0_1 a1 = some r) ∧ Aside0 (kq ≤ k) ∧ Drawn0 w w')
 case atStart => exact ⟨(a0), fs, H', ⟨Nat.le_refl _⟩, dz⟩
 case round =>
  clear H'
  obtain ⟨x0_1, rfl, HA, HK1, ⟨m1, rfl⟩⟩ := hrel
  cases gk with
  | zero => exact absurd HA.out (by simp [strings_trimLeftByte.l0])
  | succ k1 =>
   have H := HA.out
   clear HA
   simp only [strings_trimLeftByte.l0] at H
   by_cases c3 : (x0_1.size : Int) > 0
   ·rw [if_pos c3] at H
    have c3b0 : decide (0 < (x0_1.size : Int)) = true := decide_eq_true c3
    have c3b1 : decide (0 < x0_1.size) = true := decide_eq_true (by omega)
    clear c3
    obtain ⟨c4, H⟩ := iN H
    have c4b0 : decide (0 < (x0_1.size : Int)) = true := decide_eq_true c4
    have c4b1 : decide (0 < x0_1.size) = true := decide_eq_true (by omega)
    clear c4
    by_cases c6 : (bt x0_1 0) = a1
    ·rw [if_pos c6] at H
     have c6b0 := beq_iff_eq.mpr c6
     have c6b1 := bne_eq_false_iff_eq.mpr c6
     clear c6
     obtain ⟨c7, H⟩ := iN H
     have c7b0 := eq_true c7
     have c7b1 : decide (1 ≤ (x0_1.size : Int)) = true := decide_eq_true c7
     clear c7
     have H' := Aside0.mk H
     clear H
     have p5 : 0 ≤ (0 : Int) := (by omega)
     have q5 : 0 < x0_1.size := (by have : (0 : Int) < (x0_1.size : Int) := oa; omega)
     have hx5 : ∀ h : 0 < x0_1.size, ((x0_1[0]'h).toNat : Int) = bt x0_1 0 := bt_at x0_1 0
     clear p5
     have qi5 : (0 < (x0_1.size : Int)) = True := eq_true oa
     replace q5 := eq_true q5
     go_wp2
     go_roundg k1
     case measure => have := HK1.out; omega
     case rel => exact ⟨(x0_1.extract 1 x0_1.size), fs, H', ⟨by have := HK1.out; omega⟩, dz⟩
    ·rw [if_neg c6] at H
     have c6b0 := beq_eq_false_iff_ne.mpr c6
     have c6b1 := bne_iff_ne.mpr c6
     obtain rfl := Option.some.inj H
     have p5 : 0 ≤ (0 : Int) := (by omega)
     have q5 : 0 < x0_1.size := (by have : (0 : Int) < (x0_1.size : Int) := oa; omega)
     have hx5 : ∀ h : 0 < x0_1.size, ((x0_1[0]'h).toNat : Int) = bt x0_1 0 := bt_at x0_1 0
     clear p5
     have qi5 : (0 < (x0_1.size : Int)) = True := eq_true oa
     replace q5 := eq_true q5
     go_wp2
     go_ret
     exact ⟨fs, dz⟩
   ·rw [if_neg c3] at H
    have c3b0 : decide (0 < (x0_1.size : Int)) = false := decide_eq_false c3
    have c3b1 : decide (0 < x0_1.size) = false := decide_eq_false (by omega)
    clear c3
    obtain rfl := Option.some.inj H
    go_wp2
    go_ret
    exact ⟨fs, dz⟩

-- NOT PRINTED: function 77 (strings_makeASCIISet)

-- NOT PRINTED: function 100 (strings_asciiSet_contains)

-- NOT PRINTED: function 78 (strings_trimLeftASCII)

-- NOT PRINTED: function 116 (utf8_decodeRuneInStringSlow)

-- NOT PRINTED: function 101 (utf8_DecodeRuneInString)

-- NOT PRINTED: function 108 (bytealg_IndexString)

-- NOT PRINTED: function 109 (bytealg_Cutover)

-- NOT PRINTED: function 118 (bytealg_IndexByteString)

/-! ### stringslite_IndexByte: function 107 (by hand) -/
def stringslite_IndexByte.f (a0 : ByteArray) (a1 : Int) : Option (Int) := some (Lib.indexByte a0.data.toList a1.toNat.toUInt8)
theorem stringslite_IndexByte.calls (a0 : ByteArray) (a1 : Int) (r : Int) (w : World) (h : stringslite_IndexByte.f a0 a1 = some r) :
  Calls Tryd.prog 107 #[.string a0, .int .u8 a1] w fun e w' => e = .returned (.int .i64 r) ∧ Drawn0 w w' := by
 obtain rfl := Option.some.inj h
 exact (Tryd.stringslite_IndexByte a0 a1 w).mono fun e w' ⟨he, hw⟩ => ⟨he, hw ▸ Drawn0.refl _⟩


/-! ### strings_IndexByte: function 121 -/
def strings_IndexByte.f (a0 : ByteArray) (a1 : Int) : Option (Int) := (stringslite_IndexByte.f a0 a1).bind fun t106 => (some t106)
set_option maxHeartbeats 8000000 in
set_option maxRecDepth 100000 in
theorem strings_IndexByte.calls (a0 : ByteArray) (a1 : Int) (r : Int) (w : World) (h : strings_IndexByte.f a0 a1 = some r) :
  Calls Tryd.prog 121 #[.string a0, .int .u8 a1] w fun e w' => e = .returned (.int .i64 r) ∧ Drawn0 w w' := by
 have H := h
 clear h
 unfold strings_IndexByte.f at H
 obtain ⟨t106, A3, H⟩ := bs1 H
 obtain rfl := Option.some.inj H
 go_enter Tryd.func121, Tryd.ntmps121
 go_wp2_with (first | ((with_reducible refine gc 107 rfl ?_); refine gl (some 7) Tryd.func107 #[.string a0, .int .u8 a1] ?_; (with_reducible refine (stringslite_IndexByte.calls a0 a1 t106 _ A3.out).mono ?_); rintro e w' ⟨rfl, ⟨nd, rfl⟩⟩; refine ⟨_, rfl, ?_⟩))
 go_ret
 exact ⟨fs, dz⟩

-- NOT PRINTED: function 122 (utf8_ValidRune)

-- NOT PRINTED: function 117 (strings_IndexRune)

-- NOT PRINTED: function 102 (strings_ContainsRune)

-- NOT PRINTED: function 79 (strings_trimLeftUnicode)

/-! ### strings_TrimLeft: function 53 -/
mutual
def strings_TrimLeft.j0 : Nat → ByteArray → ByteArray → Bool → Option (ByteArray)
 | 0, _, _, _ => none
 | k + 1, x0, x1, x12 => if x12 = true then (some x0) else (if (x1.size : Int) = 1 then (if 0 < (x1.size : Int) then (strings_TrimLeft.j1 k x0 x1 (decide ((bt x1 0) < 128))) else (none)) else (strings_TrimLeft.j1 k x0 x1 false))
def strings_TrimLeft.j1 : Nat → ByteArray → ByteArray → Bool → Option (ByteArray)
 | 0, _, _, _ => none
 | k + 1, x0, x1, x21 => if x21 = true then (if 0 < (x1.size : Int) then ((strings_trimLeftByte.f k x0 (bt x1 0)).bind fun t107 => (some t107)) else (none)) else (none)
end
def strings_TrimLeft.f (k : Nat) (a0 : ByteArray) (a1 : ByteArray) : Option (ByteArray) := if a0.toList = ([] : List UInt8) then (strings_TrimLeft.j0 k a0 a1 true) else (strings_TrimLeft.j0 k a0 a1 (a1.toList == ([] : List UInt8)))
theorem strings_TrimLeft.mono_l : ∀ k, (∀ y0 y1 y2, LeO (strings_TrimLeft.j0 k y0 y1 y2) (strings_TrimLeft.j0 (k + 1) y0 y1 y2)) ∧ (∀ y0 y1 y2, LeO (strings_TrimLeft.j1 k y0 y1 y2) (strings_TrimLeft.j1 (k + 1) y0 y1 y2))
 | 0 => ⟨fun _ _ _ r h => by simp [strings_TrimLeft.j0] at h, fun _ _ _ r h => by simp [strings_TrimLeft.j1] at h⟩
 | k + 1 => by
  obtain ⟨ih0, ih1⟩ := strings_TrimLeft.mono_l k
  refine ⟨?_, ?_⟩
  ·intro y0 y1 y2
   unfold strings_TrimLeft.j0
   repeat' with_reducible first | exact ih0 _ _ _ | exact ih1 _ _ _ | exact strings_trimLeftByte.mono _ _ _ | exact LeO.refl _ | exact LeO.none _ | refine LeO.ite ?_ ?_ | refine LeO.bind ?_ (fun _ => ?_)
  ·intro y0 y1 y2
   unfold strings_TrimLeft.j1
   repeat' with_reducible first | exact ih0 _ _ _ | exact ih1 _ _ _ | exact strings_trimLeftByte.mono _ _ _ | exact LeO.refl _ | exact LeO.none _ | refine LeO.ite ?_ ?_ | refine LeO.bind ?_ (fun _ => ?_)
theorem strings_TrimLeft.mono : ∀ a0 a1 k, LeO (strings_TrimLeft.f k a0 a1) (strings_TrimLeft.f (k + 1) a0 a1) := by
 intro a0 a1 k
 obtain ⟨ih0, ih1⟩ := strings_TrimLeft.mono_l k
 unfold strings_TrimLeft.f
 repeat' with_reducible first | exact ih0 _ _ _ | exact ih1 _ _ _ | exact strings_trimLeftByte.mono _ _ _ | exact LeO.refl _ | exact LeO.none _ | refine LeO.ite ?_ ?_ | refine LeO.bind ?_ (fun _ => ?_)
set_option maxHeartbeats 8000000 in
set_option maxRecDepth 100000 in
theorem strings_TrimLeft.calls (k : Nat) (a0 : ByteArray) (a1 : ByteArray) (r : ByteArray) (w : World) (h : strings_TrimLeft.f k a0 a1 = some r) :
  Calls Tryd.prog 53 #[.string a0, .string a1] w fun e w' => e = .returned (.string r) ∧ Below w.heap.size w w' := by
 have HB := Aside0.mk (Below.refl w.heap.size w)
 have H := h
 clear h
 unfold strings_TrimLeft.f at H
 have HC3 := Aside0.mk H
 clear H
 go_enter Tryd.func53, Tryd.ntmps53
 (try (simp only [Exit.then]; refine (by assumption : ∀ (a : Act) (w : World), Code.wp _ _ _ a w → _) _ _ ?_))
 go_upto_region 1 with (fail)
 go_cut [12] (fun v12 wc => ∃ (kq : Nat) (x12_2 : Bool), v12 = .bool x12_2 ∧ Aside0 (strings_TrimLeft.j0 kq a0 a1 x12_2 = some r) ∧ Aside0 (kq ≤ k) ∧ Aside0 (Below w.heap.size w wc))
 case first =>
  have H := HC3.out
  clear HC3
  by_cases c4 : a0.toList = ([] : List UInt8)
  ·rw [if_pos c4] at H
   have c4b0 := beq_iff_eq.mpr c4
   have c4b1 := bne_eq_false_iff_eq.mpr c4
   clear c4
   (first | rw [c4b0] | (simp only [i64_w, i32_w]; rw [c4b0]) | skip)
   have H' := Aside0.mk H
   clear H
   go_wp2
   go_meet
   case rel => exact ⟨_, (true), fs, H', ⟨by first | omega | exact Nat.le_refl _⟩, ⟨bz HB.out⟩⟩
  ·rw [if_neg c4] at H
   have c4b0 := beq_eq_false_iff_ne.mpr c4
   have c4b1 := bne_iff_ne.mpr c4
   (first | rw [c4b0] | (simp only [i64_w, i32_w]; rw [c4b0]) | skip)
   have H' := Aside0.mk H
   clear H
   go_wp2
   go_meet
   case rel => exact ⟨_, ((a1.toList == ([] : List UInt8))), fs, H', ⟨by first | omega | exact Nat.le_refl _⟩, ⟨bz HB.out⟩⟩
 case rest =>
  clear HC3
  (try clear c4b0); (try clear c4b1)
  obtain ⟨kq, x12_2, rfl, HA, HJ2, HB⟩ := hcut
  cases kq with
  | zero => exact absurd HA.out (by simp [strings_TrimLeft.j0])
  | succ kj2 =>
   have H := HA.out
   clear HA
   simp only [strings_TrimLeft.j0] at H
   by_cases c5 : x12_2 = true
   ·subst c5
    have H1 : (some a0) = some r := by rw [if_pos rfl] at H; exact H
    clear H
    have H := H1
    clear H1
    obtain rfl := Option.some.inj H
    go_wp2
    go_ret
    exact ⟨fe, bz HB.out⟩
   ·replace c5 := Bool.eq_false_iff.mpr c5
    subst c5
    have H1 : (if (a1.size : Int) = 1 then (if 0 < (a1.size : Int) then (strings_TrimLeft.j1 kj2 a0 a1 (decide ((bt a1 0) < 128))) else (none)) else (strings_TrimLeft.j1 kj2 a0 a1 false)) = some r := by rw [if_neg (show ¬ (false = true) by decide)] at H; exact H
    clear H
    have H := H1
    clear H1
    have HC6 := Aside0.mk H
    clear H
    (try (simp only [Exit.then]; refine (by assumption : ∀ (a : Act) (w : World), Code.wp _ _ _ a w → _) _ _ ?_))
    go_upto_region 3 with (fail)
    go_cut [21] (fun v21 wc => ∃ (kq : Nat) (x21_5 : Bool), v21 = .bool x21_5 ∧ Aside0 (strings_TrimLeft.j1 kq a0 a1 x21_5 = some r) ∧ Aside0 (kq ≤ kj2) ∧ Aside0 (Below w.heap.size w wc))
    case first =>
     have H := HC6.out
     clear HC6
     by_cases c7 : (a1.size : Int) = 1
     ·rw [if_pos c7] at H
      have c7b0 := beq_iff_eq.mpr c7
      have c7b1 := bne_eq_false_iff_eq.mpr c7
      clear c7
      (first | rw [c7b0] | (simp only [i64_w, i32_w]; rw [c7b0]) | skip)
      obtain ⟨c8, H⟩ := iN H
      have c8b0 : decide (0 < (a1.size : Int)) = true := decide_eq_true c8
      have c8b1 : decide (0 < a1.size) = true := decide_eq_true (by omega)
      clear c8
      have H' := Aside0.mk H
      clear H
      have p9 : 0 ≤ (0 : Int) := (by omega)
      have q9 : 0 < a1.size := (by have : (0 : Int) < (a1.size : Int) := oa; omega)
      have hx9 : ∀ h : 0 < a1.size, ((a1[0]'h).toNat : Int) = bt a1 0 := bt_at a1 0
      clear p9
      have qi9 : (0 < (a1.size : Int)) = True := eq_true oa
      replace q9 := eq_true q9
      go_wp2
      go_meet
      case rel => exact ⟨_, (decide ((bt a1 0) < 128)), fs, H', ⟨by have := HJ2.out; first | omega | exact Nat.le_refl _⟩, ⟨bz HB.out⟩⟩
     ·rw [if_neg c7] at H
      have c7b0 := beq_eq_false_iff_ne.mpr c7
      have c7b1 := bne_iff_ne.mpr c7
      (first | rw [c7b0] | (simp only [i64_w, i32_w]; rw [c7b0]) | skip)
      have H' := Aside0.mk H
      clear H
      go_wp2
      go_meet
      case rel => exact ⟨_, (false), fs, H', ⟨by have := HJ2.out; first | omega | exact Nat.le_refl _⟩, ⟨bz HB.out⟩⟩
    case rest =>
     clear HC6
     (try clear c4b0); (try clear c4b1); (try clear c5); (try clear c7b0); (try clear c7b1); (try clear c8b0); (try clear c8b1); (try clear q9); (try clear hx9); (try clear qi9); (try clear q9)
     obtain ⟨kq, x21_5, rfl, HA, HJ5, HB⟩ := hcut
     cases kq with
     | zero => exact absurd HA.out (by simp [strings_TrimLeft.j1])
     | succ kj5 =>
      have H := HA.out
      clear HA
      simp only [strings_TrimLeft.j1] at H
      by_cases c10 : x21_5 = true
      ·subst c10
       have H1 : (if 0 < (a1.size : Int) then ((strings_trimLeftByte.f kj5 a0 (bt a1 0)).bind fun t107 => (some t107)) else (none)) = some r := by rw [if_pos rfl] at H; exact H
       clear H
       have H := H1
       clear H1
       obtain ⟨c11, H⟩ := iN H
       have c11b0 : decide (0 < (a1.size : Int)) = true := decide_eq_true c11
       have c11b1 : decide (0 < a1.size) = true := decide_eq_true (by omega)
       clear c11
       obtain ⟨t107, A13, H⟩ := bs1 H
       obtain rfl := Option.some.inj H
       have p12 : 0 ≤ (0 : Int) := (by omega)
       have q12 : 0 < a1.size := (by have : (0 : Int) < (a1.size : Int) := oa; omega)
       have hx12 : ∀ h : 0 < a1.size, ((a1[0]'h).toNat : Int) = bt a1 0 := bt_at a1 0
       clear p12
       have qi12 : (0 < (a1.size : Int)) = True := eq_true oa
       replace q12 := eq_true q12
       go_wp2_with (first | ((with_reducible refine gc 76 rfl ?_); refine gl (some 25) Tryd.func76 #[.string a0, .int .u8 (bt a1 0)] ?_; (with_reducible refine (strings_trimLeftByte.calls kj5 a0 (bt a1 0) t107 _ A13.out).mono ?_); rintro e w' ⟨rfl, ⟨nd, rfl⟩⟩; refine ⟨_, rfl, ?_⟩))
       go_ret
       exact ⟨fe, bz HB.out⟩
      ·replace c10 := Bool.eq_false_iff.mpr c10
       subst c10
       have H1 : (none) = some r := by rw [if_neg (show ¬ (false = true) by decide)] at H; exact H
       clear H
       have H := H1
       clear H1
       exact absurd H (by simp)

/-! ### natural_Normalize: function 26 -/
def natural_Normalize.f (k : Nat) (a0 : ByteArray) : Option (ByteArray) := (strings_TrimLeft.f k a0 (⟨#[0]⟩ : ByteArray)).bind fun t108 => (some t108)
theorem natural_Normalize.mono : ∀ a0 k, LeO (natural_Normalize.f k a0) (natural_Normalize.f (k + 1) a0) := by
 intro a0 k
 unfold natural_Normalize.f
 repeat' with_reducible first | exact strings_TrimLeft.mono _ _ _ | exact LeO.refl _ | exact LeO.none _ | refine LeO.ite ?_ ?_ | refine LeO.bind ?_ (fun _ => ?_)
set_option maxHeartbeats 8000000 in
set_option maxRecDepth 100000 in
theorem natural_Normalize.calls (k : Nat) (a0 : ByteArray) (r : ByteArray) (w : World) (h : natural_Normalize.f k a0 = some r) :
  Calls Tryd.prog 26 #[.string a0] w fun e w' => e = .returned (.string r) ∧ Below w.heap.size w w' := by
 have HB := Aside0.mk (Below.refl w.heap.size w)
 have H := h
 clear h
 unfold natural_Normalize.f at H
 obtain ⟨t108, A2, H⟩ := bs1 H
 obtain rfl := Option.some.inj H
 go_enter Tryd.func26, Tryd.ntmps26
 go_wp2_with (first | ((with_reducible refine gc 53 rfl ?_); refine gl (some 4) Tryd.func53 #[.string a0, .string (⟨#[0]⟩ : ByteArray)] ?_; (with_reducible refine (strings_TrimLeft.calls k a0 (⟨#[0]⟩ : ByteArray) t108 _ A2.out).mono ?_); rintro e w3 ⟨rfl, hb⟩; refine ⟨_, rfl, ?_⟩; replace HB := Aside0.mk (bs HB.out hb); (try clear hb)))
 go_ret
 exact ⟨fe, bz HB.out⟩

/-! ### natural_limbs_trim: function 80 -/
def natural_limbs_trim.l0 : Nat → List Int → Int → Option (List Int)
 | 0, _, _ => none
 | k + 1, x0, x3 => if x3 > 0 then (if 0 ≤ (wrap64 (x3 - 1)) then (if (wrap64 (x3 - 1)) < (x0.length : Int) then (if (rd x0 (wrap64 (x3 - 1))) = 0 then (natural_limbs_trim.l0 k x0 (wrap64 (x3 - 1))) else (if 0 ≤ x3 then (if x3 ≤ (x0.length : Int) then (some (x0.take (x3 : Int).toNat)) else (none)) else (none))) else (none)) else (none)) else (if 0 ≤ x3 then (if x3 ≤ (x0.length : Int) then (some (x0.take (x3 : Int).toNat)) else (none)) else (none))
def natural_limbs_trim.f (k : Nat) (l0 : List Int) : Option (List Int) := natural_limbs_trim.l0 k l0 (l0.length : Int)
theorem natural_limbs_trim.mono_l : ∀ k, (∀ y0 y1, LeO (natural_limbs_trim.l0 k y0 y1) (natural_limbs_trim.l0 (k + 1) y0 y1))
 | 0 => fun _ _ r h => by simp [natural_limbs_trim.l0] at h
 | k + 1 => by
  have ih0 := natural_limbs_trim.mono_l k
  ·intro y0 y1
   unfold natural_limbs_trim.l0
   repeat' with_reducible first | exact ih0 _ _ | exact LeO.refl _ | exact LeO.none _ | refine LeO.ite ?_ ?_ | refine LeO.bind ?_ (fun _ => ?_)
theorem natural_limbs_trim.mono : ∀ a0 k, LeO (natural_limbs_trim.f k a0) (natural_limbs_trim.f (k + 1) a0) := by
 intro a0 k
 have ih0 := natural_limbs_trim.mono_l k
 unfold natural_limbs_trim.f
 repeat' with_reducible first | exact ih0 _ _ | exact LeO.refl _ | exact LeO.none _ | refine LeO.ite ?_ ?_ | refine LeO.bind ?_ (fun _ => ?_)
set_option maxHeartbeats 8000000 in
set_option maxRecDepth 100000 in
theorem natural_limbs_trim.calls (k : Nat) (P0_ : Nat → Prop) (A0 : Option Addr) (c0 : Nat) (l0 : List Int) (r : List Int) (w : World) (hs0 : Kd.V (Kd.int .u32) 72 w w.heap.size (fun k_ => P0_ k_) (.slice A0 l0.length c0) l0) (h : natural_limbs_trim.f k l0 = some r) :
  Calls Tryd.prog 80 #[.slice A0 l0.length c0] w fun e w' => ∃ v0_ : Value, e = .returned (v0_) ∧ Kd.V (Kd.int .u32) 72 w' w.heap.size (fun k_ => (P0_ k_ ∨ w.heap.size ≤ k_)) v0_ r ∧ Below w.heap.size w w' := by
 have HO0 := Aside0.mk (show Kd.V (Kd.int .u32) 72 w w.heap.size (fun k_ => (P0_ k_ ∨ w.heap.size ≤ k_)) (.slice A0 l0.length c0) l0 from Kd.V_mono hs0 (fun k_ hk => .inl hk))
 have HB := Aside0.mk (Below.refl w.heap.size w)
 have H := h
 clear h
 unfold natural_limbs_trim.f at H
 have H' := Aside0.mk H
 clear H
 go_enter Tryd.func80, Tryd.ntmps80
 go_wp2
 go_loopg [3] k (fun kq v3 w' => ∃ (x3_1 : Int), v3 = .int .i64 x3_1 ∧ Aside0 (natural_limbs_trim.l0 kq l0 x3_1 = some r) ∧ Aside0 (kq ≤ k) ∧ Aside0 (Kd.V (Kd.int .u32) 72 w' w.heap.size (fun k_ => (P0_ k_ ∨ w.heap.size ≤ k_)) (.slice A0 l0.length c0) l0) ∧ Aside0 (Below w.heap.size w w'))
 case atStart => exact ⟨((l0.length : Int)), fs, H', ⟨Nat.le_refl _⟩, ⟨vs HO0.out⟩, ⟨bz HB.out⟩⟩
 case round =>
  clear H'
  obtain ⟨x3_1, rfl, HA, HK1, HO_0, HB⟩ := hrel
  cases gk with
  | zero => exact absurd HA.out (by simp [natural_limbs_trim.l0])
  | succ k1 =>
   have H := HA.out
   clear HA
   simp only [natural_limbs_trim.l0] at H
   by_cases c2 : x3_1 > 0
   ·rw [if_pos c2] at H
    have c2b0 : decide (0 < x3_1) = true := decide_eq_true c2
    clear c2
    obtain ⟨ji3, hji3⟩ : ∃ j_ : Int, (wrap64 (x3_1 - 1)) = j_ := ⟨_, rfl⟩
    first | rw [hji3] at H | simp only [hji3] at H
    have hji3w : (IntKind.i64.wrap (x3_1 - 1)) = ji3 := (i64_w _).trans hji3
    obtain ⟨c4, H⟩ := iN H
    have c4b0 : decide (0 ≤ (ji3)) = true := decide_eq_true c4
    clear c4
    obtain ⟨c5, H⟩ := iN H
    have c5b0 : decide ((ji3) < (l0.length : Int)) = true := decide_eq_true c5
    clear c5
    by_cases c6 : (rd l0 (ji3)) = 0
    ·rw [if_pos c6] at H
     have c6b0 := beq_iff_eq.mpr c6
     have c6b1 := bne_eq_false_iff_eq.mpr c6
     clear c6
     have H' := Aside0.mk H
     clear H
     have p109 : 0 ≤ ((ji3) : Int) := oa
     have q109 : (ji3) < (l0.length : Int) := oa
     obtain ⟨ad109, e109, hx109_0⟩ := Kd.at_int (Kd.V_reads' HO_0.out).2.2 (ji3) p109 q109
     cases e109
     replace p109 := eq_true p109
     replace q109 := eq_true q109
     go_wp2
     go_roundg k1
     case measure => have := HK1.out; omega
     case rel => exact ⟨(ji3), (by first | rfl | (simp; done) | (simp only [← hji3] <;> (first | rfl | simp)) | (simp [*]; done)), H', ⟨by have := HK1.out; omega⟩, ⟨vs HO_0.out⟩, ⟨bz HB.out⟩⟩
    ·rw [if_neg c6] at H
     have c6b0 := beq_eq_false_iff_ne.mpr c6
     have c6b1 := bne_iff_ne.mpr c6
     obtain ⟨c7, H⟩ := iN H
     have c7b0 := eq_true c7
     have c7b1 : decide (0 ≤ x3_1) = true := decide_eq_true c7
     clear c7
     obtain ⟨c8, H⟩ := iN H
     have c8b0 := eq_true c8
     have c8b1 : decide (x3_1 ≤ (l0.length : Int)) = true := decide_eq_true c8
     clear c8
     obtain ⟨y110, hy110⟩ : ∃ y_ : List Int, y_ = (l0.take (x3_1 : Int).toNat) := ⟨_, rfl⟩
     (try first | rw [← hy110] at H | (dsimp only at H; rw [← hy110] at H)); (try rw [Option.bind_some] at H)
     have Ny110 := Aside0.mk hy110
     clear hy110
     obtain rfl := Option.some.inj H
     have p109 : 0 ≤ ((ji3) : Int) := oa
     have q109 : (ji3) < (l0.length : Int) := oa
     obtain ⟨ad109, e109, hx109_0⟩ := Kd.at_int (Kd.V_reads' HO_0.out).2.2 (ji3) p109 q109
     cases e109
     replace p109 := eq_true p109
     replace q109 := eq_true q109
     have q9 : (x3_1 : Int) ≤ ((l0.length : Int) : Int) := oa
     obtain ⟨i09, hi09, _, hsz9, _⟩ := info_parts info72
     have hroom9 : l0.length ≤ c0 := (Kd.V_reads' HO_0.out).2.1
     have hC9 : Kd.F (Kd.int .u32) _ _ (some ad109) l0.length l0 := (Kd.V_at (base := w.heap.size) HO_0.out).2.2
     have hcut9 := cut_to (P := Tryd.prog) 65 72 .i64 Tryd.underlying65 hi09 (some ad109) l0.length c0 x3_1 oa q9 hroom9
     have hr9 := Kd.F_take (m := (x3_1 : Int).toNat) hC9 (by omega)
     have hy9 : y110.length = (x3_1 : Int).toNat := (by rw [Ny110.out, List.length_take]; omega)
     rw [← Ny110.out] at hr9
     rw [← hy9] at hcut9
     have HO114 := Aside0.mk (show Kd.V (Kd.int .u32) 72 _ w.heap.size _ (.slice (some ad109) y110.length c0) y110 from Kd.V_mk (by omega) hr9)
     have HC114 := Aside0.mk (show y110.length ≤ c0 from by omega)
     clear hr9 hC9 hroom9 hi09 hsz9
     have KY9 := Aside0.mk hy9
     clear hy9
     replace q9 := eq_true q9
     go_wp2
     go_ret
     exact ⟨_, by first | rfl | (simp [errW_none, errW_some] <;> rfl) | (simp only [← hji3]; first | rfl | (simp [errW_none, errW_some] <;> rfl)) | (simp [*, errW_none, errW_some] <;> rfl), vs HO114.out, bz HB.out⟩
   ·rw [if_neg c2] at H
    have c2b0 : decide (0 < x3_1) = false := decide_eq_false c2
    clear c2
    obtain ⟨c10, H⟩ := iN H
    have c10b0 := eq_true c10
    have c10b1 : decide (0 ≤ x3_1) = true := decide_eq_true c10
    clear c10
    obtain ⟨c11, H⟩ := iN H
    have c11b0 := eq_true c11
    have c11b1 : decide (x3_1 ≤ (l0.length : Int)) = true := decide_eq_true c11
    clear c11
    obtain ⟨y115, hy115⟩ : ∃ y_ : List Int, y_ = (l0.take (x3_1 : Int).toNat) := ⟨_, rfl⟩
    (try first | rw [← hy115] at H | (dsimp only at H; rw [← hy115] at H)); (try rw [Option.bind_some] at H)
    have Ny115 := Aside0.mk hy115
    clear hy115
    obtain rfl := Option.some.inj H
    have q12 : (x3_1 : Int) ≤ ((l0.length : Int) : Int) := oa
    obtain ⟨i012, hi012, _, hsz12, _⟩ := info_parts info72
    have hroom12 : l0.length ≤ c0 := (Kd.V_reads' HO_0.out).2.1
    have hC12 : Kd.F (Kd.int .u32) _ _ A0 l0.length l0 := (Kd.V_at (base := w.heap.size) HO_0.out).2.2
    have hcut12 := cut_to (P := Tryd.prog) 65 72 .i64 Tryd.underlying65 hi012 A0 l0.length c0 x3_1 oa q12 hroom12
    have hr12 := Kd.F_take (m := (x3_1 : Int).toNat) hC12 (by omega)
    have hy12 : y115.length = (x3_1 : Int).toNat := (by rw [Ny115.out, List.length_take]; omega)
    rw [← Ny115.out] at hr12
    rw [← hy12] at hcut12
    have HO119 := Aside0.mk (show Kd.V (Kd.int .u32) 72 _ w.heap.size _ (.slice A0 y115.length c0) y115 from Kd.V_mk (by omega) hr12)
    have HC119 := Aside0.mk (show y115.length ≤ c0 from by omega)
    clear hr12 hC12 hroom12 hi012 hsz12
    have KY12 := Aside0.mk hy12
    clear hy12
    replace q12 := eq_true q12
    go_wp2
    go_ret
    exact ⟨_, fe, vs HO119.out, bz HB.out⟩

end Go.Proofs.YtgepdnoaemeofaaDoor.R
