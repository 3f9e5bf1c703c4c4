/- Printed by a program of this session (wip/tools) out of the translation: plain functions and the proofs that the code comes to their answers. -/
import Derived.Test.YtgepdnoaemeofaaDoorK
import Derived.Test.YtgepdnoaemeofaaDoorE0
import Derived.Test.YtgepdnoaemeofaaDoorE1
import Derived.Test.YtgepdnoaemeofaaDoorE2
namespace Go.Proofs.YtgepdnoaemeofaaDoor.E
open Go.RowKit Go.Proofs.YtgepdnoaemeofaaDoorW.PrintWords Go.Proofs.YtgepdnoaemeofaaDoorW.PrintLast Go.Proofs.YtgepdnoaemeofaaDoorW.PrintMore Go.Proofs.YtgepdnoaemeofaaDoorW.PK
attribute [local go_sem] max2_int min2_int max_two min_two max_three min_three max_four min_four   -- for this text's walks alone
set_option linter.unusedVariables false
set_option linter.unusedSimpArgs false

/-! ### insolvencylaw0_Few: function 42 -/
def insolvencylaw0_Few.f (a0_0 : Bool) (a0_1 : ByteArray) (a0_2 : ByteArray) : Option (Bool) := if (a0_1.size : Int) ≤ 24 then (some (decide ((a0_2.size : Int) ≤ 24))) else (some false)
set_option maxHeartbeats 8000000 in
set_option maxRecDepth 100000 in
theorem insolvencylaw0_Few.calls (a0_0 : Bool) (a0_1 : ByteArray) (a0_2 : ByteArray) (r : Bool) (w : World) (h : insolvencylaw0_Few.f a0_0 a0_1 a0_2 = some r) :
  Calls Tryd.prog 42 #[.agg #[.bool a0_0, .string a0_1, .string a0_2]] w fun e w' => e = .returned (.bool r) ∧ Below w.heap.size w w' := by
 have hu23 := Tryd.underlying23
 have HB := Aside0.mk (Below.refl w.heap.size w)
 have H := h
 clear h
 unfold insolvencylaw0_Few.f at H
 by_cases c2 : (a0_1.size : Int) ≤ 24
 ·rw [if_pos c2] at H
  have c2b0 : decide ((a0_1.size : Int) ≤ 24) = true := decide_eq_true c2
  have c2b1 : decide (a0_1.size ≤ 24) = true := decide_eq_true (by omega)
  clear c2
  obtain rfl := Option.some.inj H
  go_enter Tryd.func42, Tryd.ntmps42
  go_wp2_with (first | ((with_reducible refine gd 1 rfl ?_); (try (refine gate_guard (by rfl) ?_; dsimp only)); refine bx 1 (#[.bool a0_0, .string a0_1, .string a0_2]) 23 ?_; intro gb593 hg w3 hbox hb; have BK593 := Aside0.mk (hbox); have GW593 := sg hg HB.out; have GE593 := sg hg HB.out; replace HB := Aside0.mk (bs HB.out hb); clear hb hbox hg; obtain ⟨hcz4_0, hcz4_1, hcz4_2, hfz4_0, hfz4_1, hfz4_2⟩ := c3 BK593.out))
  go_ret
  exact ⟨fe, bz HB.out⟩
 ·rw [if_neg c2] at H
  have c2b0 : decide ((a0_1.size : Int) ≤ 24) = false := decide_eq_false c2
  have c2b1 : decide (a0_1.size ≤ 24) = false := decide_eq_false (by omega)
  clear c2
  obtain rfl := Option.some.inj H
  go_enter Tryd.func42, Tryd.ntmps42
  go_wp2_with (first | ((with_reducible refine gd 1 rfl ?_); (try (refine gate_guard (by rfl) ?_; dsimp only)); refine bx 1 (#[.bool a0_0, .string a0_1, .string a0_2]) 23 ?_; intro gb593 hg w5 hbox hb; have BK593 := Aside0.mk (hbox); have GW593 := sg hg HB.out; have GE593 := sg hg HB.out; replace HB := Aside0.mk (bs HB.out hb); clear hb hbox hg; obtain ⟨hcz6_0, hcz6_1, hcz6_2, hfz6_0, hfz6_1, hfz6_2⟩ := c3 BK593.out))
  go_ret
  exact ⟨fe, bz HB.out⟩

/-! ### insolvencylaw0_FewRats: function 20 -/
def insolvencylaw0_FewRats.l0 : Nat → List (S23) → Int → Int → Option (Bool)
 | 0, _, _, _ => none
 | k + 1, x11, x12, x13 => if x13 < x12 then (if 0 ≤ x13 then (if x13 < (x11.length : Int) then ((insolvencylaw0_Few.f ((rd_T23 x11 x13).f0) ((rd_T23 x11 x13).f1) ((rd_T23 x11 x13).f2)).bind fun t596 => (if t596 = true then (insolvencylaw0_FewRats.l0 k x11 x12 (wrap64 (x13 + 1))) else (some false))) else (none)) else (none)) else (some true)
def insolvencylaw0_FewRats.f (k : Nat) (l0 : List (S23)) (a1 : Int) : Option (Bool) := if (l0.length : Int) > a1 then (some false) else (insolvencylaw0_FewRats.l0 k l0 (l0.length : Int) 0)
theorem insolvencylaw0_FewRats.mono_l : ∀ k, (∀ y0 y1 y2, LeO (insolvencylaw0_FewRats.l0 k y0 y1 y2) (insolvencylaw0_FewRats.l0 (k + 1) y0 y1 y2))
 | 0 => fun _ _ _ r h => by simp [insolvencylaw0_FewRats.l0] at h
 | k + 1 => by
  have ih0 := insolvencylaw0_FewRats.mono_l k
  ·intro y0 y1 y2
   unfold insolvencylaw0_FewRats.l0
   repeat' first
   | (with_reducible exact ih0 _ _ _)
   | (with_reducible exact LeO.refl _)
   | (with_reducible exact LeO.none _)
   | (with_reducible refine LeO.ite ?_ ?_)
   | (with_reducible refine LeO.bind ?_ (fun _ => ?_))
   | exact ih0 _ _ _
   | exact LeO.none _
   | refine LeO.ite ?_ ?_
   | refine LeO.bind ?_ (fun _ => ?_)
theorem insolvencylaw0_FewRats.mono : ∀ a0 a1 k, LeO (insolvencylaw0_FewRats.f k a0 a1) (insolvencylaw0_FewRats.f (k + 1) a0 a1) := by
 intro a0 a1 k
 have ih0 := insolvencylaw0_FewRats.mono_l k
 unfold insolvencylaw0_FewRats.f
 repeat' first
   | (with_reducible exact ih0 _ _ _)
   | (with_reducible exact LeO.refl _)
   | (with_reducible exact LeO.none _)
   | (with_reducible refine LeO.ite ?_ ?_)
   | (with_reducible refine LeO.bind ?_ (fun _ => ?_))
   | exact ih0 _ _ _
   | exact LeO.none _
   | refine LeO.ite ?_ ?_
   | refine LeO.bind ?_ (fun _ => ?_)
set_option maxHeartbeats 8000000 in
set_option maxRecDepth 100000 in
theorem insolvencylaw0_FewRats.calls (k : Nat) (A0 : Option Addr) (c0 : Nat) (l0 : List (S23)) (a1 : Int) (r : Bool) (w : World) (hr0 : Kd.C k23 w A0 l0.length l0) (hc0 : l0.length ≤ c0) (h : insolvencylaw0_FewRats.f k l0 a1 = some r) :
  Calls Tryd.prog 20 #[.slice A0 l0.length c0, .int .i64 a1] w fun e w' => e = .returned (.bool r) ∧ Below w.heap.size w w' := by
 have hu23 := Tryd.underlying23
 have HR0 := Aside0.mk hr0
 have HC0 := Aside0.mk hc0
 clear hr0 hc0
 have HB := Aside0.mk (Below.refl w.heap.size w)
 have H := h
 clear h
 unfold insolvencylaw0_FewRats.f at H
 by_cases c3 : (l0.length : Int) > a1
 ·rw [if_pos c3] at H
  have c3b0 : decide (a1 < (l0.length : Int)) = true := decide_eq_true c3
  clear c3
  obtain rfl := Option.some.inj H
  go_enter Tryd.func20, Tryd.ntmps20
  go_wp2
  go_ret
  exact ⟨fe, bz HB.out⟩
 ·rw [if_neg c3] at H
  have c3b0 : decide (a1 < (l0.length : Int)) = false := decide_eq_false c3
  clear c3
  have H' := Aside0.mk H
  clear H
  go_enter Tryd.func20, Tryd.ntmps20
  go_wp2
  go_loopg [13] k (fun kq v13 w' => ∃ (x13_1 : Int), v13 = .int .i64 x13_1 ∧ Aside0 (insolvencylaw0_FewRats.l0 kq l0 (l0.length : Int) x13_1 = some r) ∧ Aside0 (kq ≤ k) ∧ Aside0 (Below w.heap.size w w'))
  case atStart => exact ⟨(0), fs, H', ⟨Nat.le_refl _⟩, ⟨bz HB.out⟩⟩
  case round =>
   clear H'
   try clear c2
   try clear p2
   try clear c3
   try clear c3b0
   obtain ⟨x13_1, rfl, HA, HK1, HB⟩ := hrel
   cases gk with
   | zero => exact absurd HA.out (by simp [insolvencylaw0_FewRats.l0])
   | succ k1 =>
    have H := HA.out
    clear HA
    simp only [insolvencylaw0_FewRats.l0] at H
    by_cases c4 : x13_1 < (l0.length : Int)
    ·rw [if_pos c4] at H
     have c4b0 : decide (x13_1 < (l0.length : Int)) = true := decide_eq_true c4
     clear c4
     obtain ⟨c5, H⟩ := iN H
     have c5b0 : decide (0 ≤ x13_1) = true := decide_eq_true c5
     clear c5
     obtain ⟨c6, H⟩ := iN H
     have c6b0 : decide (x13_1 < (l0.length : Int)) = true := decide_eq_true c6
     clear c6
     obtain ⟨t596, A7, H⟩ := bs1 H
     by_cases c8 : t596 = true
     ·subst c8
      have H1 : (insolvencylaw0_FewRats.l0 k1 l0 (l0.length : Int) (wrap64 (x13_1 + 1))) = some r := by rw [if_pos rfl] at H; exact H
      clear H
      have H := H1
      clear H1
      have H' := Aside0.mk H
      clear H
      have p594 : 0 ≤ (x13_1 : Int) := oa
      have q594 : x13_1 < (l0.length : Int) := oa
      obtain ⟨ad594, e594, hx594_0, hx594_1, hx594_2⟩ := at_T23 HR0.out x13_1 p594 q594
      cases e594
      try replace hx594_0 := (HB.out.cell (World.block_lt_of_cell? w _ hx594_0)).trans hx594_0
      try replace hx594_1 := (HB.out.cell (World.block_lt_of_cell? w _ hx594_1)).trans hx594_1
      try replace hx594_2 := (HB.out.cell (World.block_lt_of_cell? w _ hx594_2)).trans hx594_2
      replace p594 := eq_true p594
      replace q594 := eq_true q594
      go_wp2_with (first | ((with_reducible refine gd 6 rfl ?_); refine bx 6 (#[.bool false, .string (⟨#[]⟩ : ByteArray), .string (⟨#[]⟩ : ByteArray)]) 23 ?_; intro gb595 hg w9 hbox hb; have BK595 := Aside0.mk (hbox); have GW595 := sg hg HB.out; have GE595 := sg hg HB.out; replace HB := Aside0.mk (bs HB.out hb); clear hb hbox hg; obtain ⟨hcz10_0, hcz10_1, hcz10_2, hfz10_0, hfz10_1, hfz10_2⟩ := c3 BK595.out) | ((with_reducible refine gc 42 rfl ?_); refine gl (some 18) Tryd.func42 #[.agg #[.bool ((rd_T23 l0 x13_1).f0), .string ((rd_T23 l0 x13_1).f1), .string ((rd_T23 l0 x13_1).f2)]] ?_; (with_reducible refine (insolvencylaw0_Few.calls ((rd_T23 l0 x13_1).f0) ((rd_T23 l0 x13_1).f1) ((rd_T23 l0 x13_1).f2) true _ A7.out).mono ?_); rintro e w11 ⟨rfl, hb⟩; refine ⟨_, rfl, ?_⟩; replace BK595 := Aside0.mk (bk BK595.out hb (.cells #[.bool ((rd_T23 l0 x13_1).f0), .string ((rd_T23 l0 x13_1).f1), .string ((rd_T23 l0 x13_1).f2)] 23 (0, 0))); replace HB := Aside0.mk (bs HB.out hb); (try clear hb)))
      go_roundg k1
      case measure => have := HK1.out; omega
      case rel => exact ⟨(wrap64 (x13_1 + 1)), fs, H', ⟨by have := HK1.out; omega⟩, ⟨bz HB.out⟩⟩
     ·replace c8 := Bool.eq_false_iff.mpr c8
      subst c8
      have H1 : (some false) = some r := by rw [if_neg (show ¬ (false = true) by decide)] at H; exact H
      clear H
      have H := H1
      clear H1
      obtain rfl := Option.some.inj H
      have p594 : 0 ≤ (x13_1 : Int) := oa
      have q594 : x13_1 < (l0.length : Int) := oa
      obtain ⟨ad594, e594, hx594_0, hx594_1, hx594_2⟩ := at_T23 HR0.out x13_1 p594 q594
      cases e594
      try replace hx594_0 := (HB.out.cell (World.block_lt_of_cell? w _ hx594_0)).trans hx594_0
      try replace hx594_1 := (HB.out.cell (World.block_lt_of_cell? w _ hx594_1)).trans hx594_1
      try replace hx594_2 := (HB.out.cell (World.block_lt_of_cell? w _ hx594_2)).trans hx594_2
      replace p594 := eq_true p594
      replace q594 := eq_true q594
      go_wp2_with (first | ((with_reducible refine gd 6 rfl ?_); refine bx 6 (#[.bool false, .string (⟨#[]⟩ : ByteArray), .string (⟨#[]⟩ : ByteArray)]) 23 ?_; intro gb595 hg w12 hbox hb; have BK595 := Aside0.mk (hbox); have GW595 := sg hg HB.out; have GE595 := sg hg HB.out; replace HB := Aside0.mk (bs HB.out hb); clear hb hbox hg; obtain ⟨hcz13_0, hcz13_1, hcz13_2, hfz13_0, hfz13_1, hfz13_2⟩ := c3 BK595.out) | ((with_reducible refine gc 42 rfl ?_); refine gl (some 18) Tryd.func42 #[.agg #[.bool ((rd_T23 l0 x13_1).f0), .string ((rd_T23 l0 x13_1).f1), .string ((rd_T23 l0 x13_1).f2)]] ?_; (with_reducible refine (insolvencylaw0_Few.calls ((rd_T23 l0 x13_1).f0) ((rd_T23 l0 x13_1).f1) ((rd_T23 l0 x13_1).f2) false _ A7.out).mono ?_); rintro e w14 ⟨rfl, hb⟩; refine ⟨_, rfl, ?_⟩; replace BK595 := Aside0.mk (bk BK595.out hb (.cells #[.bool ((rd_T23 l0 x13_1).f0), .string ((rd_T23 l0 x13_1).f1), .string ((rd_T23 l0 x13_1).f2)] 23 (0, 0))); replace HB := Aside0.mk (bs HB.out hb); (try clear hb)))
      go_ret
      exact ⟨fe, bz HB.out⟩
    ·rw [if_neg c4] at H
     have c4b0 : decide (x13_1 < (l0.length : Int)) = false := decide_eq_false c4
     clear c4
     obtain rfl := Option.some.inj H
     go_wp2
     go_ret
     exact ⟨fe, bz HB.out⟩

/-! ### insolvencylaw2_few: function 7 -/
def insolvencylaw2_few.f (k : Nat) (l0 : List (S23)) : Option (Bool) := (insolvencylaw0_FewRats.f k l0 8).bind fun t597 => (some t597)
theorem insolvencylaw2_few.mono : ∀ a0 k, LeO (insolvencylaw2_few.f k a0) (insolvencylaw2_few.f (k + 1) a0) := by
 intro a0 k
 unfold insolvencylaw2_few.f
 repeat' first
   | (with_reducible exact insolvencylaw0_FewRats.mono _ _ _)
   | (with_reducible exact LeO.refl _)
   | (with_reducible exact LeO.none _)
   | (with_reducible refine LeO.ite ?_ ?_)
   | (with_reducible refine LeO.bind ?_ (fun _ => ?_))
   | exact insolvencylaw0_FewRats.mono _ _ _
   | exact LeO.none _
   | refine LeO.ite ?_ ?_
   | refine LeO.bind ?_ (fun _ => ?_)
set_option maxHeartbeats 8000000 in
set_option maxRecDepth 100000 in
theorem insolvencylaw2_few.calls (k : Nat) (A0 : Option Addr) (c0 : Nat) (l0 : List (S23)) (r : Bool) (w : World) (hr0 : Kd.C k23 w A0 l0.length l0) (hc0 : l0.length ≤ c0) (h : insolvencylaw2_few.f k l0 = some r) :
  Calls Tryd.prog 7 #[.slice A0 l0.length c0] w fun e w' => e = .returned (.bool r) ∧ Below w.heap.size w w' := by
 have HR0 := Aside0.mk hr0
 have HC0 := Aside0.mk hc0
 clear hr0 hc0
 have HB := Aside0.mk (Below.refl w.heap.size w)
 have H := h
 clear h
 unfold insolvencylaw2_few.f at H
 obtain ⟨t597, A2, H⟩ := bs1 H
 obtain rfl := Option.some.inj H
 go_enter Tryd.func7, Tryd.ntmps7
 go_wp2_with (first | ((with_reducible refine gc 20 rfl ?_); refine gl (some 4) Tryd.func20 #[.slice A0 l0.length c0, .int .i64 8] ?_; (with_reducible refine (insolvencylaw0_FewRats.calls k _ _ l0 8 t597 _ ?side1 ?side2 A2.out).mono ?_); (case side1 => repeat (first | exact HR0.out | (with_reducible refine Kd.C_alloc ?_ _) | (with_reducible refine Kd.C_drewN ?_ _) | (with_reducible refine Kd.C_drew ?_))); (case side2 => exact HC0.out); rintro e w3 ⟨rfl, hb⟩; refine ⟨_, rfl, ?_⟩; replace HB := Aside0.mk (bs HB.out hb); (try clear hb)))
 go_ret
 exact ⟨fe, bz HB.out⟩

/-! ### rational_signOf: function 38 -/
def rational_signOf.f (a0_0 : Bool) (a0_1 : ByteArray) (a0_2 : ByteArray) : Option (Int) := if a0_1.toList = ([] : List UInt8) then (some 0) else (if a0_0 = true then (some (-1)) else (some 1))
set_option maxHeartbeats 8000000 in
set_option maxRecDepth 100000 in
theorem rational_signOf.calls (a0_0 : Bool) (a0_1 : ByteArray) (a0_2 : ByteArray) (r : Int) (w : World) (h : rational_signOf.f a0_0 a0_1 a0_2 = some r) :
  Calls Tryd.prog 38 #[.agg #[.bool a0_0, .string a0_1, .string a0_2]] w fun e w' => e = .returned (.int .i64 r) ∧ Below w.heap.size w w' := by
 have hu23 := Tryd.underlying23
 have HB := Aside0.mk (Below.refl w.heap.size w)
 have H := h
 clear h
 unfold rational_signOf.f at H
 by_cases c2 : a0_1.toList = ([] : List UInt8)
 ·rw [if_pos c2] at H
  have c2b0 := beq_iff_eq.mpr c2
  have c2b1 := bne_eq_false_iff_eq.mpr c2
  clear c2
  obtain rfl := Option.some.inj H
  go_enter Tryd.func38, Tryd.ntmps38
  go_wp2_with (first | ((with_reducible refine gd 1 rfl ?_); refine bx 1 (#[.bool a0_0, .string a0_1, .string a0_2]) 23 ?_; intro gb598 hg w3 hbox hb; have BK598 := Aside0.mk (hbox); have GW598 := sg hg HB.out; have GE598 := sg hg HB.out; replace HB := Aside0.mk (bs HB.out hb); clear hb hbox hg; obtain ⟨hcz4_0, hcz4_1, hcz4_2, hfz4_0, hfz4_1, hfz4_2⟩ := c3 BK598.out))
  go_ret
  exact ⟨fe, bz HB.out⟩
 ·rw [if_neg c2] at H
  have c2b0 := beq_eq_false_iff_ne.mpr c2
  have c2b1 := bne_iff_ne.mpr c2
  by_cases c5 : a0_0 = true
  ·subst c5
   have H1 : (some (-1)) = some r := by rw [if_pos rfl] at H; exact H
   clear H
   have H := H1
   clear H1
   obtain rfl := Option.some.inj H
   go_enter Tryd.func38, Tryd.ntmps38
   go_wp2_with (first | ((with_reducible refine gd 1 rfl ?_); refine bx 1 (#[.bool true, .string a0_1, .string a0_2]) 23 ?_; intro gb598 hg w6 hbox hb; have BK598 := Aside0.mk (hbox); have GW598 := sg hg HB.out; have GE598 := sg hg HB.out; replace HB := Aside0.mk (bs HB.out hb); clear hb hbox hg; obtain ⟨hcz7_0, hcz7_1, hcz7_2, hfz7_0, hfz7_1, hfz7_2⟩ := c3 BK598.out))
   go_ret
   exact ⟨fe, bz HB.out⟩
  ·replace c5 := Bool.eq_false_iff.mpr c5
   subst c5
   have H1 : (some 1) = some r := by rw [if_neg (show ¬ (false = true) by decide)] at H; exact H
   clear H
   have H := H1
   clear H1
   obtain rfl := Option.some.inj H
   go_enter Tryd.func38, Tryd.ntmps38
   go_wp2_with (first | ((with_reducible refine gd 1 rfl ?_); refine bx 1 (#[.bool false, .string a0_1, .string a0_2]) 23 ?_; intro gb598 hg w8 hbox hb; have BK598 := Aside0.mk (hbox); have GW598 := sg hg HB.out; have GE598 := sg hg HB.out; replace HB := Aside0.mk (bs HB.out hb); clear hb hbox hg; obtain ⟨hcz9_0, hcz9_1, hcz9_2, hfz9_0, hfz9_1, hfz9_2⟩ := c3 BK598.out))
   go_ret
   exact ⟨fe, bz HB.out⟩

-- NOT PRINTED: function 106 (bytealg_abigen_runtime_cmpstring)

-- NOT PRINTED: function 91 (bytealg_CompareString)

/-! ### strings_Compare: function 63 (by hand) -/
def strings_Compare.f (a0 : ByteArray) (a1 : ByteArray) : Option (Int) := some (Lib.compareBytes a0.data.toList a1.data.toList)
theorem strings_Compare.calls (a0 : ByteArray) (a1 : ByteArray) (r : Int) (w : World) (h : strings_Compare.f a0 a1 = some r) :
  Calls Tryd.prog 63 #[.string a0, .string a1] w fun e w' => e = .returned (.int .i64 r) ∧ Drawn0 w w' := by
 obtain rfl := Option.some.inj h
 exact (Tryd.strings_Compare a0 a1 w).mono fun e w' ⟨he, hw⟩ => ⟨he, hw ▸ Drawn0.refl _⟩


/-! ### natural_Compare: function 39 -/
def natural_Compare.f (k : Nat) (a0 : ByteArray) (a1 : ByteArray) : Option (Int) := (natural_Normalize.f k a0).bind fun t599 => ((natural_Normalize.f k a1).bind fun t600 => (if (t599.size : Int) = (t600.size : Int) then ((strings_Compare.f t599 t600).bind fun t601 => (some t601)) else ((natural_sign.f (wrap64 ((t599.size : Int) - (t600.size : Int)))).bind fun t602 => (some t602))))
theorem natural_Compare.mono : ∀ a0 a1 k, LeO (natural_Compare.f k a0 a1) (natural_Compare.f (k + 1) a0 a1) := by
 intro a0 a1 k
 unfold natural_Compare.f
 repeat' first
   | (with_reducible exact natural_Normalize.mono _ _)
   | (with_reducible exact LeO.refl _)
   | (with_reducible exact LeO.none _)
   | (with_reducible refine LeO.ite ?_ ?_)
   | (with_reducible refine LeO.bind ?_ (fun _ => ?_))
   | exact natural_Normalize.mono _ _
   | exact LeO.none _
   | refine LeO.ite ?_ ?_
   | refine LeO.bind ?_ (fun _ => ?_)
set_option maxHeartbeats 8000000 in
set_option maxRecDepth 100000 in
theorem natural_Compare.calls (k : Nat) (a0 : ByteArray) (a1 : ByteArray) (r : Int) (w : World) (h : natural_Compare.f k a0 a1 = some r) :
  Calls Tryd.prog 39 #[.string a0, .string a1] w fun e w' => e = .returned (.int .i64 r) ∧ Below w.heap.size w w' := by
 have HB := Aside0.mk (Below.refl w.heap.size w)
 have H := h
 clear h
 unfold natural_Compare.f at H
 obtain ⟨t599, A3, H⟩ := bs1 H
 obtain ⟨t600, A4, H⟩ := bs1 H
 by_cases c5 : (t599.size : Int) = (t600.size : Int)
 ·rw [if_pos c5] at H
  have c5b0 := beq_iff_eq.mpr c5
  have c5b1 := bne_eq_false_iff_eq.mpr c5
  have c5b2 : (t599.size == t600.size) = true := by first | simpa using c5 | (simp at c5 ⊢; omega)
  clear c5
  obtain ⟨t601, A6, H⟩ := bs1 H
  obtain rfl := Option.some.inj H
  go_enter Tryd.func39, Tryd.ntmps39
  go_wp2_with (first | ((with_reducible refine gc 26 rfl ?_); refine gl (some 6) Tryd.func26 #[.string a0] ?_; (with_reducible refine (natural_Normalize.calls k a0 t599 _ A3.out).mono ?_); rintro e w7 ⟨rfl, hb⟩; refine ⟨_, rfl, ?_⟩; replace HB := Aside0.mk (bs HB.out hb); (try clear hb)) | ((with_reducible refine gc 26 rfl ?_); refine gl (some 8) Tryd.func26 #[.string a1] ?_; (with_reducible refine (natural_Normalize.calls k a1 t600 _ A4.out).mono ?_); rintro e w8 ⟨rfl, hb⟩; refine ⟨_, rfl, ?_⟩; replace HB := Aside0.mk (bs HB.out hb); (try clear hb)) | ((with_reducible refine gc 63 rfl ?_); refine gl (some 22) Tryd.func63 #[.string t599, .string t600] ?_; (with_reducible refine (strings_Compare.calls t599 t600 t601 _ A6.out).mono ?_); rintro e w' ⟨rfl, ⟨nd, rfl⟩⟩; refine ⟨_, rfl, ?_⟩))
  go_ret
  exact ⟨fe, bz HB.out⟩
 ·rw [if_neg c5] at H
  have c5b0 := beq_eq_false_iff_ne.mpr c5
  have c5b1 := bne_iff_ne.mpr c5
  have c5b2 : (t599.size == t600.size) = false := by first | simpa using c5 | (simp at c5 ⊢; omega)
  obtain ⟨t602, A9, H⟩ := bs1 H
  obtain rfl := Option.some.inj H
  go_enter Tryd.func39, Tryd.ntmps39
  go_wp2_with (first | ((with_reducible refine gc 26 rfl ?_); refine gl (some 6) Tryd.func26 #[.string a0] ?_; (with_reducible refine (natural_Normalize.calls k a0 t599 _ A3.out).mono ?_); rintro e w10 ⟨rfl, hb⟩; refine ⟨_, rfl, ?_⟩; replace HB := Aside0.mk (bs HB.out hb); (try clear hb)) | ((with_reducible refine gc 26 rfl ?_); refine gl (some 8) Tryd.func26 #[.string a1] ?_; (with_reducible refine (natural_Normalize.calls k a1 t600 _ A4.out).mono ?_); rintro e w11 ⟨rfl, hb⟩; refine ⟨_, rfl, ?_⟩; replace HB := Aside0.mk (bs HB.out hb); (try clear hb)) | ((with_reducible refine gc 62 rfl ?_); refine gl (some 19) Tryd.func62 #[.int .i64 (wrap64 ((t599.size : Int) - (t600.size : Int)))] ?_; (with_reducible refine (natural_sign.calls (wrap64 ((t599.size : Int) - (t600.size : Int))) t602 _ A9.out).mono ?_); rintro e w' ⟨rfl, ⟨nd, rfl⟩⟩; refine ⟨_, rfl, ?_⟩))
  go_ret
  exact ⟨fe, bz HB.out⟩

end Go.Proofs.YtgepdnoaemeofaaDoor.E
