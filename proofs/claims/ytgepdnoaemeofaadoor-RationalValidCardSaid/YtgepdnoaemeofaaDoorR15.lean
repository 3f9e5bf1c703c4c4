/- Printed by a program of this session (wip/tools) out of the translation: plain functions and the proofs that the code comes to their answers. -/
import Derived.Test.YtgepdnoaemeofaaDoorK
import Derived.Test.YtgepdnoaemeofaaDoorR0
import Derived.Test.YtgepdnoaemeofaaDoorR7
import Derived.Test.YtgepdnoaemeofaaDoorR11
import Derived.Test.YtgepdnoaemeofaaDoorR13
import Derived.Test.YtgepdnoaemeofaaDoorR14
namespace Go.Proofs.YtgepdnoaemeofaaDoor.R
open Go.RowKit Go.Proofs.YtgepdnoaemeofaaDoorW.PrintWords Go.Proofs.YtgepdnoaemeofaaDoorW.PrintLast Go.Proofs.YtgepdnoaemeofaaDoorW.PrintMore Go.Proofs.YtgepdnoaemeofaaDoorW.PK
attribute [local go_sem] max2_int min2_int max_two min_two max_three min_three max_four min_four   -- for this text's walks alone
set_option linter.unusedVariables false
set_option linter.unusedSimpArgs false

/-! ### insolvencylaw2_awake: function 8 -/
def insolvencylaw2_awake.f (k : Nat)  : Option (Bool) := (rational_Fraction.f k 6 (-4)).bind fun bt441 => ((rational_Parse.f k (⟨#[51, 46, 50, 53, 48]⟩ : ByteArray)).bind fun bt446 => ((rational_Fraction.f k (-2) 3).bind fun bt451 => (if bt441.2.2.2 = true then ((rational_Format.f k bt441.1 bt441.2.1 bt441.2.2.1).bind fun t456 => (if t456.toList = ([45, 51, 47, 50] : List UInt8) then ((rational_Floor.f k bt441.1 bt441.2.1 bt441.2.2.1).bind fun bt457 => ((rational_Format.f k bt457.1 bt457.2.1 bt457.2.2).bind fun t460 => (if t460.toList = ([45, 50] : List UInt8) then (if bt446.2.2.2 = 0 then ((rational_Format.f k bt446.1 bt446.2.1 bt446.2.2.1).bind fun t461 => (if t461.toList = ([49, 51, 47, 52] : List UInt8) then ((rational_Decimal.f k bt451.1 bt451.2.1 bt451.2.2.1 2).bind fun t462 => (some (t462.toList == ([45, 48, 46, 54, 54] : List UInt8)))) else (some false))) else (some false)) else (some false)))) else (some false))) else (some false))))
theorem insolvencylaw2_awake.mono : ∀ k, LeO (insolvencylaw2_awake.f k ) (insolvencylaw2_awake.f (k + 1) ) := by
 intro  k
 unfold insolvencylaw2_awake.f
 repeat' with_reducible first | exact rational_Decimal.mono _ _ _ _ _ | exact rational_Floor.mono _ _ _ _ | exact rational_Format.mono _ _ _ _ | exact rational_Fraction.mono _ _ _ | exact rational_Parse.mono _ _ | exact LeO.refl _ | exact LeO.none _ | refine LeO.ite ?_ ?_ | refine LeO.bind ?_ (fun _ => ?_)
set_option maxHeartbeats 8000000 in
set_option maxRecDepth 100000 in
theorem insolvencylaw2_awake.calls (k : Nat)  (r : Bool) (w : World) (h : insolvencylaw2_awake.f k  = some r) (hr : r = true := by first | rfl | assumption) :
  Calls Tryd.prog 8 #[] w fun e w' => e = .returned (.bool r) ∧ Below w.heap.size w w' := by
 have hu23 := Tryd.underlying23
 have HB := Aside0.mk (Below.refl w.heap.size w)
 have H := h
 clear h
 unfold insolvencylaw2_awake.f at H
 obtain ⟨⟨t441, t442, t443, t444⟩, A1, H⟩ := bs1 H; dsimp only at H
 obtain ⟨⟨t446, t447, t448, t449⟩, A2, H⟩ := bs1 H; dsimp only at H
 obtain ⟨⟨t451, t452, t453, t454⟩, A3, H⟩ := bs1 H; dsimp only at H
 by_cases c4 : t444 = true
 ·subst c4
  have H1 : ((rational_Format.f k t441 t442 t443).bind fun t456 => (if t456.toList = ([45, 51, 47, 50] : List UInt8) then ((rational_Floor.f k t441 t442 t443).bind fun bt457 => ((rational_Format.f k bt457.1 bt457.2.1 bt457.2.2).bind fun t460 => (if t460.toList = ([45, 50] : List UInt8) then (if t449 = 0 then ((rational_Format.f k t446 t447 t448).bind fun t461 => (if t461.toList = ([49, 51, 47, 52] : List UInt8) then ((rational_Decimal.f k t451 t452 t453 2).bind fun t462 => (some (t462.toList == ([45, 48, 46, 54, 54] : List UInt8)))) else (some false))) else (some false)) else (some false)))) else (some false))) = some r := by rw [if_pos rfl] at H; exact H
  clear H
  have H := H1
  clear H1
  obtain ⟨t456, A5, H⟩ := bs1 H
  by_cases c6 : t456.toList = ([45, 51, 47, 50] : List UInt8)
  ·rw [if_pos c6] at H
   have c6b0 := beq_iff_eq.mpr c6
   have c6b1 := bne_eq_false_iff_eq.mpr c6
   clear c6
   obtain ⟨⟨t457, t458, t459⟩, A7, H⟩ := bs1 H; dsimp only at H
   obtain ⟨t460, A8, H⟩ := bs1 H
   by_cases c9 : t460.toList = ([45, 50] : List UInt8)
   ·rw [if_pos c9] at H
    have c9b0 := beq_iff_eq.mpr c9
    have c9b1 := bne_eq_false_iff_eq.mpr c9
    clear c9
    by_cases c10 : t449 = 0
    ·rw [if_pos c10] at H
     have c10b0 := beq_iff_eq.mpr c10
     have c10b1 := bne_eq_false_iff_eq.mpr c10
     clear c10
     obtain ⟨t461, A11, H⟩ := bs1 H
     by_cases c12 : t461.toList = ([49, 51, 47, 52] : List UInt8)
     ·rw [if_pos c12] at H
      have c12b0 := beq_iff_eq.mpr c12
      have c12b1 := bne_eq_false_iff_eq.mpr c12
      clear c12
      obtain ⟨t462, A13, H⟩ := bs1 H
      obtain rfl := Option.some.inj H
      go_enter Tryd.func8, Tryd.ntmps8
      go_wp2_with (first | ((with_reducible refine gc 21 rfl ?_); refine gl (some 8) Tryd.func21 #[.int .i64 6, .int .i64 (-4)] ?_; (with_reducible refine (rational_Fraction.calls k 6 (-4) t441 t442 t443 true _ A1.out).mono ?_); rintro e w14 ⟨rfl, hb⟩; refine ⟨_, rfl, ?_⟩; replace HB := Aside0.mk (bs HB.out hb); (try clear hb)) | ((with_reducible refine gd 1 rfl ?_); refine bx 1 (#[.bool false, .string (⟨#[]⟩ : ByteArray), .string (⟨#[]⟩ : ByteArray)]) 23 ?_; intro gb445 hg w15 hbox hb; have BK445 := Aside0.mk (hbox); have GW445 := sg hg HB.out; have GE445 := sg hg HB.out; replace HB := Aside0.mk (bs HB.out hb); clear hb hbox hg; obtain ⟨hcz16_0, hcz16_1, hcz16_2, hfz16_0, hfz16_1, hfz16_2⟩ := c3 BK445.out) | ((with_reducible refine gc 22 rfl ?_); refine gl (some 12) Tryd.func22 #[.string (⟨#[51, 46, 50, 53, 48]⟩ : ByteArray)] ?_; (with_reducible refine (rational_Parse.calls k (⟨#[51, 46, 50, 53, 48]⟩ : ByteArray) t446 t447 t448 t449 _ A2.out).mono ?_); rintro e w17 ⟨rfl, hb⟩; refine ⟨_, rfl, ?_⟩; replace BK445 := Aside0.mk (bk BK445.out hb (.cells #[.bool t441, .string t442, .string t443] 23 (0, 0))); replace HB := Aside0.mk (bs HB.out hb); (try clear hb)) | ((with_reducible refine gd 3 rfl ?_); refine bx 3 (#[.bool false, .string (⟨#[]⟩ : ByteArray), .string (⟨#[]⟩ : ByteArray)]) 23 ?_; intro gb450 hg w18 hbox hb; have BK450 := Aside0.mk (hbox); have GW450 := sg hg HB.out; have GE450 := sg hg HB.out; replace HB := Aside0.mk (bs HB.out hb); have NB445_450 := nl hg BK445.out; have NB450_445 := nr hg BK445.out; replace BK445 := Aside0.mk (bk0 BK445.out hb); clear hb hbox hg; have hnb19 := NB450_445.out; have hnc19 := NB445_450.out; obtain ⟨hcz20_0, hcz20_1, hcz20_2, hfz20_0, hfz20_1, hfz20_2⟩ := c3 BK450.out) | ((with_reducible refine gc 21 rfl ?_); refine gl (some 16) Tryd.func21 #[.int .i64 (-2), .int .i64 3] ?_; (with_reducible refine (rational_Fraction.calls k (-2) 3 t451 t452 t453 t454 _ A3.out).mono ?_); rintro e w21 ⟨rfl, hb⟩; refine ⟨_, rfl, ?_⟩; replace BK445 := Aside0.mk (bk0 BK445.out hb); replace BK450 := Aside0.mk (bk BK450.out hb (.cells #[.bool t446, .string t447, .string t448] 23 (0, 0))); replace HB := Aside0.mk (bs HB.out hb); (try clear hb)) | ((with_reducible refine gd 5 rfl ?_); refine bx 5 (#[.bool false, .string (⟨#[]⟩ : ByteArray), .string (⟨#[]⟩ : ByteArray)]) 23 ?_; intro gb455 hg w22 hbox hb; have BK455 := Aside0.mk (hbox); have GW455 := sg hg HB.out; have GE455 := sg hg HB.out; replace HB := Aside0.mk (bs HB.out hb); have NB445_455 := nl hg BK445.out; have NB455_445 := nr hg BK445.out; replace BK445 := Aside0.mk (bk0 BK445.out hb); have NB450_455 := nl hg BK450.out; have NB455_450 := nr hg BK450.out; replace BK450 := Aside0.mk (bk0 BK450.out hb); clear hb hbox hg; have hnb23 := NB455_445.out; have hnc23 := NB445_455.out; have hnb24 := NB455_450.out; have hnc24 := NB450_455.out; obtain ⟨hcz25_0, hcz25_1, hcz25_2, hfz25_0, hfz25_1, hfz25_2⟩ := c3 BK455.out; obtain ⟨hcz26_0, hcz26_1, hcz26_2, hfz26_0, hfz26_1, hfz26_2⟩ := c3 BK445.out) | (go_at_call 23; (with_reducible refine (rational_Format.calls k t441 t442 t443 t456 _ A5.out).mono ?_); rintro e w27 ⟨rfl, hb⟩; replace BK445 := Aside0.mk (bk0 BK445.out hb); replace BK450 := Aside0.mk (bk0 BK450.out hb); replace BK455 := Aside0.mk (bk BK455.out hb (.cells #[.bool t451, .string t452, .string t453] 23 (0, 0))); replace HB := Aside0.mk (bs HB.out hb); (try clear hb); obtain ⟨hcz28_0, hcz28_1, hcz28_2, hfz28_0, hfz28_1, hfz28_2⟩ := c3 BK445.out) | (go_at_call 24; (with_reducible refine (rational_Floor.calls k t441 t442 t443 t457 t458 t459 _ A7.out).mono ?_); rintro e w29 ⟨rfl, hb⟩; replace BK445 := Aside0.mk (bk0 BK445.out hb); replace BK450 := Aside0.mk (bk0 BK450.out hb); replace BK455 := Aside0.mk (bk0 BK455.out hb); replace HB := Aside0.mk (bs HB.out hb); (try clear hb)) | (go_at_call 23; (with_reducible refine (rational_Format.calls k t457 t458 t459 t460 _ A8.out).mono ?_); rintro e w30 ⟨rfl, hb⟩; replace BK445 := Aside0.mk (bk0 BK445.out hb); replace BK450 := Aside0.mk (bk0 BK450.out hb); replace BK455 := Aside0.mk (bk0 BK455.out hb); replace HB := Aside0.mk (bs HB.out hb); (try clear hb); obtain ⟨hcz31_0, hcz31_1, hcz31_2, hfz31_0, hfz31_1, hfz31_2⟩ := c3 BK450.out) | (go_at_call 23; (with_reducible refine (rational_Format.calls k t446 t447 t448 t461 _ A11.out).mono ?_); rintro e w32 ⟨rfl, hb⟩; replace BK445 := Aside0.mk (bk0 BK445.out hb); replace BK450 := Aside0.mk (bk0 BK450.out hb); replace BK455 := Aside0.mk (bk0 BK455.out hb); replace HB := Aside0.mk (bs HB.out hb); (try clear hb); obtain ⟨hcz33_0, hcz33_1, hcz33_2, hfz33_0, hfz33_1, hfz33_2⟩ := c3 BK455.out) | (go_at_call 25; (with_reducible refine (rational_Decimal.calls k t451 t452 t453 2 t462 _ A13.out).mono ?_); rintro e w34 ⟨rfl, hb⟩; replace BK445 := Aside0.mk (bk0 BK445.out hb); replace BK450 := Aside0.mk (bk0 BK450.out hb); replace BK455 := Aside0.mk (bk0 BK455.out hb); replace HB := Aside0.mk (bs HB.out hb); (try clear hb)))
      go_ret
      exact ⟨fe, bz HB.out⟩
     ·rw [if_neg c12] at H
      exact nf hr H
    ·rw [if_neg c10] at H
     exact nf hr H
   ·rw [if_neg c9] at H
    exact nf hr H
  ·rw [if_neg c6] at H
   exact nf hr H
 ·replace c4 := Bool.eq_false_iff.mpr c4
  subst c4
  have H1 : (some false) = some r := by rw [if_neg (show ¬ (false = true) by decide)] at H; exact H
  clear H
  have H := H1
  clear H1
  exact nf hr H/-! ### insolvencyref1_Normalize: function 28 -/
def insolvencyref1_Normalize.l0 : Nat → ByteArray → Int → Option (ByteArray)
 | 0, _, _ => none
 | k + 1, x0, x3 => if x3 < (x0.size : Int) then (if 0 ≤ x3 then (if (bt x0 x3) = 0 then (insolvencyref1_Normalize.l0 k x0 (wrap64 (x3 + 1))) else (if x3 ≤ (x0.size : Int) then (some (x0.extract (x3 : Int).toNat x0.size)) else (none))) else (none)) else (if 0 ≤ x3 then (if x3 ≤ (x0.size : Int) then (some (x0.extract (x3 : Int).toNat x0.size)) else (none)) else (none))
def insolvencyref1_Normalize.f (k : Nat) (a0 : ByteArray) : Option (ByteArray) := insolvencyref1_Normalize.l0 k a0 0
theorem insolvencyref1_Normalize.mono_l : ∀ k, (∀ y0 y1, LeO (insolvencyref1_Normalize.l0 k y0 y1) (insolvencyref1_Normalize.l0 (k + 1) y0 y1))
 | 0 => fun _ _ r h => by simp [insolvencyref1_Normalize.l0] at h
 | k + 1 => by
  have ih0 := insolvencyref1_Normalize.mono_l k
  ·intro y0 y1
   unfold insolvencyref1_Normalize.l0
   repeat' with_reducible first | exact ih0 _ _ | exact LeO.refl _ | exact LeO.none _ | refine LeO.ite ?_ ?_ | refine LeO.bind ?_ (fun _ => ?_)
theorem insolvencyref1_Normalize.mono : ∀ a0 k, LeO (insolvencyref1_Normalize.f k a0) (insolvencyref1_Normalize.f (k + 1) a0) := by
 intro a0 k
 have ih0 := insolvencyref1_Normalize.mono_l k
 unfold insolvencyref1_Normalize.f
 repeat' with_reducible first | exact ih0 _ _ | exact LeO.refl _ | exact LeO.none _ | refine LeO.ite ?_ ?_ | refine LeO.bind ?_ (fun _ => ?_)
set_option maxHeartbeats 8000000 in
set_option maxRecDepth 100000 in
theorem insolvencyref1_Normalize.calls (k : Nat) (a0 : ByteArray) (r : ByteArray) (w : World) (h : insolvencyref1_Normalize.f k a0 = some r) :
  Calls Tryd.prog 28 #[.string a0] w fun e w' => e = .returned (.string r) ∧ Drawn0 w w' := by
 have H := h
 clear h
 unfold insolvencyref1_Normalize.f at H
 have H' := Aside0.mk H
 clear H
 go_enter Tryd.func28, Tryd.ntmps28
 go_wp2
 go_loopg [3] k (fun kq v3 w' => ∃ (x3_1 : Int), v3 = .int .i64 x3_1 ∧ Aside0 (insolvencyref1_Normalize.l0 kq a0 x3_1 = some r) ∧ Aside0 (kq ≤ k) ∧ Drawn0 w w')
 case atStart => exact ⟨(0), fs, H', ⟨Nat.le_refl _⟩, dz⟩
 case round =>
  clear H'
  obtain ⟨x3_1, rfl, HA, HK1, ⟨m1, rfl⟩⟩ := hrel
  cases gk with
  | zero => exact absurd HA.out (by simp [insolvencyref1_Normalize.l0])
  | succ k1 =>
   have H := HA.out
   clear HA
   simp only [insolvencyref1_Normalize.l0] at H
   by_cases c2 : x3_1 < (a0.size : Int)
   ·rw [if_pos c2] at H
    have c2b0 : decide (x3_1 < (a0.size : Int)) = true := decide_eq_true c2
    clear c2
    obtain ⟨c3, H⟩ := iN H
    have c3b0 : decide (0 ≤ x3_1) = true := decide_eq_true c3
    clear c3
    by_cases c5 : (bt a0 x3_1) = 0
    ·rw [if_pos c5] at H
     have c5b0 := beq_iff_eq.mpr c5
     have c5b1 := bne_eq_false_iff_eq.mpr c5
     clear c5
     have H' := Aside0.mk H
     clear H
     have p4 : 0 ≤ (x3_1 : Int) := oa
     have q4 : x3_1 < (a0.size : Int) := oa
     have hx4 := bt_at a0 x3_1
     replace p4 := eq_true p4
     replace q4 := eq_true q4
     go_wp2
     go_roundg k1
     case measure => have := HK1.out; omega
     case rel => exact ⟨(wrap64 (x3_1 + 1)), fs, H', ⟨by have := HK1.out; omega⟩, dz⟩
    ·rw [if_neg c5] at H
     have c5b0 := beq_eq_false_iff_ne.mpr c5
     have c5b1 := bne_iff_ne.mpr c5
     have c6b0 := eq_true (oa : 0 ≤ x3_1)
     obtain ⟨c7, H⟩ := iN H
     have c7b0 := eq_true c7
     have c7b1 : decide (x3_1 ≤ (a0.size : Int)) = true := decide_eq_true c7
     clear c7
     obtain rfl := Option.some.inj H
     have p4 : 0 ≤ (x3_1 : Int) := oa
     have q4 : x3_1 < (a0.size : Int) := oa
     have hx4 := bt_at a0 x3_1
     replace p4 := eq_true p4
     replace q4 := eq_true q4
     go_wp2
     go_ret
     exact ⟨fs, dz⟩
   ·rw [if_neg c2] at H
    have c2b0 : decide (x3_1 < (a0.size : Int)) = false := decide_eq_false c2
    clear c2
    obtain ⟨c8, H⟩ := iN H
    have c8b0 := eq_true c8
    have c8b1 : decide (0 ≤ x3_1) = true := decide_eq_true c8
    clear c8
    obtain ⟨c9, H⟩ := iN H
    have c9b0 := eq_true c9
    have c9b1 : decide (x3_1 ≤ (a0.size : Int)) = true := decide_eq_true c9
    clear c9
    obtain rfl := Option.some.inj H
    go_wp2
    go_ret
    exact ⟨fs, dz⟩

/-! ### insolvencyref1_limbs: function 31 -/
def insolvencyref1_limbs.l0 : Nat → ByteArray → List Int → Int → Option (List Int)
 | 0, _, _, _ => none
 | k + 1, x0, x3, x4 => if x4 < (x0.size : Int) then (if 0 ≤ (wrap64 (Int.tdiv x4 4)) then (if (wrap64 (Int.tdiv x4 4)) < (x3.length : Int) then (if 0 ≤ (wrap64 ((wrap64 ((x0.size : Int) - 1)) - x4)) then (if (wrap64 ((wrap64 ((x0.size : Int) - 1)) - x4)) < (x0.size : Int) then (if 0 ≤ (IntKind.u64.wrap (wrap64 (8 * (Int.tmod x4 4)))) then (insolvencyref1_limbs.l0 k x0 (x3.set ((wrap64 (Int.tdiv x4 4)) : Int).toNat (Go.bits .or .u32 (rd x3 (wrap64 (Int.tdiv x4 4))) (shl .u32 ((bt x0 (wrap64 ((wrap64 ((x0.size : Int) - 1)) - x4))) % 4294967296) (IntKind.u64.wrap (wrap64 (8 * (Int.tmod x4 4))))))) (wrap64 (x4 + 1))) else (none)) else (none)) else (none)) else (none)) else (none)) else (some x3)
def insolvencyref1_limbs.f (k : Nat) (a0 : ByteArray) : Option (List Int) := (insolvencyref1_Normalize.f k a0).bind fun t463 => (if 0 ≤ (wrap64 (Int.tdiv (wrap64 ((t463.size : Int) + 3)) 4)) then (if (wrap64 (Int.tdiv (wrap64 ((t463.size : Int) + 3)) 4) : Int).toNat ≤ 70368744177664 then (insolvencyref1_limbs.l0 k t463 (List.replicate (wrap64 (Int.tdiv (wrap64 ((t463.size : Int) + 3)) 4) : Int).toNat 0) 0) else (none)) else (none))
theorem insolvencyref1_limbs.mono_l : ∀ k, (∀ y0 y1 y2, LeO (insolvencyref1_limbs.l0 k y0 y1 y2) (insolvencyref1_limbs.l0 (k + 1) y0 y1 y2))
 | 0 => fun _ _ _ r h => by simp [insolvencyref1_limbs.l0] at h
 | k + 1 => by
  have ih0 := insolvencyref1_limbs.mono_l k
  ·intro y0 y1 y2
   unfold insolvencyref1_limbs.l0
   repeat' with_reducible first | exact ih0 _ _ _ | exact insolvencyref1_Normalize.mono _ _ | exact LeO.refl _ | exact LeO.none _ | refine LeO.ite ?_ ?_ | refine LeO.bind ?_ (fun _ => ?_)
theorem insolvencyref1_limbs.mono : ∀ a0 k, LeO (insolvencyref1_limbs.f k a0) (insolvencyref1_limbs.f (k + 1) a0) := by
 intro a0 k
 have ih0 := insolvencyref1_limbs.mono_l k
 unfold insolvencyref1_limbs.f
 repeat' with_reducible first | exact ih0 _ _ _ | exact insolvencyref1_Normalize.mono _ _ | exact LeO.refl _ | exact LeO.none _ | refine LeO.ite ?_ ?_ | refine LeO.bind ?_ (fun _ => ?_)
def insolvencyref1_limbs.T6 : Bool × List (List Nat × List Nat) := (true, [([], []), ([], []), ([1], [1]), ([], []), ([], []), ([4], [4]), ([3, 5], [3, 5]), ([6], [6]), ([], []), ([], []), ([9], [9]), ([10], [10]), ([], []), ([11, 12], [11, 12]), ([8, 13], [8, 13]), ([14], [14]), ([], []), ([16], [16]), ([17], [17]), ([18], [18]), ([15, 19], [15, 19]), ([7, 20], [7, 20]), ([0, 2, 0, 1, 2, 3, 4, 5, 6, 7, 8, 9, 10, 11, 12, 13, 14, 15, 16, 17, 18, 19, 20, 21], [0, 2]), ([22, 21, 0, 1, 2, 3, 4, 5, 6, 7, 8, 9, 10, 11, 12, 13, 14, 15, 16, 17, 18, 19, 20, 21], [21, 22])])
def insolvencyref1_limbs.B6 : List Nat := [0, 0, 2, 0, 0, 16, 56, 120, 0, 0, 512, 1536, 0, 7680, 16128, 32512, 0, 65536, 196608, 458752, 1048320, 2097144, 4194303, 8388607]
theorem insolvencyref1_limbs.tab6 : rtab .any (opsOf Tryd.f31 6) = insolvencyref1_limbs.T6 := by kernel_rfl
theorem insolvencyref1_limbs.bits6 : waitsOk insolvencyref1_limbs.T6.2 insolvencyref1_limbs.B6 = true := by kernel_rfl
set_option maxHeartbeats 8000000 in
set_option maxRecDepth 100000 in
theorem insolvencyref1_limbs.calls (k : Nat) (a0 : ByteArray) (r : List Int) (w : World) (h : insolvencyref1_limbs.f k a0 = some r) :
  Calls Tryd.prog 31 #[.string a0] w fun e w' => ∃ v0_ : Value, e = .returned (v0_) ∧ Kd.R (Kd.int .u32) 72 w' w.heap.size (fun _ => True) v0_ r ∧ Below w.heap.size w w' := by
 have HB := Aside0.mk (Below.refl w.heap.size w)
 have H := h
 clear h
 unfold insolvencyref1_limbs.f at H
 obtain ⟨t463, A2, H⟩ := bs1 H
 obtain ⟨ji3, hji3⟩ : ∃ j_ : Int, (wrap64 (Int.tdiv (wrap64 ((t463.size : Int) + 3)) 4)) = j_ := ⟨_, rfl⟩
 first | rw [hji3] at H | simp only [hji3] at H
 (try rw [hji3] at A2)
 have hji3w : (IntKind.i64.wrap (Int.tdiv (wrap64 ((t463.size : Int) + 3)) 4)) = ji3 := (i64_w _).trans hji3
 obtain ⟨c4, H⟩ := iN H
 have c4b0 := eq_true c4
 have c4b1 : decide (0 ≤ (ji3)) = true := decide_eq_true c4
 clear c4
 obtain ⟨c5, H⟩ := iN H
 have c5b0 := eq_true c5
 have c5b1 : decide ((ji3 : Int).toNat ≤ 70368744177664) = true := decide_eq_true c5
 clear c5
 obtain ⟨y464, hy464⟩ : ∃ y_ : List Int, y_ = (List.replicate (ji3 : Int).toNat 0) := ⟨_, rfl⟩
 (try first | rw [← hy464] at H | (dsimp only at H; rw [← hy464] at H)); (try rw [Option.bind_some] at H)
 have Ny464 := Aside0.mk hy464
 clear hy464
 have H' := Aside0.mk H
 clear H
 go_enter Tryd.func31, Tryd.ntmps31
 go_wp2_with (first | ((with_reducible refine gc 28 rfl ?_); refine gl (some 6) Tryd.func28 #[.string a0] ?_; (with_reducible refine (insolvencyref1_Normalize.calls k a0 t463 _ A2.out).mono ?_); rintro e w' ⟨rfl, ⟨nd, rfl⟩⟩; refine ⟨_, rfl, ?_⟩) | ((with_reducible refine gd 11 rfl ?_); refine Kd.R_make (Kd.int .u32) _ 72 rfl (N := 11) rfl 50 _ _ rfl ji3 rfl rfl Tryd.underlying50 (.int .u32 0) 4 info72 rfl (by decide) (by omega) 0 (ok := fun _ => True) (okp := fun _ => True) rfl (fun _ hk => hk) trivial oa (Nat.le_trans (Nat.mul_le_mul_right _ (oa : ji3.toNat ≤ 70368744177664)) (by omega)) (Below.refl _ _) (Nat.le_refl _) ?_; intro v465 w6 ho7 hb hg_ hnew_; clear hg_ hnew_; (first | rw [← Ny464.out] at ho7 | (simp only [Int.reduceToNat] at ho7; rw [← Ny464.out] at ho7)); have HO466 := Aside0.mk (Kd.R_lower ho7 (sz HB.out)); replace HB := Aside0.mk (bs HB.out hb); clear hb ho7))
 go_loopg [4] k (fun kq v4 w' => ∃ (x3_1 : List Int) (x4_1 : Int), v4 = .int .i64 x4_1 ∧ Aside0 (insolvencyref1_limbs.l0 kq t463 x3_1 x4_1 = some r) ∧ Aside0 (kq ≤ k) ∧ Aside0 (Kd.R (Kd.int .u32) 72 w' w.heap.size (fun _ => True) v465 x3_1) ∧ Aside0 (Below w.heap.size w w'))
 case atStart => exact ⟨(y464), (0), fs, H', ⟨Nat.le_refl _⟩, ⟨vs HO466.out⟩, ⟨bz HB.out⟩⟩
 case round =>
  clear H'
  (try clear c4b0); (try clear c4b1); (try clear c5b0); (try clear c5b1)
  obtain ⟨x3_1, x4_1, rfl, HA, HK1, HO_3, HB⟩ := hrel
  cases gk with
  | zero => exact absurd HA.out (by simp [insolvencyref1_limbs.l0])
  | succ k1 =>
   have H := HA.out
   clear HA
   simp only [insolvencyref1_limbs.l0] at H
   by_cases c8 : x4_1 < (t463.size : Int)
   ·rw [if_pos c8] at H
    have c8b0 : decide (x4_1 < (t463.size : Int)) = true := decide_eq_true c8
    clear c8
    obtain ⟨ji9, hji9⟩ : ∃ j_ : Int, (wrap64 (Int.tdiv x4_1 4)) = j_ := ⟨_, rfl⟩
    first | rw [hji9] at H | simp only [hji9] at H
    have hji9w : (IntKind.i64.wrap (Int.tdiv x4_1 4)) = ji9 := (i64_w _).trans hji9
    obtain ⟨c10, H⟩ := iN H
    have c10b0 : decide (0 ≤ (ji9)) = true := decide_eq_true c10
    clear c10
    obtain ⟨c11, H⟩ := iN H
    have c11b0 : decide ((ji9) < (x3_1.length : Int)) = true := decide_eq_true c11
    clear c11
    obtain ⟨ji12, hji12⟩ : ∃ j_ : Int, (wrap64 ((wrap64 ((t463.size : Int) - 1)) - x4_1)) = j_ := ⟨_, rfl⟩
    first | rw [hji12] at H | simp only [hji12] at H
    have hji12w : (IntKind.i64.wrap ((wrap64 ((t463.size : Int) - 1)) - x4_1)) = ji12 := (i64_w _).trans hji12
    obtain ⟨c13, H⟩ := iN H
    have c13b0 : decide (0 ≤ (ji12)) = true := decide_eq_true c13
    clear c13
    obtain ⟨c14, H⟩ := iN H
    have c14b0 : decide ((ji12) < (t463.size : Int)) = true := decide_eq_true c14
    clear c14
    obtain ⟨ji16, hji16⟩ : ∃ j_ : Int, (IntKind.u64.wrap (wrap64 (8 * (Int.tmod x4_1 4)))) = j_ := ⟨_, rfl⟩
    first | rw [hji16] at H | simp only [hji16] at H
    obtain ⟨c17, H⟩ := iN H
    have c17b0 := eq_true c17
    have c17b1 : decide (0 ≤ (ji16)) = true := decide_eq_true c17
    clear c17
    obtain ⟨ji18, hji18⟩ : ∃ j_ : Int, (shl .u32 ((bt t463 (ji12)) % 4294967296) (ji16)) = j_ := ⟨_, rfl⟩
    first | rw [hji18] at H | simp only [hji18] at H
    have hji18_ : (IntKind.u32.wrap (((bt t463 (ji12)) % 4294967296) * 2 ^ min (ji16).toNat 32)) = ji18 := hji18
    have hji18z : (ji16) ≤ 32 → (IntKind.u32.wrap (((bt t463 (ji12)) % 4294967296) * 2 ^ (ji16).toNat)) = ji18 := shl_small hji18
    have hji18u_ : ((((bt t463 (ji12)) % 4294967296) * 2 ^ min (ji16).toNat 32) % 4294967296) = ji18 := hji18_
    have hji18u2_ : (ji16) ≤ 32 → ((((bt t463 (ji12)) % 4294967296) * 2 ^ (ji16).toNat) % 4294967296) = ji18 := hji18z
    have hji18u3_ : (IntKind.u32.wrap (IntKind.u32.wrap (bt t463 (ji12)) * 2 ^ min (ji16).toNat 32)) = ji18 := hji18_
    obtain ⟨y468, hy468⟩ : ∃ y_ : List Int, y_ = (x3_1.set ((ji9) : Int).toNat (Go.bits .or .u32 (rd x3_1 (ji9)) (ji18))) := ⟨_, rfl⟩
    (try first | rw [← hy468] at H | (dsimp only at H; rw [← hy468] at H)); (try rw [Option.bind_some] at H)
    have Ny468 := Aside0.mk hy468
    clear hy468
    have H' := Aside0.mk H
    clear H
    try go_wp2
    replace HO_3 := Aside0.mk (Kd.R_drew HO_3.out)
    replace HB := Aside0.mk (below_drew1 HB.out)
    obtain ⟨Ao21, co21, eo21⟩ := Kd.R_slice HO_3.out
    (first | subst eo21 | (injection eo21 with f1_ f2_ f3_; have f4_ := f1_.symm; have f5_ := f3_.symm; clear f1_ f2_ f3_; subst f4_; subst f5_))
    have p467 : 0 ≤ ((ji9) : Int) := oa
    have q467 : (ji9) < (x3_1.length : Int) := oa
    obtain ⟨ad467, e467, hx467_0⟩ := Kd.at_int (Kd.R_reads' HO_3.out).2.2 (ji9) p467 q467
    cases e467
    replace p467 := eq_true p467
    replace q467 := eq_true q467
    have p15 : 0 ≤ ((ji12) : Int) := oa
    have q15 : (ji12) < (t463.size : Int) := oa
    have hx15 := bt_at t463 (ji12)
    replace p15 := eq_true p15
    replace q15 := eq_true q15
    have p19 : 0 ≤ ((ji9) : Int) := oa
    have q19 : ((ji9) : Int) < ((x3_1.length : Int) : Int) := oa
    obtain ⟨go19, co19, eo19, gb19, gl19, cl19, HG19⟩ := Kd.R_form HO_3.out (by omega)
    (first | cases eo19 | (injection eo19 with ea_ en_ ec_; (first | subst ea_ | (injection ea_ with ea_; subst ea_)); subst ec_; clear en_))
    have GB19 := Aside0.mk gb19
    have GG19 := Aside0.mk HG19
    clear gb19 gl19 HG19
    (first | simp only [add_plain] at hx467_0 | skip)
    obtain ⟨hx19_0, hf19_0⟩ := Kd.R_celln 0 HO_3.out ((ji9) : Int) p19 q19
    replace p19 := eq_true p19
    replace q19 := eq_true q19
    have HP22 := Kd.R_putn HO_3.out ((ji9) : Int) (Go.bits .or .u32 (rd x3_1 (ji9)) (ji18))
    rw [← Ny468.out] at HP22
    have HQ22 := Aside0.mk HP22
    clear HP22
    refine start_ (n := 24) (S := fun w' => w'.cell? ⟨go19, ((ji9)).toNat, none⟩ = some (.int .u32 (rd x3_1 (ji9)))) (ds := [23]) #[false, false, false, false, false, false, false, false, false, false, false, false, false, false, false, false, false, false, false, false, false, false, false, false] (by kernel_rfl) rfl rfl (hx467_0) (fun hHeld => ?_); refine with_tabW insolvencyref1_limbs.tab6 insolvencyref1_limbs.bits6 (fun HT_ HW_ => ?_)
    generalize wr.drew = w20 at HO_3 HB GG19 HQ22 hf19_0 hx19_0 hx467_0 hHeld ⊢
    refine py 0 (some 18) #[true, false, false, false, false, false, false, false, false, false, false, false, false, false, false, false, false, false, false, false, false, false, false, false] HT_ ?_
    refine py 1 (some 19) #[true, true, false, false, false, false, false, false, false, false, false, false, false, false, false, false, false, false, false, false, false, false, false, false] HT_ ?_
    refine py 2 (some 20) #[true, true, true, false, false, false, false, false, false, false, false, false, false, false, false, false, false, false, false, false, false, false, false, false] HT_ ?_
    refine py 3 (some 21) #[true, true, true, true, false, false, false, false, false, false, false, false, false, false, false, false, false, false, false, false, false, false, false, false] HT_ ?_
    refine py 4 (some 22) #[true, true, true, true, true, false, false, false, false, false, false, false, false, false, false, false, false, false, false, false, false, false, false, false] HT_ ?_
    refine py 5 (some 23) #[true, true, true, true, true, true, false, false, false, false, false, false, false, false, false, false, false, false, false, false, false, false, false, false] HT_ ?_
    refine py 6 (some 24) #[true, true, true, true, true, true, true, false, false, false, false, false, false, false, false, false, false, false, false, false, false, false, false, false] HT_ ?_
    refine py 8 (some 26) #[true, true, true, true, true, true, true, false, true, false, false, false, false, false, false, false, false, false, false, false, false, false, false, false] HT_ ?_
    refine py 9 (some 27) #[true, true, true, true, true, true, true, false, true, true, false, false, false, false, false, false, false, false, false, false, false, false, false, false] HT_ ?_
    refine py 10 (some 28) #[true, true, true, true, true, true, true, false, true, true, true, false, false, false, false, false, false, false, false, false, false, false, false, false] HT_ ?_
    refine py 11 (some 29) #[true, true, true, true, true, true, true, false, true, true, true, true, false, false, false, false, false, false, false, false, false, false, false, false] HT_ ?_
    refine py 12 (some 30) #[true, true, true, true, true, true, true, false, true, true, true, true, true, false, false, false, false, false, false, false, false, false, false, false] HT_ ?_
    refine py 13 (some 31) #[true, true, true, true, true, true, true, false, true, true, true, true, true, true, false, false, false, false, false, false, false, false, false, false] HT_ ?_
    refine py 16 (some 34) #[true, true, true, true, true, true, true, false, true, true, true, true, true, true, false, false, true, false, false, false, false, false, false, false] HT_ ?_
    refine py 17 (some 35) #[true, true, true, true, true, true, true, false, true, true, true, true, true, true, false, false, true, true, false, false, false, false, false, false] HT_ ?_
    refine py 18 (some 36) #[true, true, true, true, true, true, true, false, true, true, true, true, true, true, false, false, true, true, true, false, false, false, false, false] HT_ ?_
    refine py 19 (some 37) #[true, true, true, true, true, true, true, false, true, true, true, true, true, true, false, false, true, true, true, true, false, false, false, false] HT_ ?_
    refine take_ (i := 7) (N := some 25) (v := ?_) (a' := ?_) #[true, true, true, true, true, true, true, true, true, true, true, true, true, true, false, false, true, true, true, true, false, false, false, false] rfl rfl (take_ofW HT_.out HW_.out (by kernel_rfl)) (fun _ _ _ h => h) (Or.inl ⟨by rfl, ?_⟩) hHeld ?_ ?_
    rotate_left
    ·intro w' s0
     go_simp
     with_reducible rfl
    rotate_left
    ·simp only [Act.put, List.setIfInBounds_toArray, List.set_cons_zero, List.set_cons_succ, i64_w, i32_w]
     rfl
    refine take_ (i := 14) (N := some 32) (v := ?_) (a' := ?_) #[true, true, true, true, true, true, true, true, true, true, true, true, true, true, true, false, true, true, true, true, false, false, false, false] rfl rfl (take_ofW HT_.out HW_.out (by kernel_rfl)) (fun _ _ _ h => h) (Or.inl ⟨by rfl, ?_⟩) hHeld ?_ ?_
    rotate_left
    ·intro w' s0
     go_simp
     with_reducible rfl
    rotate_left
    ·simp only [Act.put, List.setIfInBounds_toArray, List.set_cons_zero, List.set_cons_succ, i64_w, i32_w]
     rfl
    refine py 15 (some 33) #[true, true, true, true, true, true, true, true, true, true, true, true, true, true, true, true, true, true, true, true, false, false, false, false] HT_ ?_
    refine py 20 (some 38) #[true, true, true, true, true, true, true, true, true, true, true, true, true, true, true, true, true, true, true, true, true, false, false, false] HT_ ?_
    refine py 21 (some 39) #[true, true, true, true, true, true, true, true, true, true, true, true, true, true, true, true, true, true, true, true, true, true, false, false] HT_ ?_
    refine py 22 (some 40) #[true, true, true, true, true, true, true, true, true, true, true, true, true, true, true, true, true, true, true, true, true, true, true, false] HT_ ?_
    refine last_ (i := 23) (N := none) #[true, true, true, true, true, true, true, true, true, true, true, true, true, true, true, true, true, true, true, true, true, true, true, true] rfl rfl (one_of HT_.out (by kernel_rfl)) (by decide) (fun K hK => ?_)
    refine skip_ (w1 := ?_) (by rfl) rfl ?_ ?_
    rotate_left
    ·go_simp
     rfl
    refine hK.out _ _ ?_
    clear hK K
    refine done_ (done_of HT_.out (by kernel_rfl)) ?_
    try go_wp2
    go_roundg k1
    case measure => have := HK1.out; omega
    case rel => exact ⟨(y468), (wrap64 (x4_1 + 1)), fs, H', ⟨by have := HK1.out; omega⟩, ⟨vs HQ22.out⟩, ⟨bz HB.out⟩⟩
   ·rw [if_neg c8] at H
    have c8b0 : decide (x4_1 < (t463.size : Int)) = false := decide_eq_false c8
    clear c8
    obtain rfl := Option.some.inj H
    go_wp2
    go_ret
    exact ⟨_, by first | rfl | (simp [errW_none, errW_some] <;> rfl) | (simp only [← hji3]; first | rfl | (simp [errW_none, errW_some] <;> rfl)) | (simp [*, errW_none, errW_some] <;> rfl), vs HO_3.out, bz HB.out⟩

/-! ### insolvencyref1_strip: function 86 -/
def insolvencyref1_strip.l0 : Nat → List Int → Int → Option (List Int)
 | 0, _, _ => none
 | k + 1, x0, x3 => if x3 > 0 then (if 0 ≤ (wrap64 (x3 - 1)) then (if (wrap64 (x3 - 1)) < (x0.length : Int) then (if (rd x0 (wrap64 (x3 - 1))) = 0 then (insolvencyref1_strip.l0 k x0 (wrap64 (x3 - 1))) else (if 0 ≤ x3 then (if x3 ≤ (x0.length : Int) then (some (x0.take (x3 : Int).toNat)) else (none)) else (none))) else (none)) else (none)) else (if 0 ≤ x3 then (if x3 ≤ (x0.length : Int) then (some (x0.take (x3 : Int).toNat)) else (none)) else (none))
def insolvencyref1_strip.f (k : Nat) (l0 : List Int) : Option (List Int) := insolvencyref1_strip.l0 k l0 (l0.length : Int)
theorem insolvencyref1_strip.mono_l : ∀ k, (∀ y0 y1, LeO (insolvencyref1_strip.l0 k y0 y1) (insolvencyref1_strip.l0 (k + 1) y0 y1))
 | 0 => fun _ _ r h => by simp [insolvencyref1_strip.l0] at h
 | k + 1 => by
  have ih0 := insolvencyref1_strip.mono_l k
  ·intro y0 y1
   unfold insolvencyref1_strip.l0
   repeat' with_reducible first | exact ih0 _ _ | exact LeO.refl _ | exact LeO.none _ | refine LeO.ite ?_ ?_ | refine LeO.bind ?_ (fun _ => ?_)
theorem insolvencyref1_strip.mono : ∀ a0 k, LeO (insolvencyref1_strip.f k a0) (insolvencyref1_strip.f (k + 1) a0) := by
 intro a0 k
 have ih0 := insolvencyref1_strip.mono_l k
 unfold insolvencyref1_strip.f
 repeat' with_reducible first | exact ih0 _ _ | exact LeO.refl _ | exact LeO.none _ | refine LeO.ite ?_ ?_ | refine LeO.bind ?_ (fun _ => ?_)
set_option maxHeartbeats 8000000 in
set_option maxRecDepth 100000 in
theorem insolvencyref1_strip.calls (k : Nat) (P0_ : Nat → Prop) (A0 : Option Addr) (c0 : Nat) (l0 : List Int) (r : List Int) (w : World) (hs0 : Kd.V (Kd.int .u32) 72 w w.heap.size (fun k_ => P0_ k_) (.slice A0 l0.length c0) l0) (h : insolvencyref1_strip.f k l0 = some r) :
  Calls Tryd.prog 86 #[.slice A0 l0.length c0] w fun e w' => ∃ v0_ : Value, e = .returned (v0_) ∧ Kd.V (Kd.int .u32) 72 w' w.heap.size (fun k_ => (P0_ k_ ∨ w.heap.size ≤ k_)) v0_ r ∧ Below w.heap.size w w' := by
 have HO0 := Aside0.mk (show Kd.V (Kd.int .u32) 72 w w.heap.size (fun k_ => (P0_ k_ ∨ w.heap.size ≤ k_)) (.slice A0 l0.length c0) l0 from Kd.V_mono hs0 (fun k_ hk => .inl hk))
 have HB := Aside0.mk (Below.refl w.heap.size w)
 have H := h
 clear h
 unfold insolvencyref1_strip.f at H
 have H' := Aside0.mk H
 clear H
 go_enter Tryd.func86, Tryd.ntmps86
 go_wp2
 go_loopg [3] k (fun kq v3 w' => ∃ (x3_1 : Int), v3 = .int .i64 x3_1 ∧ Aside0 (insolvencyref1_strip.l0 kq l0 x3_1 = some r) ∧ Aside0 (kq ≤ k) ∧ Aside0 (Kd.V (Kd.int .u32) 72 w' w.heap.size (fun k_ => (P0_ k_ ∨ w.heap.size ≤ k_)) (.slice A0 l0.length c0) l0) ∧ Aside0 (Below w.heap.size w w'))
 case atStart => exact ⟨((l0.length : Int)), fs, H', ⟨Nat.le_refl _⟩, ⟨vs HO0.out⟩, ⟨bz HB.out⟩⟩
 case round =>
  clear H'
  obtain ⟨x3_1, rfl, HA, HK1, HO_0, HB⟩ := hrel
  cases gk with
  | zero => exact absurd HA.out (by simp [insolvencyref1_strip.l0])
  | succ k1 =>
   have H := HA.out
   clear HA
   simp only [insolvencyref1_strip.l0] at H
   by_cases c2 : x3_1 > 0
   ·rw [if_pos c2] at H
    have c2b0 : decide (0 < x3_1) = true := decide_eq_true c2
    clear c2
    obtain ⟨ji3, hji3⟩ : ∃ j_ : Int, (wrap64 (x3_1 - 1)) = j_ := ⟨_, rfl⟩
    first | rw [hji3] at H | simp only [hji3] at H
    have hji3w : (IntKind.i64.wrap (x3_1 - 1)) = ji3 := (i64_w _).trans hji3
    obtain ⟨c4, H⟩ := iN H
    have c4b0 : decide (0 ≤ (ji3)) = true := decide_eq_true c4
    clear c4
    obtain ⟨c5, H⟩ := iN H
    have c5b0 : decide ((ji3) < (l0.length : Int)) = true := decide_eq_true c5
    clear c5
    by_cases c6 : (rd l0 (ji3)) = 0
    ·rw [if_pos c6] at H
     have c6b0 := beq_iff_eq.mpr c6
     have c6b1 := bne_eq_false_iff_eq.mpr c6
     clear c6
     have H' := Aside0.mk H
     clear H
     have p469 : 0 ≤ ((ji3) : Int) := oa
     have q469 : (ji3) < (l0.length : Int) := oa
     obtain ⟨ad469, e469, hx469_0⟩ := Kd.at_int (Kd.V_reads' HO_0.out).2.2 (ji3) p469 q469
     cases e469
     replace p469 := eq_true p469
     replace q469 := eq_true q469
     go_wp2
     go_roundg k1
     case measure => have := HK1.out; omega
     case rel => exact ⟨(ji3), (by first | rfl | (simp; done) | (simp only [← hji3] <;> (first | rfl | simp)) | (simp [*]; done)), H', ⟨by have := HK1.out; omega⟩, ⟨vs HO_0.out⟩, ⟨bz HB.out⟩⟩
    ·rw [if_neg c6] at H
     have c6b0 := beq_eq_false_iff_ne.mpr c6
     have c6b1 := bne_iff_ne.mpr c6
     obtain ⟨c7, H⟩ := iN H
     have c7b0 := eq_true c7
     have c7b1 : decide (0 ≤ x3_1) = true := decide_eq_true c7
     clear c7
     obtain ⟨c8, H⟩ := iN H
     have c8b0 := eq_true c8
     have c8b1 : decide (x3_1 ≤ (l0.length : Int)) = true := decide_eq_true c8
     clear c8
     obtain ⟨y470, hy470⟩ : ∃ y_ : List Int, y_ = (l0.take (x3_1 : Int).toNat) := ⟨_, rfl⟩
     (try first | rw [← hy470] at H | (dsimp only at H; rw [← hy470] at H)); (try rw [Option.bind_some] at H)
     have Ny470 := Aside0.mk hy470
     clear hy470
     obtain rfl := Option.some.inj H
     have p469 : 0 ≤ ((ji3) : Int) := oa
     have q469 : (ji3) < (l0.length : Int) := oa
     obtain ⟨ad469, e469, hx469_0⟩ := Kd.at_int (Kd.V_reads' HO_0.out).2.2 (ji3) p469 q469
     cases e469
     replace p469 := eq_true p469
     replace q469 := eq_true q469
     have q9 : (x3_1 : Int) ≤ ((l0.length : Int) : Int) := oa
     obtain ⟨i09, hi09, _, hsz9, _⟩ := info_parts info72
     have hroom9 : l0.length ≤ c0 := (Kd.V_reads' HO_0.out).2.1
     have hC9 : Kd.F (Kd.int .u32) _ _ (some ad469) l0.length l0 := (Kd.V_at (base := w.heap.size) HO_0.out).2.2
     have hcut9 := cut_to (P := Tryd.prog) 50 72 .i64 Tryd.underlying50 hi09 (some ad469) l0.length c0 x3_1 oa q9 hroom9
     have hr9 := Kd.F_take (m := (x3_1 : Int).toNat) hC9 (by omega)
     have hy9 : y470.length = (x3_1 : Int).toNat := (by rw [Ny470.out, List.length_take]; omega)
     rw [← Ny470.out] at hr9
     rw [← hy9] at hcut9
     have HO474 := Aside0.mk (show Kd.V (Kd.int .u32) 72 _ w.heap.size _ (.slice (some ad469) y470.length c0) y470 from Kd.V_mk (by omega) hr9)
     have HC474 := Aside0.mk (show y470.length ≤ c0 from by omega)
     clear hr9 hC9 hroom9 hi09 hsz9
     have KY9 := Aside0.mk hy9
     clear hy9
     replace q9 := eq_true q9
     go_wp2
     go_ret
     exact ⟨_, by first | rfl | (simp [errW_none, errW_some] <;> rfl) | (simp only [← hji3]; first | rfl | (simp [errW_none, errW_some] <;> rfl)) | (simp [*, errW_none, errW_some] <;> rfl), vs HO474.out, bz HB.out⟩
   ·rw [if_neg c2] at H
    have c2b0 : decide (0 < x3_1) = false := decide_eq_false c2
    clear c2
    obtain ⟨c10, H⟩ := iN H
    have c10b0 := eq_true c10
    have c10b1 : decide (0 ≤ x3_1) = true := decide_eq_true c10
    clear c10
    obtain ⟨c11, H⟩ := iN H
    have c11b0 := eq_true c11
    have c11b1 : decide (x3_1 ≤ (l0.length : Int)) = true := decide_eq_true c11
    clear c11
    obtain ⟨y475, hy475⟩ : ∃ y_ : List Int, y_ = (l0.take (x3_1 : Int).toNat) := ⟨_, rfl⟩
    (try first | rw [← hy475] at H | (dsimp only at H; rw [← hy475] at H)); (try rw [Option.bind_some] at H)
    have Ny475 := Aside0.mk hy475
    clear hy475
    obtain rfl := Option.some.inj H
    have q12 : (x3_1 : Int) ≤ ((l0.length : Int) : Int) := oa
    obtain ⟨i012, hi012, _, hsz12, _⟩ := info_parts info72
    have hroom12 : l0.length ≤ c0 := (Kd.V_reads' HO_0.out).2.1
    have hC12 : Kd.F (Kd.int .u32) _ _ A0 l0.length l0 := (Kd.V_at (base := w.heap.size) HO_0.out).2.2
    have hcut12 := cut_to (P := Tryd.prog) 50 72 .i64 Tryd.underlying50 hi012 A0 l0.length c0 x3_1 oa q12 hroom12
    have hr12 := Kd.F_take (m := (x3_1 : Int).toNat) hC12 (by omega)
    have hy12 : y475.length = (x3_1 : Int).toNat := (by rw [Ny475.out, List.length_take]; omega)
    rw [← Ny475.out] at hr12
    rw [← hy12] at hcut12
    have HO479 := Aside0.mk (show Kd.V (Kd.int .u32) 72 _ w.heap.size _ (.slice A0 y475.length c0) y475 from Kd.V_mk (by omega) hr12)
    have HC479 := Aside0.mk (show y475.length ≤ c0 from by omega)
    clear hr12 hC12 hroom12 hi012 hsz12
    have KY12 := Aside0.mk hy12
    clear hy12
    replace q12 := eq_true q12
    go_wp2
    go_ret
    exact ⟨_, fe, vs HO479.out, bz HB.out⟩

end Go.Proofs.YtgepdnoaemeofaaDoor.R
