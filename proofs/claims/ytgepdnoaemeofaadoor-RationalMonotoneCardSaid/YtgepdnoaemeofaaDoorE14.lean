/- Printed by a program of this session (wip/tools) out of the translation: plain functions and the proofs that the code comes to their answers. -/
import Derived.Test.YtgepdnoaemeofaaDoorK
import Derived.Test.YtgepdnoaemeofaaDoorE0
import Derived.Test.YtgepdnoaemeofaaDoorE1
import Derived.Test.YtgepdnoaemeofaaDoorE3
import Derived.Test.YtgepdnoaemeofaaDoorE6
import Derived.Test.YtgepdnoaemeofaaDoorE10
import Derived.Test.YtgepdnoaemeofaaDoorE11
import Derived.Test.YtgepdnoaemeofaaDoorE12
import Derived.Test.YtgepdnoaemeofaaDoorE13
namespace Go.Proofs.YtgepdnoaemeofaaDoor.E
open Go.RowKit Go.Proofs.YtgepdnoaemeofaaDoorW.PrintWords Go.Proofs.YtgepdnoaemeofaaDoorW.PrintLast Go.Proofs.YtgepdnoaemeofaaDoorW.PrintMore Go.Proofs.YtgepdnoaemeofaaDoorW.PK
attribute [local go_sem] max2_int min2_int max_two min_two max_three min_three max_four min_four   -- for this text's walks alone
set_option linter.unusedVariables false
set_option linter.unusedSimpArgs false

/-! ### insolvencylaw2_awake: function 8 -/
def insolvencylaw2_awake.f (k : Nat)  : Option (Bool) := (rational_Fraction.f k 6 (-4)).bind fun bt436 => ((rational_Parse.f k (⟨#[51, 46, 50, 53, 48]⟩ : ByteArray)).bind fun bt441 => ((rational_Fraction.f k (-2) 3).bind fun bt446 => (if bt436.2.2.2 = true then ((rational_Format.f k bt436.1 bt436.2.1 bt436.2.2.1).bind fun t451 => (if t451.toList = ([45, 51, 47, 50] : List UInt8) then ((rational_Floor.f k bt436.1 bt436.2.1 bt436.2.2.1).bind fun bt452 => ((rational_Format.f k bt452.1 bt452.2.1 bt452.2.2).bind fun t455 => (if t455.toList = ([45, 50] : List UInt8) then (if bt441.2.2.2 = 0 then ((rational_Format.f k bt441.1 bt441.2.1 bt441.2.2.1).bind fun t456 => (if t456.toList = ([49, 51, 47, 52] : List UInt8) then ((rational_Decimal.f k bt446.1 bt446.2.1 bt446.2.2.1 2).bind fun t457 => (some (t457.toList == ([45, 48, 46, 54, 54] : List UInt8)))) else (some false))) else (some false)) else (some false)))) else (some false))) else (some false))))
theorem insolvencylaw2_awake.mono : ∀ k, LeO (insolvencylaw2_awake.f k ) (insolvencylaw2_awake.f (k + 1) ) := by
 intro  k
 unfold insolvencylaw2_awake.f
 repeat' first
   | (with_reducible exact rational_Decimal.mono _ _ _ _ _)
   | (with_reducible exact rational_Floor.mono _ _ _ _)
   | (with_reducible exact rational_Format.mono _ _ _ _)
   | (with_reducible exact rational_Fraction.mono _ _ _)
   | (with_reducible exact rational_Parse.mono _ _)
   | (with_reducible exact LeO.refl _)
   | (with_reducible exact LeO.none _)
   | (with_reducible refine LeO.ite ?_ ?_)
   | (with_reducible refine LeO.bind ?_ (fun _ => ?_))
   | exact rational_Decimal.mono _ _ _ _ _
   | exact rational_Floor.mono _ _ _ _
   | exact rational_Format.mono _ _ _ _
   | exact rational_Fraction.mono _ _ _
   | exact rational_Parse.mono _ _
   | exact LeO.none _
   | refine LeO.ite ?_ ?_
   | refine LeO.bind ?_ (fun _ => ?_)
set_option maxHeartbeats 8000000 in
set_option maxRecDepth 100000 in
theorem insolvencylaw2_awake.calls (k : Nat)  (r : Bool) (w : World) (h : insolvencylaw2_awake.f k  = some r) (hr : r = true := by first | rfl | assumption) :
  Calls Tryd.prog 8 #[] w fun e w' => e = .returned (.bool r) ∧ Below w.heap.size w w' := by
 have hu23 := Tryd.underlying23
 have HB := Aside0.mk (Below.refl w.heap.size w)
 have H := h
 clear h
 unfold insolvencylaw2_awake.f at H
 obtain ⟨⟨t436, t437, t438, t439⟩, A1, H⟩ := bs1 H; dsimp only at H
 obtain ⟨⟨t441, t442, t443, t444⟩, A2, H⟩ := bs1 H; dsimp only at H
 obtain ⟨⟨t446, t447, t448, t449⟩, A3, H⟩ := bs1 H; dsimp only at H
 by_cases c4 : t439 = true
 ·subst c4
  have H1 : ((rational_Format.f k t436 t437 t438).bind fun t451 => (if t451.toList = ([45, 51, 47, 50] : List UInt8) then ((rational_Floor.f k t436 t437 t438).bind fun bt452 => ((rational_Format.f k bt452.1 bt452.2.1 bt452.2.2).bind fun t455 => (if t455.toList = ([45, 50] : List UInt8) then (if t444 = 0 then ((rational_Format.f k t441 t442 t443).bind fun t456 => (if t456.toList = ([49, 51, 47, 52] : List UInt8) then ((rational_Decimal.f k t446 t447 t448 2).bind fun t457 => (some (t457.toList == ([45, 48, 46, 54, 54] : List UInt8)))) else (some false))) else (some false)) else (some false)))) else (some false))) = some r := by rw [if_pos rfl] at H; exact H
  clear H
  have H := H1
  clear H1
  obtain ⟨t451, A5, H⟩ := bs1 H
  by_cases c6 : t451.toList = ([45, 51, 47, 50] : List UInt8)
  ·rw [if_pos c6] at H
   have c6b0 := beq_iff_eq.mpr c6
   have c6b1 := bne_eq_false_iff_eq.mpr c6
   clear c6
   obtain ⟨⟨t452, t453, t454⟩, A7, H⟩ := bs1 H; dsimp only at H
   obtain ⟨t455, A8, H⟩ := bs1 H
   by_cases c9 : t455.toList = ([45, 50] : List UInt8)
   ·rw [if_pos c9] at H
    have c9b0 := beq_iff_eq.mpr c9
    have c9b1 := bne_eq_false_iff_eq.mpr c9
    clear c9
    by_cases c10 : t444 = 0
    ·rw [if_pos c10] at H
     have c10b0 := beq_iff_eq.mpr c10
     have c10b1 := bne_eq_false_iff_eq.mpr c10
     clear c10
     obtain ⟨t456, A11, H⟩ := bs1 H
     by_cases c12 : t456.toList = ([49, 51, 47, 52] : List UInt8)
     ·rw [if_pos c12] at H
      have c12b0 := beq_iff_eq.mpr c12
      have c12b1 := bne_eq_false_iff_eq.mpr c12
      clear c12
      obtain ⟨t457, A13, H⟩ := bs1 H
      obtain rfl := Option.some.inj H
      go_enter Tryd.func8, Tryd.ntmps8
      go_wp2_with (first | ((with_reducible refine gc 21 rfl ?_); refine gl (some 8) Tryd.func21 #[.int .i64 6, .int .i64 (-4)] ?_; (with_reducible refine (rational_Fraction.calls k 6 (-4) t436 t437 t438 true _ A1.out).mono ?_); rintro e w14 ⟨rfl, hb⟩; refine ⟨_, rfl, ?_⟩; replace HB := Aside0.mk (bs HB.out hb); (try clear hb)) | ((with_reducible refine gd 1 rfl ?_); refine bx 1 (#[.bool false, .string (⟨#[]⟩ : ByteArray), .string (⟨#[]⟩ : ByteArray)]) 23 ?_; intro gb440 hg w15 hbox hb; have BK440 := Aside0.mk (hbox); have GW440 := sg hg HB.out; have GE440 := sg hg HB.out; replace HB := Aside0.mk (bs HB.out hb); clear hb hbox hg; obtain ⟨hcz16_0, hcz16_1, hcz16_2, hfz16_0, hfz16_1, hfz16_2⟩ := c3 BK440.out) | ((with_reducible refine gc 22 rfl ?_); refine gl (some 12) Tryd.func22 #[.string (⟨#[51, 46, 50, 53, 48]⟩ : ByteArray)] ?_; (with_reducible refine (rational_Parse.calls k (⟨#[51, 46, 50, 53, 48]⟩ : ByteArray) t441 t442 t443 t444 _ A2.out).mono ?_); rintro e w17 ⟨rfl, hb⟩; refine ⟨_, rfl, ?_⟩; replace BK440 := Aside0.mk (bk BK440.out hb (.cells #[.bool t436, .string t437, .string t438] 23 (0, 0))); replace HB := Aside0.mk (bs HB.out hb); (try clear hb)) | ((with_reducible refine gd 3 rfl ?_); refine bx 3 (#[.bool false, .string (⟨#[]⟩ : ByteArray), .string (⟨#[]⟩ : ByteArray)]) 23 ?_; intro gb445 hg w18 hbox hb; have BK445 := Aside0.mk (hbox); have GW445 := sg hg HB.out; have GE445 := sg hg HB.out; replace HB := Aside0.mk (bs HB.out hb); have NB440_445 := nl hg BK440.out; have NB445_440 := nr hg BK440.out; replace BK440 := Aside0.mk (bk0 BK440.out hb); clear hb hbox hg; have hnb19 := NB445_440.out; have hnc19 := NB440_445.out; obtain ⟨hcz20_0, hcz20_1, hcz20_2, hfz20_0, hfz20_1, hfz20_2⟩ := c3 BK445.out) | ((with_reducible refine gc 21 rfl ?_); refine gl (some 16) Tryd.func21 #[.int .i64 (-2), .int .i64 3] ?_; (with_reducible refine (rational_Fraction.calls k (-2) 3 t446 t447 t448 t449 _ A3.out).mono ?_); rintro e w21 ⟨rfl, hb⟩; refine ⟨_, rfl, ?_⟩; replace BK440 := Aside0.mk (bk0 BK440.out hb); replace BK445 := Aside0.mk (bk BK445.out hb (.cells #[.bool t441, .string t442, .string t443] 23 (0, 0))); replace HB := Aside0.mk (bs HB.out hb); (try clear hb)) | ((with_reducible refine gd 5 rfl ?_); refine bx 5 (#[.bool false, .string (⟨#[]⟩ : ByteArray), .string (⟨#[]⟩ : ByteArray)]) 23 ?_; intro gb450 hg w22 hbox hb; have BK450 := Aside0.mk (hbox); have GW450 := sg hg HB.out; have GE450 := sg hg HB.out; replace HB := Aside0.mk (bs HB.out hb); have NB440_450 := nl hg BK440.out; have NB450_440 := nr hg BK440.out; replace BK440 := Aside0.mk (bk0 BK440.out hb); have NB445_450 := nl hg BK445.out; have NB450_445 := nr hg BK445.out; replace BK445 := Aside0.mk (bk0 BK445.out hb); clear hb hbox hg; have hnb23 := NB450_440.out; have hnc23 := NB440_450.out; have hnb24 := NB450_445.out; have hnc24 := NB445_450.out; obtain ⟨hcz25_0, hcz25_1, hcz25_2, hfz25_0, hfz25_1, hfz25_2⟩ := c3 BK450.out; obtain ⟨hcz26_0, hcz26_1, hcz26_2, hfz26_0, hfz26_1, hfz26_2⟩ := c3 BK440.out) | (go_at_call 23; (with_reducible refine (rational_Format.calls k t436 t437 t438 t451 _ A5.out).mono ?_); rintro e w27 ⟨rfl, hb⟩; replace BK440 := Aside0.mk (bk0 BK440.out hb); replace BK445 := Aside0.mk (bk0 BK445.out hb); replace BK450 := Aside0.mk (bk BK450.out hb (.cells #[.bool t446, .string t447, .string t448] 23 (0, 0))); replace HB := Aside0.mk (bs HB.out hb); (try clear hb); obtain ⟨hcz28_0, hcz28_1, hcz28_2, hfz28_0, hfz28_1, hfz28_2⟩ := c3 BK440.out) | (go_at_call 24; (with_reducible refine (rational_Floor.calls k t436 t437 t438 t452 t453 t454 _ A7.out).mono ?_); rintro e w29 ⟨rfl, hb⟩; replace BK440 := Aside0.mk (bk0 BK440.out hb); replace BK445 := Aside0.mk (bk0 BK445.out hb); replace BK450 := Aside0.mk (bk0 BK450.out hb); replace HB := Aside0.mk (bs HB.out hb); (try clear hb)) | (go_at_call 23; (with_reducible refine (rational_Format.calls k t452 t453 t454 t455 _ A8.out).mono ?_); rintro e w30 ⟨rfl, hb⟩; replace BK440 := Aside0.mk (bk0 BK440.out hb); replace BK445 := Aside0.mk (bk0 BK445.out hb); replace BK450 := Aside0.mk (bk0 BK450.out hb); replace HB := Aside0.mk (bs HB.out hb); (try clear hb); obtain ⟨hcz31_0, hcz31_1, hcz31_2, hfz31_0, hfz31_1, hfz31_2⟩ := c3 BK445.out) | (go_at_call 23; (with_reducible refine (rational_Format.calls k t441 t442 t443 t456 _ A11.out).mono ?_); rintro e w32 ⟨rfl, hb⟩; replace BK440 := Aside0.mk (bk0 BK440.out hb); replace BK445 := Aside0.mk (bk0 BK445.out hb); replace BK450 := Aside0.mk (bk0 BK450.out hb); replace HB := Aside0.mk (bs HB.out hb); (try clear hb); obtain ⟨hcz33_0, hcz33_1, hcz33_2, hfz33_0, hfz33_1, hfz33_2⟩ := c3 BK450.out) | (go_at_call 25; (with_reducible refine (rational_Decimal.calls k t446 t447 t448 2 t457 _ A13.out).mono ?_); rintro e w34 ⟨rfl, hb⟩; replace BK440 := Aside0.mk (bk0 BK440.out hb); replace BK445 := Aside0.mk (bk0 BK445.out hb); replace BK450 := Aside0.mk (bk0 BK450.out hb); replace HB := Aside0.mk (bs HB.out hb); (try clear hb)))
      go_ret
      exact ⟨fe, bz HB.out⟩
     ·rw [if_neg c12] at H
      exact nf hr H
    ·rw [if_neg c10] at H
     exact nf hr H
   ·rw [if_neg c9] at H
    exact nf hr H
  ·rw [if_neg c6] at H
   exact nf hr H
 ·replace c4 := Bool.eq_false_iff.mpr c4
  subst c4
  have H1 : (some false) = some r := by rw [if_neg (show ¬ (false = true) by decide)] at H; exact H
  clear H
  have H := H1
  clear H1
  exact nf hr H/-! ### rational_Int: function 13 -/
def rational_Int.f (k : Nat) (a0 : Int) : Option (Bool × ByteArray × ByteArray) := (rational_magnitude.f k a0).bind fun t459 => ((rational_reduced.f k (decide (a0 < 0)) t459 (⟨#[1]⟩ : ByteArray)).bind fun bt460 => (some (bt460.1, bt460.2.1, bt460.2.2)))
theorem rational_Int.mono : ∀ a0 k, LeO (rational_Int.f k a0) (rational_Int.f (k + 1) a0) := by
 intro a0 k
 unfold rational_Int.f
 repeat' first
   | (with_reducible exact rational_magnitude.mono _ _)
   | (with_reducible exact rational_reduced.mono _ _ _ _)
   | (with_reducible exact LeO.refl _)
   | (with_reducible exact LeO.none _)
   | (with_reducible refine LeO.ite ?_ ?_)
   | (with_reducible refine LeO.bind ?_ (fun _ => ?_))
   | exact rational_magnitude.mono _ _
   | exact rational_reduced.mono _ _ _ _
   | exact LeO.none _
   | refine LeO.ite ?_ ?_
   | refine LeO.bind ?_ (fun _ => ?_)
set_option maxHeartbeats 8000000 in
set_option maxRecDepth 100000 in
theorem rational_Int.calls (k : Nat) (a0 : Int) (r1 : Bool) (r2 : ByteArray) (r3 : ByteArray) (w : World) (h : rational_Int.f k a0 = some (r1, r2, r3)) :
  Calls Tryd.prog 13 #[.int .i64 a0] w fun e w' => e = .returned (.agg #[.bool r1, .string r2, .string r3]) ∧ Below w.heap.size w w' := by
 have hu23 := Tryd.underlying23
 have HB := Aside0.mk (Below.refl w.heap.size w)
 have H := h
 clear h
 unfold rational_Int.f at H
 obtain ⟨t459, A2, H⟩ := bs1 H
 obtain ⟨⟨t460, t461, t462⟩, A3, H⟩ := bs1 H; dsimp only at H
 simp only [Option.some.injEq, Prod.mk.injEq] at H
 obtain ⟨rfl, rfl, rfl⟩ := H
 go_enter Tryd.func13, Tryd.ntmps13
 go_wp2_with (first | ((with_reducible refine gd 2 rfl ?_); refine bx 2 (#[.bool false, .string (⟨#[]⟩ : ByteArray), .string (⟨#[]⟩ : ByteArray)]) 23 ?_; intro gb458 hg w4 hbox hb; have BK458 := Aside0.mk (hbox); have GW458 := sg hg HB.out; have GE458 := sg hg HB.out; replace HB := Aside0.mk (bs HB.out hb); clear hb hbox hg) | ((with_reducible refine gc 33 rfl ?_); refine gl (some 6) Tryd.func33 #[.int .i64 a0] ?_; (with_reducible refine (rational_magnitude.calls k a0 t459 _ A2.out).mono ?_); rintro e w5 ⟨rfl, hb⟩; refine ⟨_, rfl, ?_⟩; replace BK458 := Aside0.mk (bk0 BK458.out hb); replace HB := Aside0.mk (bs HB.out hb); (try clear hb)) | ((with_reducible refine gc 30 rfl ?_); refine gl (some 7) Tryd.func30 #[.bool (decide (a0 < 0)), .string t459, .string (⟨#[1]⟩ : ByteArray)] ?_; (with_reducible refine (rational_reduced.calls k (decide (a0 < 0)) t459 (⟨#[1]⟩ : ByteArray) t460 t461 t462 _ A3.out).mono ?_); rintro e w6 ⟨rfl, hb⟩; refine ⟨_, rfl, ?_⟩; replace BK458 := Aside0.mk (bk0 BK458.out hb); replace HB := Aside0.mk (bs HB.out hb); (try clear hb); obtain ⟨hcz7_0, hcz7_1, hcz7_2, hfz7_0, hfz7_1, hfz7_2⟩ := c3 BK458.out))
 refine bodyPost_ret (results_cell_row rfl _ _ gb458 23 #[.bool t460, .string t461, .string t462] (0, 0) _ rfl (bq BK458.out) Tryd.underlying23 rfl (by kernel_rfl)) rfl ?_
 exact ⟨fe, bz HB.out⟩

/-! ### natural_Uint: function 35 -/
def natural_Uint.l0 : Nat → ByteArray → Int → Int → Int → Option (Int × Bool)
 | 0, _, _, _, _ => none
 | k + 1, x0, x4, x12, x13 => if x13 < x12 then (if 0 ≤ x13 then (if x13 < (x0.size : Int) then (natural_Uint.l0 k x0 (Go.bits .or .u64 (IntKind.u64.wrap (x4 * 256)) (IntKind.u64.wrap (bt x0 x13))) x12 (wrap64 (x13 + 1))) else (none)) else (none)) else (some (x4, true))
def natural_Uint.f (k : Nat) (a0 : ByteArray) : Option (Int × Bool) := (natural_Normalize.f k a0).bind fun t463 => (if (t463.size : Int) > 8 then (some (0, false)) else (natural_Uint.l0 k t463 0 (t463.size : Int) 0))
theorem natural_Uint.mono_l : ∀ k, (∀ y0 y1 y2 y3, LeO (natural_Uint.l0 k y0 y1 y2 y3) (natural_Uint.l0 (k + 1) y0 y1 y2 y3))
 | 0 => fun _ _ _ _ r h => by simp [natural_Uint.l0] at h
 | k + 1 => by
  have ih0 := natural_Uint.mono_l k
  ·intro y0 y1 y2 y3
   unfold natural_Uint.l0
   repeat' first
   | (with_reducible exact ih0 _ _ _ _)
   | (with_reducible exact natural_Normalize.mono _ _)
   | (with_reducible exact LeO.refl _)
   | (with_reducible exact LeO.none _)
   | (with_reducible refine LeO.ite ?_ ?_)
   | (with_reducible refine LeO.bind ?_ (fun _ => ?_))
   | exact ih0 _ _ _ _
   | exact natural_Normalize.mono _ _
   | exact LeO.none _
   | refine LeO.ite ?_ ?_
   | refine LeO.bind ?_ (fun _ => ?_)
theorem natural_Uint.mono : ∀ a0 k, LeO (natural_Uint.f k a0) (natural_Uint.f (k + 1) a0) := by
 intro a0 k
 have ih0 := natural_Uint.mono_l k
 unfold natural_Uint.f
 repeat' first
   | (with_reducible exact ih0 _ _ _ _)
   | (with_reducible exact natural_Normalize.mono _ _)
   | (with_reducible exact LeO.refl _)
   | (with_reducible exact LeO.none _)
   | (with_reducible refine LeO.ite ?_ ?_)
   | (with_reducible refine LeO.bind ?_ (fun _ => ?_))
   | exact ih0 _ _ _ _
   | exact natural_Normalize.mono _ _
   | exact LeO.none _
   | refine LeO.ite ?_ ?_
   | refine LeO.bind ?_ (fun _ => ?_)
set_option maxHeartbeats 8000000 in
set_option maxRecDepth 100000 in
theorem natural_Uint.calls (k : Nat) (a0 : ByteArray) (r1 : Int) (r2 : Bool) (w : World) (h : natural_Uint.f k a0 = some (r1, r2)) :
  Calls Tryd.prog 35 #[.string a0] w fun e w' => e = .returned (.tuple #[.int .u64 r1, .bool r2]) ∧ Below w.heap.size w w' := by
 have HB := Aside0.mk (Below.refl w.heap.size w)
 have H := h
 clear h
 unfold natural_Uint.f at H
 obtain ⟨t463, A2, H⟩ := bs1 H
 by_cases c3 : (t463.size : Int) > 8
 ·rw [if_pos c3] at H
  have c3b0 : decide (8 < (t463.size : Int)) = true := decide_eq_true c3
  have c3b1 : decide (8 < t463.size) = true := decide_eq_true (by omega)
  clear c3
  simp only [Option.some.injEq, Prod.mk.injEq] at H
  obtain ⟨rfl, rfl⟩ := H
  go_enter Tryd.func35, Tryd.ntmps35
  go_wp2_with (first | ((with_reducible refine gc 26 rfl ?_); refine gl (some 7) Tryd.func26 #[.string a0] ?_; (with_reducible refine (natural_Normalize.calls k a0 t463 _ A2.out).mono ?_); rintro e w4 ⟨rfl, hb⟩; refine ⟨_, rfl, ?_⟩; replace HB := Aside0.mk (bs HB.out hb); (try clear hb)))
  go_ret2
  exact ⟨fe, bz HB.out⟩
 ·rw [if_neg c3] at H
  have c3b0 : decide (8 < (t463.size : Int)) = false := decide_eq_false c3
  have c3b1 : decide (8 < t463.size) = false := decide_eq_false (by omega)
  clear c3
  have H' := Aside0.mk H
  clear H
  go_enter Tryd.func35, Tryd.ntmps35
  go_wp2_with (first | ((with_reducible refine gc 26 rfl ?_); refine gl (some 7) Tryd.func26 #[.string a0] ?_; (with_reducible refine (natural_Normalize.calls k a0 t463 _ A2.out).mono ?_); rintro e w5 ⟨rfl, hb⟩; refine ⟨_, rfl, ?_⟩; replace HB := Aside0.mk (bs HB.out hb); (try clear hb)))
  go_loopg [4, 13] k (fun kq v4 v13 w' => ∃ (x4_1 : Int) (x13_1 : Int), v4 = .int .u64 x4_1 ∧ v13 = .int .i64 x13_1 ∧ Aside0 (natural_Uint.l0 kq t463 x4_1 (t463.size : Int) x13_1 = some (r1, r2)) ∧ Aside0 (kq ≤ k) ∧ Aside0 (Below w.heap.size w w'))
  case atStart => exact ⟨(0), (0), fs, fs, H', ⟨Nat.le_refl _⟩, ⟨bz HB.out⟩⟩
  case round =>
   clear H'
   try clear c2
   try clear p2
   try clear c3
   try clear c3b0
   try clear c3b1
   obtain ⟨x4_1, x13_1, rfl, rfl, HA, HK1, HB⟩ := hrel
   cases gk with
   | zero => exact absurd HA.out (by simp [natural_Uint.l0])
   | succ k1 =>
    have H := HA.out
    clear HA
    simp only [natural_Uint.l0] at H
    by_cases c6 : x13_1 < (t463.size : Int)
    ·rw [if_pos c6] at H
     have c6b0 : decide (x13_1 < (t463.size : Int)) = true := decide_eq_true c6
     clear c6
     obtain ⟨c7, H⟩ := iN H
     have c7b0 : decide (0 ≤ x13_1) = true := decide_eq_true c7
     clear c7
     obtain ⟨c8, H⟩ := iN H
     have c8b0 : decide (x13_1 < (t463.size : Int)) = true := decide_eq_true c8
     clear c8
     have H' := Aside0.mk H
     clear H
     have p9 : 0 ≤ (x13_1 : Int) := oa
     have q9 : x13_1 < (t463.size : Int) := oa
     have hx9 := bt_at t463 x13_1
     replace p9 := eq_true p9
     replace q9 := eq_true q9
     go_wp2
     go_roundg k1
     case measure => have := HK1.out; omega
     case rel => exact ⟨(Go.bits .or .u64 (IntKind.u64.wrap (x4_1 * 256)) (IntKind.u64.wrap (bt t463 x13_1))), (wrap64 (x13_1 + 1)), fs, fs, H', ⟨by have := HK1.out; omega⟩, ⟨bz HB.out⟩⟩
    ·rw [if_neg c6] at H
     have c6b0 : decide (x13_1 < (t463.size : Int)) = false := decide_eq_false c6
     clear c6
     simp only [Option.some.injEq, Prod.mk.injEq] at H
     obtain ⟨rfl, rfl⟩ := H
     go_wp2
     go_ret2
     exact ⟨fe, bz HB.out⟩

/-! ### rational_Int64: function 14 -/
mutual
def rational_Int64.j0 : Nat → Int → Bool → Bool → ByteArray → ByteArray → Option (Int × Bool)
 | 0, _, _, _, _, _ => none
 | k + 1, x4, x14, x465000, x465001, x465002 => if x14 = true then (some (0, false)) else (if x465000 = true then (rational_Int64.j1 k x4 (decide (x4 ≤ 9223372036854775808)) x465000 x465001 x465002) else (rational_Int64.j1 k x4 false x465000 x465001 x465002))
def rational_Int64.j1 : Nat → Int → Bool → Bool → ByteArray → ByteArray → Option (Int × Bool)
 | 0, _, _, _, _, _ => none
 | k + 1, x4, x22, x465000, x465001, x465002 => if x22 = true then (some (wrap64 (-(wrap64 (x4))), true)) else (if x465000 = true then (some (0, false)) else (if x4 ≤ 9223372036854775807 then (some (wrap64 (x4), true)) else (some (0, false))))
end
def rational_Int64.f (k : Nat) (a0_0 : Bool) (a0_1 : ByteArray) (a0_2 : ByteArray) : Option (Int × Bool) := (rational_clean.f k a0_0 a0_1 a0_2).bind fun bt465 => ((natural_Uint.f k bt465.2.1).bind fun bt468 => (if bt465.2.2.toList = ([] : List UInt8) then (rational_Int64.j0 k bt468.1 (!bt468.2) bt465.1 bt465.2.1 bt465.2.2) else (rational_Int64.j0 k bt468.1 true bt465.1 bt465.2.1 bt465.2.2)))
theorem rational_Int64.mono_l : ∀ k, (∀ y0 y1 y2 y3 y4, LeO (rational_Int64.j0 k y0 y1 y2 y3 y4) (rational_Int64.j0 (k + 1) y0 y1 y2 y3 y4)) ∧ (∀ y0 y1 y2 y3 y4, LeO (rational_Int64.j1 k y0 y1 y2 y3 y4) (rational_Int64.j1 (k + 1) y0 y1 y2 y3 y4))
 | 0 => ⟨fun _ _ _ _ _ r h => by simp [rational_Int64.j0] at h, fun _ _ _ _ _ r h => by simp [rational_Int64.j1] at h⟩
 | k + 1 => by
  obtain ⟨ih0, ih1⟩ := rational_Int64.mono_l k
  refine ⟨?_, ?_⟩
  ·intro y0 y1 y2 y3 y4
   unfold rational_Int64.j0
   repeat' first
   | (with_reducible exact ih0 _ _ _ _ _)
   | (with_reducible exact ih1 _ _ _ _ _)
   | (with_reducible exact natural_Uint.mono _ _)
   | (with_reducible exact rational_clean.mono _ _ _ _)
   | (with_reducible exact LeO.refl _)
   | (with_reducible exact LeO.none _)
   | (with_reducible refine LeO.ite ?_ ?_)
   | (with_reducible refine LeO.bind ?_ (fun _ => ?_))
   | exact ih0 _ _ _ _ _
   | exact ih1 _ _ _ _ _
   | exact natural_Uint.mono _ _
   | exact rational_clean.mono _ _ _ _
   | exact LeO.none _
   | refine LeO.ite ?_ ?_
   | refine LeO.bind ?_ (fun _ => ?_)
  ·intro y0 y1 y2 y3 y4
   unfold rational_Int64.j1
   repeat' first
   | (with_reducible exact ih0 _ _ _ _ _)
   | (with_reducible exact ih1 _ _ _ _ _)
   | (with_reducible exact natural_Uint.mono _ _)
   | (with_reducible exact rational_clean.mono _ _ _ _)
   | (with_reducible exact LeO.refl _)
   | (with_reducible exact LeO.none _)
   | (with_reducible refine LeO.ite ?_ ?_)
   | (with_reducible refine LeO.bind ?_ (fun _ => ?_))
   | exact ih0 _ _ _ _ _
   | exact ih1 _ _ _ _ _
   | exact natural_Uint.mono _ _
   | exact rational_clean.mono _ _ _ _
   | exact LeO.none _
   | refine LeO.ite ?_ ?_
   | refine LeO.bind ?_ (fun _ => ?_)
theorem rational_Int64.mono : ∀ a0 a1 a2 k, LeO (rational_Int64.f k a0 a1 a2) (rational_Int64.f (k + 1) a0 a1 a2) := by
 intro a0 a1 a2 k
 obtain ⟨ih0, ih1⟩ := rational_Int64.mono_l k
 unfold rational_Int64.f
 repeat' first
   | (with_reducible exact ih0 _ _ _ _ _)
   | (with_reducible exact ih1 _ _ _ _ _)
   | (with_reducible exact natural_Uint.mono _ _)
   | (with_reducible exact rational_clean.mono _ _ _ _)
   | (with_reducible exact LeO.refl _)
   | (with_reducible exact LeO.none _)
   | (with_reducible refine LeO.ite ?_ ?_)
   | (with_reducible refine LeO.bind ?_ (fun _ => ?_))
   | exact ih0 _ _ _ _ _
   | exact ih1 _ _ _ _ _
   | exact natural_Uint.mono _ _
   | exact rational_clean.mono _ _ _ _
   | exact LeO.none _
   | refine LeO.ite ?_ ?_
   | refine LeO.bind ?_ (fun _ => ?_)
set_option maxHeartbeats 8000000 in
set_option maxRecDepth 100000 in
theorem rational_Int64.calls (k : Nat) (a0_0 : Bool) (a0_1 : ByteArray) (a0_2 : ByteArray) (r1 : Int) (r2 : Bool) (w : World) (h : rational_Int64.f k a0_0 a0_1 a0_2 = some (r1, r2)) :
  Calls Tryd.prog 14 #[.agg #[.bool a0_0, .string a0_1, .string a0_2]] w fun e w' => e = .returned (.tuple #[.int .i64 r1, .bool r2]) ∧ Below w.heap.size w w' := by
 have hu23 := Tryd.underlying23
 have HB := Aside0.mk (Below.refl w.heap.size w)
 have H := h
 clear h
 unfold rational_Int64.f at H
 obtain ⟨⟨t465, t466, t467⟩, A2, H⟩ := bs1 H; dsimp only at H
 obtain ⟨⟨t468, t469⟩, A3, H⟩ := bs1 H; dsimp only at H
 have HC4 := Aside0.mk H
 clear H
 go_enter Tryd.func14, Tryd.ntmps14
 (try (simp only [Exit.then]; refine (by assumption : ∀ (a : Act) (w : World), Code.wp _ _ _ a w → _) _ _ ?_))
 go_upto_region 3 with (first | ((with_reducible refine gd 1 rfl ?_); refine bx 1 (#[.bool a0_0, .string a0_1, .string a0_2]) 23 ?_; intro gb464 hg w5 hbox hb; have BK464 := Aside0.mk (hbox); have GW464 := sg hg HB.out; have GE464 := sg hg HB.out; replace HB := Aside0.mk (bs HB.out hb); clear hb hbox hg; obtain ⟨hcz6_0, hcz6_1, hcz6_2, hfz6_0, hfz6_1, hfz6_2⟩ := c3 BK464.out) | ((with_reducible refine gc 34 rfl ?_); refine gl (some 7) Tryd.func34 #[.agg #[.bool a0_0, .string a0_1, .string a0_2]] ?_; (with_reducible refine (rational_clean.calls k a0_0 a0_1 a0_2 t465 t466 t467 _ A2.out).mono ?_); rintro e w7 ⟨rfl, hb⟩; refine ⟨_, rfl, ?_⟩; replace BK464 := Aside0.mk (bk0 BK464.out hb); replace HB := Aside0.mk (bs HB.out hb); (try clear hb); obtain ⟨hcz8_0, hcz8_1, hcz8_2, hfz8_0, hfz8_1, hfz8_2⟩ := c3 BK464.out) | ((with_reducible refine gc 35 rfl ?_); refine gl (some 11) Tryd.func35 #[.string t466] ?_; (with_reducible refine (natural_Uint.calls k t466 t468 t469 _ A3.out).mono ?_); rintro e w9 ⟨rfl, hb⟩; refine ⟨_, rfl, ?_⟩; replace BK464 := Aside0.mk (bk BK464.out hb (.cells #[.bool t465, .string t466, .string t467] 23 (0, 0))); replace HB := Aside0.mk (bs HB.out hb); (try clear hb)))
 (try simp only [Act.put, List.setIfInBounds_toArray, List.set_cons_zero, List.set_cons_succ])
 go_cut [14] (fun v14 wc => ∃ (kq : Nat) (x14_3 : Bool), v14 = .bool x14_3 ∧ Aside0 (rational_Int64.j0 kq t468 x14_3 t465 t466 t467 = some (r1, r2)) ∧ Aside0 (kq ≤ k) ∧ Aside0 (wc.heap[gb464]? = some (.cells #[.bool t465, .string t466, .string t467] 23 (0, 0))) ∧ Aside0 (Below w.heap.size w wc))
 case first =>
  have H := HC4.out
  clear HC4
  by_cases c10 : t467.toList = ([] : List UInt8)
  ·rw [if_pos c10] at H
   have c10b0 := beq_iff_eq.mpr c10
   have c10b1 := bne_eq_false_iff_eq.mpr c10
   clear c10
   (first | rw [c10b0] | (simp only [i64_w, i32_w]; rw [c10b0]) | skip)
   have H' := Aside0.mk H
   clear H
   obtain ⟨hcz11_0, hcz11_1, hcz11_2, hfz11_0, hfz11_1, hfz11_2⟩ := c3 BK464.out
   go_wp2
   go_meet
   case rel => exact ⟨_, (!t469), fs, H', ⟨by first | omega | exact Nat.le_refl _⟩, ⟨bq BK464.out⟩, ⟨bz HB.out⟩⟩
  ·rw [if_neg c10] at H
   have c10b0 := beq_eq_false_iff_ne.mpr c10
   have c10b1 := bne_iff_ne.mpr c10
   (first | rw [c10b0] | (simp only [i64_w, i32_w]; rw [c10b0]) | skip)
   have H' := Aside0.mk H
   clear H
   obtain ⟨hcz12_0, hcz12_1, hcz12_2, hfz12_0, hfz12_1, hfz12_2⟩ := c3 BK464.out
   go_wp2
   go_meet
   case rel => exact ⟨_, (true), fs, H', ⟨by first | omega | exact Nat.le_refl _⟩, ⟨bq BK464.out⟩, ⟨bz HB.out⟩⟩
 case rest =>
  clear HC4
  try clear c1
  try clear p2
  try clear c3
  try clear c10
  try clear c10b0
  try clear c10b1
  try clear hcz11_0
  try clear hcz11_1
  try clear hcz11_2
  try clear hcz12_0
  try clear hcz12_1
  try clear hcz12_2
  try clear hcz6_0
  try clear hcz6_1
  try clear hcz6_2
  try clear hcz8_0
  try clear hcz8_1
  try clear hcz8_2
  try clear hfz11_0
  try clear hfz11_1
  try clear hfz11_2
  try clear hfz12_0
  try clear hfz12_1
  try clear hfz12_2
  try clear hfz6_0
  try clear hfz6_1
  try clear hfz6_2
  try clear hfz8_0
  try clear hfz8_1
  try clear hfz8_2
  obtain ⟨kq, x14_3, rfl, HA, HJ3, BK464, HB⟩ := hcut
  cases kq with
  | zero => exact absurd HA.out (by simp [rational_Int64.j0])
  | succ kj3 =>
   have H := HA.out
   clear HA
   simp only [rational_Int64.j0] at H
   by_cases c13 : x14_3 = true
   ·subst c13
    have H1 : (some (0, false)) = some (r1, r2) := by rw [if_pos rfl] at H; exact H
    clear H
    have H := H1
    clear H1
    simp only [Option.some.injEq, Prod.mk.injEq] at H
    obtain ⟨rfl, rfl⟩ := H
    go_wp2
    go_ret2
    exact ⟨fe, bz HB.out⟩
   ·replace c13 := Bool.eq_false_iff.mpr c13
    subst c13
    have H1 : (if t465 = true then (rational_Int64.j1 kj3 t468 (decide (t468 ≤ 9223372036854775808)) t465 t466 t467) else (rational_Int64.j1 kj3 t468 false t465 t466 t467)) = some (r1, r2) := by rw [if_neg (show ¬ (false = true) by decide)] at H; exact H
    clear H
    have H := H1
    clear H1
    have HC14 := Aside0.mk H
    clear H
    (try (simp only [Exit.then]; refine (by assumption : ∀ (a : Act) (w : World), Code.wp _ _ _ a w → _) _ _ ?_))
    go_upto_region 5 with (fail)
    go_cut [22] (fun v22 wc => ∃ (kq : Nat) (x22_13 : Bool), v22 = .bool x22_13 ∧ Aside0 (rational_Int64.j1 kq t468 x22_13 t465 t466 t467 = some (r1, r2)) ∧ Aside0 (kq ≤ kj3) ∧ Aside0 (wc.heap[gb464]? = some (.cells #[.bool t465, .string t466, .string t467] 23 (0, 0))) ∧ Aside0 (Below w.heap.size w wc))
    case first =>
     have H := HC14.out
     clear HC14
     by_cases c15 : t465 = true
     ·subst c15
      have H1 : (rational_Int64.j1 kj3 t468 (decide (t468 ≤ 9223372036854775808)) true t466 t467) = some (r1, r2) := by rw [if_pos rfl] at H; exact H
      clear H
      have H := H1
      clear H1
      have H' := Aside0.mk H
      clear H
      obtain ⟨hcz16_0, hcz16_1, hcz16_2, hfz16_0, hfz16_1, hfz16_2⟩ := c3 BK464.out
      go_wp2
      go_meet
      case rel => exact ⟨_, (decide (t468 ≤ 9223372036854775808)), fs, H', ⟨by have := HJ3.out; first | omega | exact Nat.le_refl _⟩, ⟨bq BK464.out⟩, ⟨bz HB.out⟩⟩
     ·replace c15 := Bool.eq_false_iff.mpr c15
      subst c15
      have H1 : (rational_Int64.j1 kj3 t468 false false t466 t467) = some (r1, r2) := by rw [if_neg (show ¬ (false = true) by decide)] at H; exact H
      clear H
      have H := H1
      clear H1
      have H' := Aside0.mk H
      clear H
      obtain ⟨hcz17_0, hcz17_1, hcz17_2, hfz17_0, hfz17_1, hfz17_2⟩ := c3 BK464.out
      go_wp2
      go_meet
      case rel => exact ⟨_, (false), fs, H', ⟨by have := HJ3.out; first | omega | exact Nat.le_refl _⟩, ⟨bq BK464.out⟩, ⟨bz HB.out⟩⟩
    case rest =>
     clear HC14
     try clear c1
     try clear p2
     try clear c3
     try clear c10
     try clear c10b0
     try clear c10b1
     try clear c13
     try clear c14
     try clear c15
     try clear hcz11_0
     try clear hcz11_1
     try clear hcz11_2
     try clear hcz12_0
     try clear hcz12_1
     try clear hcz12_2
     try clear hcz16_0
     try clear hcz16_1
     try clear hcz16_2
     try clear hcz17_0
     try clear hcz17_1
     try clear hcz17_2
     try clear hcz6_0
     try clear hcz6_1
     try clear hcz6_2
     try clear hcz8_0
     try clear hcz8_1
     try clear hcz8_2
     try clear hfz11_0
     try clear hfz11_1
     try clear hfz11_2
     try clear hfz12_0
     try clear hfz12_1
     try clear hfz12_2
     try clear hfz16_0
     try clear hfz16_1
     try clear hfz16_2
     try clear hfz17_0
     try clear hfz17_1
     try clear hfz17_2
     try clear hfz6_0
     try clear hfz6_1
     try clear hfz6_2
     try clear hfz8_0
     try clear hfz8_1
     try clear hfz8_2
     try clear p2
     obtain ⟨kq, x22_13, rfl, HA, HJ13, BK464, HB⟩ := hcut
     cases kq with
     | zero => exact absurd HA.out (by simp [rational_Int64.j1])
     | succ kj13 =>
      have H := HA.out
      clear HA
      simp only [rational_Int64.j1] at H
      by_cases c18 : x22_13 = true
      ·subst c18
       have H1 : (some (wrap64 (-(wrap64 (t468))), true)) = some (r1, r2) := by rw [if_pos rfl] at H; exact H
       clear H
       have H := H1
       clear H1
       simp only [Option.some.injEq, Prod.mk.injEq] at H
       obtain ⟨rfl, rfl⟩ := H
       go_wp2
       go_ret2
       exact ⟨fe, bz HB.out⟩
      ·replace c18 := Bool.eq_false_iff.mpr c18
       subst c18
       have H1 : (if t465 = true then (some (0, false)) else (if t468 ≤ 9223372036854775807 then (some (wrap64 (t468), true)) else (some (0, false)))) = some (r1, r2) := by rw [if_neg (show ¬ (false = true) by decide)] at H; exact H
       clear H
       have H := H1
       clear H1
       by_cases c19 : t465 = true
       ·subst c19
        have H1 : (some (0, false)) = some (r1, r2) := by rw [if_pos rfl] at H; exact H
        clear H
        have H := H1
        clear H1
        simp only [Option.some.injEq, Prod.mk.injEq] at H
        obtain ⟨rfl, rfl⟩ := H
        obtain ⟨hcz20_0, hcz20_1, hcz20_2, hfz20_0, hfz20_1, hfz20_2⟩ := c3 BK464.out
        go_wp2
        go_ret2
        exact ⟨fe, bz HB.out⟩
       ·replace c19 := Bool.eq_false_iff.mpr c19
        subst c19
        have H1 : (if t468 ≤ 9223372036854775807 then (some (wrap64 (t468), true)) else (some (0, false))) = some (r1, r2) := by rw [if_neg (show ¬ (false = true) by decide)] at H; exact H
        clear H
        have H := H1
        clear H1
        by_cases c21 : t468 ≤ 9223372036854775807
        ·rw [if_pos c21] at H
         have c21b0 : decide (t468 ≤ 9223372036854775807) = true := decide_eq_true c21
         clear c21
         simp only [Option.some.injEq, Prod.mk.injEq] at H
         obtain ⟨rfl, rfl⟩ := H
         obtain ⟨hcz22_0, hcz22_1, hcz22_2, hfz22_0, hfz22_1, hfz22_2⟩ := c3 BK464.out
         go_wp2
         go_ret2
         exact ⟨fe, bz HB.out⟩
        ·rw [if_neg c21] at H
         have c21b0 : decide (t468 ≤ 9223372036854775807) = false := decide_eq_false c21
         clear c21
         simp only [Option.some.injEq, Prod.mk.injEq] at H
         obtain ⟨rfl, rfl⟩ := H
         obtain ⟨hcz23_0, hcz23_1, hcz23_2, hfz23_0, hfz23_1, hfz23_2⟩ := c3 BK464.out
         go_wp2
         go_ret2
         exact ⟨fe, bz HB.out⟩

/-! ### natural_subtract: function 90 -/
def natural_subtract.l0 : Nat → List Int → List Int → List Int → Int → Int → Int → Option (List Int)
 | 0, _, _, _, _, _, _ => none
 | k + 1, x0, x1, x5, x6, x13, x14 => if x14 < x13 then (if x14 < (x1.length : Int) then (if 0 ≤ x14 then (if x14 < (x0.length : Int) then ((bits_Sub32.f (rd x0 x14) (rd x1 x14) x6).bind fun bt475 => (if x14 < (x5.length : Int) then (natural_subtract.l0 k x0 x1 (x5.set (x14 : Int).toNat bt475.1) bt475.2 x13 (wrap64 (x14 + 1))) else (none))) else (none)) else (none)) else (if 0 ≤ x14 then (if x14 < (x0.length : Int) then ((bits_Sub32.f (rd x0 x14) 0 x6).bind fun bt479 => (if x14 < (x5.length : Int) then (natural_subtract.l0 k x0 x1 (x5.set (x14 : Int).toNat bt479.1) bt479.2 x13 (wrap64 (x14 + 1))) else (none))) else (none)) else (none))) else ((natural_limbs_trim.f k x5).bind fun t482 => (some t482))
def natural_subtract.f (k : Nat) (l0 : List Int) (l1 : List Int) : Option (List Int) := if 0 ≤ (l0.length : Int) then (if ((l0.length : Int) : Int).toNat ≤ 70368744177664 then (natural_subtract.l0 k l0 l1 (List.replicate ((l0.length : Int) : Int).toNat 0) 0 (l0.length : Int) 0) else (none)) else (none)
theorem natural_subtract.mono_l : ∀ k, (∀ y0 y1 y2 y3 y4 y5, LeO (natural_subtract.l0 k y0 y1 y2 y3 y4 y5) (natural_subtract.l0 (k + 1) y0 y1 y2 y3 y4 y5))
 | 0 => fun _ _ _ _ _ _ r h => by simp [natural_subtract.l0] at h
 | k + 1 => by
  have ih0 := natural_subtract.mono_l k
  ·intro y0 y1 y2 y3 y4 y5
   unfold natural_subtract.l0
   repeat' first
   | (with_reducible exact ih0 _ _ _ _ _ _)
   | (with_reducible exact natural_limbs_trim.mono _ _)
   | (with_reducible exact LeO.refl _)
   | (with_reducible exact LeO.none _)
   | (with_reducible refine LeO.ite ?_ ?_)
   | (with_reducible refine LeO.bind ?_ (fun _ => ?_))
   | exact ih0 _ _ _ _ _ _
   | exact natural_limbs_trim.mono _ _
   | exact LeO.none _
   | refine LeO.ite ?_ ?_
   | refine LeO.bind ?_ (fun _ => ?_)
theorem natural_subtract.mono : ∀ a0 a1 k, LeO (natural_subtract.f k a0 a1) (natural_subtract.f (k + 1) a0 a1) := by
 intro a0 a1 k
 have ih0 := natural_subtract.mono_l k
 unfold natural_subtract.f
 repeat' first
   | (with_reducible exact ih0 _ _ _ _ _ _)
   | (with_reducible exact natural_limbs_trim.mono _ _)
   | (with_reducible exact LeO.refl _)
   | (with_reducible exact LeO.none _)
   | (with_reducible refine LeO.ite ?_ ?_)
   | (with_reducible refine LeO.bind ?_ (fun _ => ?_))
   | exact ih0 _ _ _ _ _ _
   | exact natural_limbs_trim.mono _ _
   | exact LeO.none _
   | refine LeO.ite ?_ ?_
   | refine LeO.bind ?_ (fun _ => ?_)
set_option maxHeartbeats 8000000 in
set_option maxRecDepth 100000 in
theorem natural_subtract.calls (k : Nat) (A0 : Option Addr) (c0 : Nat) (l0 : List Int) (A1 : Option Addr) (c1 : Nat) (l1 : List Int) (r : List Int) (w : World) (hr0 : Kd.C (Kd.int .u32) w A0 l0.length l0) (hc0 : l0.length ≤ c0) (hr1 : Kd.C (Kd.int .u32) w A1 l1.length l1) (hc1 : l1.length ≤ c1) (h : natural_subtract.f k l0 l1 = some r) :
  Calls Tryd.prog 90 #[.slice A0 l0.length c0, .slice A1 l1.length c1] w fun e w' => ∃ v0_ : Value, e = .returned (v0_) ∧ Kd.V (Kd.int .u32) 72 w' w.heap.size (fun k_ => (w.heap.size ≤ k_)) v0_ r ∧ Below w.heap.size w w' := by
 have HR0 := Aside0.mk hr0
 have HC0 := Aside0.mk hc0
 clear hr0 hc0
 have HR1 := Aside0.mk hr1
 have HC1 := Aside0.mk hc1
 clear hr1 hc1
 have HB := Aside0.mk (Below.refl w.heap.size w)
 have H := h
 clear h
 unfold natural_subtract.f at H
 obtain ⟨c3, H⟩ := iN H
 have c3b0 := eq_true c3
 have c3b1 : decide (0 ≤ (l0.length : Int)) = true := decide_eq_true c3
 clear c3
 obtain ⟨c4, H⟩ := iN H
 have c4b0 := eq_true c4
 have c4b1 : decide (((l0.length : Int) : Int).toNat ≤ 70368744177664) = true := decide_eq_true c4
 clear c4
 obtain ⟨y470, hy470⟩ : ∃ y_ : List Int, y_ = (List.replicate ((l0.length : Int) : Int).toNat 0) := ⟨_, rfl⟩
 replace H : (natural_subtract.l0 k l0 l1 y470 0 (l0.length : Int) 0) = some r := by first | (rw [hy470]; with_reducible exact H) | (have H2_ := (Option.bind_some _ _).symm.trans H; rw [hy470]; with_reducible exact H2_) | (have H2_ := (Option.bind_some _ _).symm.trans H; with_reducible exact H2_) | with_reducible exact H | (rw [hy470]; exact H) | exact H
 have Ny470 := Aside0.mk hy470
 clear hy470
 have H' := Aside0.mk H
 clear H
 go_enter Tryd.func90, Tryd.ntmps90
 go_wp2_with (first | ((with_reducible refine gd 11 rfl ?_); refine Kd.R_make (Kd.int .u32) _ 72 rfl (N := 11) rfl 65 _ _ rfl (l0.length : Int) rfl rfl Tryd.underlying65 (.int .u32 0) 4 info72 rfl (by decide) (by omega) 0 (ok := fun _ => True) (okp := fun _ => True) rfl (fun _ hk => hk) trivial oa (Nat.le_trans (Nat.mul_le_mul_right _ (oa : (l0.length : Int).toNat ≤ 70368744177664)) (by omega)) (Below.refl _ _) (Nat.le_refl _) ?_; intro v471 w5 ho6 hb hg_ hnew_; clear hg_ hnew_; (first | rw [← Ny470.out] at ho6 | (simp only [Int.reduceToNat] at ho6; rw [← Ny470.out] at ho6)); have HO472 := Aside0.mk (Kd.R_lower (Kd.R_newM (M := fun k_ => (w.heap.size ≤ k_)) ho6 (sz HB.out) (fun k_ h_ => h_)) (sz HB.out)); replace HB := Aside0.mk (bs HB.out hb); clear hb ho6))
 go_loopg [6, 14] k (fun kq v6 v14 w' => ∃ (x5_1 : List Int) (x6_1 : Int) (x14_1 : Int), v6 = .int .u32 x6_1 ∧ v14 = .int .i64 x14_1 ∧ Aside0 (natural_subtract.l0 kq l0 l1 x5_1 x6_1 (l0.length : Int) x14_1 = some r) ∧ Aside0 (kq ≤ k) ∧ Aside0 (Kd.R (Kd.int .u32) 72 w' w.heap.size (fun k_ => (w.heap.size ≤ k_)) v471 x5_1) ∧ Aside0 (Below w.heap.size w w'))
 case atStart => exact ⟨(y470), (0), (0), fs, fs, H', ⟨Nat.le_refl _⟩, ⟨rm HO472.out (fun _ hk => hk.1)⟩, ⟨bz HB.out⟩⟩
 case round =>
  clear H'
  try clear c1
  try clear p2
  try clear c3
  try clear c3b0
  try clear c3b1
  try clear c4
  try clear c4b0
  try clear c4b1
  obtain ⟨x5_1, x6_1, x14_1, rfl, rfl, HA, HK1, HO_5, HB⟩ := hrel
  cases gk with
  | zero => exact absurd HA.out (by simp [natural_subtract.l0])
  | succ k1 =>
   have H := HA.out
   clear HA
   simp only [natural_subtract.l0] at H
   by_cases c7 : x14_1 < (l0.length : Int)
   ·rw [if_pos c7] at H
    have c7b0 : decide (x14_1 < (l0.length : Int)) = true := decide_eq_true c7
    clear c7
    by_cases c8 : x14_1 < (l1.length : Int)
    ·rw [if_pos c8] at H
     have c8b0 : decide (x14_1 < (l1.length : Int)) = true := decide_eq_true c8
     clear c8
     obtain ⟨c9, H⟩ := iN H
     have c9b0 : decide (0 ≤ x14_1) = true := decide_eq_true c9
     clear c9
     obtain ⟨c10, H⟩ := iN H
     have c10b0 : decide (x14_1 < (l0.length : Int)) = true := decide_eq_true c10
     clear c10
     obtain ⟨⟨t475, t476⟩, A11, H⟩ := bs1 H; dsimp only at H
     obtain ⟨c12, H⟩ := iN H
     have c12b0 : decide (x14_1 < (x5_1.length : Int)) = true := decide_eq_true c12
     clear c12
     obtain ⟨y477, hy477⟩ : ∃ y_ : List Int, y_ = (x5_1.set (x14_1 : Int).toNat t475) := ⟨_, rfl⟩
     replace H : (natural_subtract.l0 k1 l0 l1 y477 t476 (l0.length : Int) (wrap64 (x14_1 + 1))) = some r := by first | (rw [hy477]; with_reducible exact H) | (have H2_ := (Option.bind_some _ _).symm.trans H; rw [hy477]; with_reducible exact H2_) | (have H2_ := (Option.bind_some _ _).symm.trans H; with_reducible exact H2_) | with_reducible exact H | (rw [hy477]; exact H) | exact H
     have Ny477 := Aside0.mk hy477
     clear hy477
     have H' := Aside0.mk H
     clear H
     have p473 : 0 ≤ (x14_1 : Int) := oa
     have q473 : x14_1 < (l1.length : Int) := oa
     obtain ⟨ad473, e473, hx473_0⟩ := Kd.at_int HR1.out x14_1 p473 q473
     cases e473
     try replace hx473_0 := (HB.out.cell (World.block_lt_of_cell? w _ hx473_0)).trans hx473_0
     replace p473 := eq_true p473
     replace q473 := eq_true q473
     have p474 : 0 ≤ (x14_1 : Int) := oa
     have q474 : x14_1 < (l0.length : Int) := oa
     obtain ⟨ad474, e474, hx474_0⟩ := Kd.at_int HR0.out x14_1 p474 q474
     cases e474
     try replace hx474_0 := (HB.out.cell (World.block_lt_of_cell? w _ hx474_0)).trans hx474_0
     replace p474 := eq_true p474
     replace q474 := eq_true q474
     go_wp2_with (first | ((with_reducible refine gc 104 rfl ?_); refine gl (some 34) Tryd.func104 #[.int .u32 (rd l0 x14_1), .int .u32 (rd l1 x14_1), .int .u32 x6_1] ?_; (with_reducible refine (bits_Sub32.calls (rd l0 x14_1) (rd l1 x14_1) x6_1 t475 t476 _ A11.out).mono ?_); rintro e w' ⟨rfl, ⟨nd, rfl⟩⟩; refine ⟨_, rfl, ?_⟩; (try (rw [drewN_self wr]; generalize hq_ : World.drewN wr _ = wr; have n0_ : Aside0 (Kd.R (Kd.int .u32) 72 wr w.heap.size (fun k_ => (w.heap.size ≤ k_)) v471 x5_1) := ⟨by rw [← hq_]; exact (vs HO_5.out)⟩; have n1_ : Aside0 (Below w.heap.size w wr) := ⟨by rw [← hq_]; exact (bz HB.out)⟩; clear HO_5 HB hq_; have HO_5 := n0_; have HB := n1_; clear n0_ n1_)); have p13 : 0 ≤ (x14_1 : Int) := oa; have q13 : (x14_1 : Int) < ((x5_1.length : Int) : Int) := oa; obtain ⟨go13, co13, eo13, gb13, gl13, cl13, HG13⟩ := Kd.R_form HO_5.out (by omega); (first | cases eo13 | (injection eo13 with ea_ en_ ec_; (first | subst ea_ | (injection ea_ with ea_; subst ea_)); subst ec_; clear en_)); have GB13 := Aside0.mk gb13; have GG13 := Aside0.mk HG13; clear gb13 gl13 HG13; obtain ⟨hx13_0, hf13_0⟩ := Kd.R_celln 0 HO_5.out (x14_1 : Int) p13 q13; replace p13 := eq_true p13; replace q13 := eq_true q13; obtain ⟨hy14_, hz14_⟩ := Kd.R_celln 0 HO_5.out (x14_1 : Int) oa oa; have HP14 := Kd.R_putg HO_5.out (x14_1 : Int) t475) | ((with_reducible refine gate_store (t := 72) (p := 37) rfl ?_); refine se 72 37 (w1 := (wr.setCell ⟨go13, (x14_1 : Int).toNat, none⟩ (.int .u32 t475))) ?_; intro w15 hw; have hg : wr.grownBy w15 (some go13) := (by rw [hw]; exact HP14.2); have hp_ : Kd.R (Kd.int .u32) 72 w15 w.heap.size (fun k_ => (w.heap.size ≤ k_)) (.slice (some ⟨go13, 0, none⟩) x5_1.length co13) y477 := (by rw [hw, Ny477.out]; exact HP14.1); clear HP14; replace HO_5 := Aside0.mk (hp_); replace HB := Aside0.mk ((by rw [hw]; exact below_set (HB.out) GB13.out : Below w.heap.size w w15)); clear hg hw hp_))
     go_roundg k1
     case measure => have := HK1.out; omega
     case rel => exact ⟨(y477), (t476), (wrap64 (x14_1 + 1)), fs, fs, H', ⟨by have := HK1.out; omega⟩, ⟨vs HO_5.out⟩, ⟨bz HB.out⟩⟩
    ·rw [if_neg c8] at H
     have c8b0 : decide (x14_1 < (l1.length : Int)) = false := decide_eq_false c8
     clear c8
     obtain ⟨c16, H⟩ := iN H
     have c16b0 : decide (0 ≤ x14_1) = true := decide_eq_true c16
     clear c16
     obtain ⟨c17, H⟩ := iN H
     have c17b0 : decide (x14_1 < (l0.length : Int)) = true := decide_eq_true c17
     clear c17
     obtain ⟨⟨t479, t480⟩, A18, H⟩ := bs1 H; dsimp only at H
     obtain ⟨c19, H⟩ := iN H
     have c19b0 : decide (x14_1 < (x5_1.length : Int)) = true := decide_eq_true c19
     clear c19
     obtain ⟨y481, hy481⟩ : ∃ y_ : List Int, y_ = (x5_1.set (x14_1 : Int).toNat t479) := ⟨_, rfl⟩
     replace H : (natural_subtract.l0 k1 l0 l1 y481 t480 (l0.length : Int) (wrap64 (x14_1 + 1))) = some r := by first | (rw [hy481]; with_reducible exact H) | (have H2_ := (Option.bind_some _ _).symm.trans H; rw [hy481]; with_reducible exact H2_) | (have H2_ := (Option.bind_some _ _).symm.trans H; with_reducible exact H2_) | with_reducible exact H | (rw [hy481]; exact H) | exact H
     have Ny481 := Aside0.mk hy481
     clear hy481
     have H' := Aside0.mk H
     clear H
     have p478 : 0 ≤ (x14_1 : Int) := oa
     have q478 : x14_1 < (l0.length : Int) := oa
     obtain ⟨ad478, e478, hx478_0⟩ := Kd.at_int HR0.out x14_1 p478 q478
     cases e478
     try replace hx478_0 := (HB.out.cell (World.block_lt_of_cell? w _ hx478_0)).trans hx478_0
     replace p478 := eq_true p478
     replace q478 := eq_true q478
     go_wp2_with (first | ((with_reducible refine gc 104 rfl ?_); refine gl (some 34) Tryd.func104 #[.int .u32 (rd l0 x14_1), .int .u32 0, .int .u32 x6_1] ?_; (with_reducible refine (bits_Sub32.calls (rd l0 x14_1) 0 x6_1 t479 t480 _ A18.out).mono ?_); rintro e w' ⟨rfl, ⟨nd, rfl⟩⟩; refine ⟨_, rfl, ?_⟩; (try (rw [drewN_self wr]; generalize hq_ : World.drewN wr _ = wr; have n0_ : Aside0 (Kd.R (Kd.int .u32) 72 wr w.heap.size (fun k_ => (w.heap.size ≤ k_)) v471 x5_1) := ⟨by rw [← hq_]; exact (vs HO_5.out)⟩; have n1_ : Aside0 (Below w.heap.size w wr) := ⟨by rw [← hq_]; exact (bz HB.out)⟩; clear HO_5 HB hq_; have HO_5 := n0_; have HB := n1_; clear n0_ n1_)); have p20 : 0 ≤ (x14_1 : Int) := oa; have q20 : (x14_1 : Int) < ((x5_1.length : Int) : Int) := oa; obtain ⟨go20, co20, eo20, gb20, gl20, cl20, HG20⟩ := Kd.R_form HO_5.out (by omega); (first | cases eo20 | (injection eo20 with ea_ en_ ec_; (first | subst ea_ | (injection ea_ with ea_; subst ea_)); subst ec_; clear en_)); have GB20 := Aside0.mk gb20; have GG20 := Aside0.mk HG20; clear gb20 gl20 HG20; obtain ⟨hx20_0, hf20_0⟩ := Kd.R_celln 0 HO_5.out (x14_1 : Int) p20 q20; replace p20 := eq_true p20; replace q20 := eq_true q20; obtain ⟨hy21_, hz21_⟩ := Kd.R_celln 0 HO_5.out (x14_1 : Int) oa oa; have HP21 := Kd.R_putg HO_5.out (x14_1 : Int) t479) | ((with_reducible refine gate_store (t := 72) (p := 37) rfl ?_); refine se 72 37 (w1 := (wr.setCell ⟨go20, (x14_1 : Int).toNat, none⟩ (.int .u32 t479))) ?_; intro w22 hw; have hg : wr.grownBy w22 (some go20) := (by rw [hw]; exact HP21.2); have hp_ : Kd.R (Kd.int .u32) 72 w22 w.heap.size (fun k_ => (w.heap.size ≤ k_)) (.slice (some ⟨go20, 0, none⟩) x5_1.length co20) y481 := (by rw [hw, Ny481.out]; exact HP21.1); clear HP21; replace HO_5 := Aside0.mk (hp_); replace HB := Aside0.mk ((by rw [hw]; exact below_set (HB.out) GB20.out : Below w.heap.size w w22)); clear hg hw hp_))
     go_roundg k1
     case measure => have := HK1.out; omega
     case rel => exact ⟨(y481), (t480), (wrap64 (x14_1 + 1)), fs, fs, H', ⟨by have := HK1.out; omega⟩, ⟨vs HO_5.out⟩, ⟨bz HB.out⟩⟩
   ·rw [if_neg c7] at H
    have c7b0 : decide (x14_1 < (l0.length : Int)) = false := decide_eq_false c7
    clear c7
    obtain ⟨t482, A23, H⟩ := bs1 H
    obtain rfl := Option.some.inj H
    obtain ⟨Ao24, co24, eo24⟩ := Kd.R_slice HO_5.out
    subst eo24
    go_wp2_with (first | ((with_reducible refine gc 80 rfl ?_); refine gl (some 40) Tryd.func80 #[.slice Ao24 x5_1.length co24] ?_; (with_reducible refine (natural_limbs_trim.calls k1 (fun k_ => some k_ = (.slice Ao24 x5_1.length co24 : Value).ownBlock) _ _ x5_1 t482 _ ?side1 A23.out).mono ?_); (case side1 => exact Kd.R_V (Kd.R_tight rfl (HO_5.out))); rintro e w25 ⟨v483, rfl, ho0, hb⟩; refine ⟨_, rfl, ?_⟩; have HO484 := Aside0.mk (Kd.V_lower (Kd.V_mono (ok' := fun k_ => (w.heap.size ≤ k_)) ho0 (fun k_ hk_ => Or.elim hk_ (fun hs_ => ((HO_5.out).1 k_ hs_.symm)) (fun hn_ => (Nat.le_trans (sz HB.out) hn_)))) (sz HB.out)); replace HO_5 := Aside0.mk (rb HO_5.out hb); replace HB := Aside0.mk (bs HB.out hb); (try clear hb ho0)))
    go_ret
    exact ⟨_, fe, vs HO484.out, bz HB.out⟩

end Go.Proofs.YtgepdnoaemeofaaDoor.E
