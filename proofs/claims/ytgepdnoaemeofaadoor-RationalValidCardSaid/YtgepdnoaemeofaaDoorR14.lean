/- Printed by a program of this session (wip/tools) out of the translation: plain functions and the proofs that the code comes to their answers. -/
import Derived.Test.YtgepdnoaemeofaaDoorK
import Derived.Test.YtgepdnoaemeofaaDoorR0
import Derived.Test.YtgepdnoaemeofaaDoorR7
import Derived.Test.YtgepdnoaemeofaaDoorR8
import Derived.Test.YtgepdnoaemeofaaDoorR9
import Derived.Test.YtgepdnoaemeofaaDoorR12
import Derived.Test.YtgepdnoaemeofaaDoorR13
namespace Go.Proofs.YtgepdnoaemeofaaDoor.R
open Go.RowKit Go.Proofs.YtgepdnoaemeofaaDoorW.PrintWords Go.Proofs.YtgepdnoaemeofaaDoorW.PrintLast Go.Proofs.YtgepdnoaemeofaaDoorW.PrintMore Go.Proofs.YtgepdnoaemeofaaDoorW.PK
attribute [local go_sem] max2_int min2_int max_two min_two max_three min_three max_four min_four   -- for this text's walks alone
set_option linter.unusedVariables false
set_option linter.unusedSimpArgs false

/-! ### rational_Decimal: function 25 -/
def rational_Decimal.j0 : Nat → Int → ByteArray → ByteArray → Bool → ByteArray → ByteArray → Option (ByteArray)
 | 0, _, _, _, _, _, _ => none
 | k + 1, x1, x5, x8, x430000, x430001, x430002 => if x1 > 0 then (if 0 ≤ (wrap64 ((x8.size : Int) - x1)) then (if (wrap64 ((x8.size : Int) - x1)) ≤ (x8.size : Int) then (if (x8.extract 0 ((wrap64 ((x8.size : Int) - x1)) : Int).toNat).size + 1 ≤ 9223372036854775807 then (if ((x8.extract 0 ((wrap64 ((x8.size : Int) - x1)) : Int).toNat) ++ (⟨#[46]⟩ : ByteArray)).size + (x8.extract ((wrap64 ((x8.size : Int) - x1)) : Int).toNat x8.size).size ≤ 9223372036854775807 then (if x430000 = true then (if x5.toList = ([] : List UInt8) then (some (((x8.extract 0 ((wrap64 ((x8.size : Int) - x1)) : Int).toNat) ++ (⟨#[46]⟩ : ByteArray)) ++ (x8.extract ((wrap64 ((x8.size : Int) - x1)) : Int).toNat x8.size))) else (if 1 + (((x8.extract 0 ((wrap64 ((x8.size : Int) - x1)) : Int).toNat) ++ (⟨#[46]⟩ : ByteArray)) ++ (x8.extract ((wrap64 ((x8.size : Int) - x1)) : Int).toNat x8.size)).size ≤ 9223372036854775807 then (some ((⟨#[45]⟩ : ByteArray) ++ (((x8.extract 0 ((wrap64 ((x8.size : Int) - x1)) : Int).toNat) ++ (⟨#[46]⟩ : ByteArray)) ++ (x8.extract ((wrap64 ((x8.size : Int) - x1)) : Int).toNat x8.size)))) else (none))) else (some (((x8.extract 0 ((wrap64 ((x8.size : Int) - x1)) : Int).toNat) ++ (⟨#[46]⟩ : ByteArray)) ++ (x8.extract ((wrap64 ((x8.size : Int) - x1)) : Int).toNat x8.size)))) else (none)) else (none)) else (none)) else (none)) else (if x430000 = true then (if x5.toList = ([] : List UInt8) then (some x8) else (if 1 + x8.size ≤ 9223372036854775807 then (some ((⟨#[45]⟩ : ByteArray) ++ x8)) else (none))) else (some x8))
def rational_Decimal.f (k : Nat) (a0_0 : Bool) (a0_1 : ByteArray) (a0_2 : ByteArray) (a1 : Int) : Option (ByteArray) := (rational_clean.f k a0_0 a0_1 a0_2).bind fun bt430 => ((rational_tenTo.f k (mn (mx a1 0) 20)).bind fun t433 => ((natural_Multiply.f k bt430.2.1 t433).bind fun t434 => ((rational_den.f bt430.1 bt430.2.1 bt430.2.2).bind fun t435 => ((natural_Divide.f k t434 t435).bind fun bt436 => ((natural_Format.f k bt436.1).bind fun t439 => (if (t439.size : Int) ≤ (mn (mx a1 0) 20) then ((strings_Repeat.f (⟨#[48]⟩ : ByteArray) (wrap64 (((mn (mx a1 0) 20) + 1) - (t439.size : Int)))).bind fun t440 => (if t440.size + t439.size ≤ 9223372036854775807 then (rational_Decimal.j0 k (mn (mx a1 0) 20) bt436.1 (t440 ++ t439) bt430.1 bt430.2.1 bt430.2.2) else (none))) else (rational_Decimal.j0 k (mn (mx a1 0) 20) bt436.1 t439 bt430.1 bt430.2.1 bt430.2.2)))))))
theorem rational_Decimal.mono_l : ∀ k, (∀ y0 y1 y2 y3 y4 y5, LeO (rational_Decimal.j0 k y0 y1 y2 y3 y4 y5) (rational_Decimal.j0 (k + 1) y0 y1 y2 y3 y4 y5))
 | 0 => fun _ _ _ _ _ _ r h => by simp [rational_Decimal.j0] at h
 | k + 1 => by
  have ih0 := rational_Decimal.mono_l k
  ·intro y0 y1 y2 y3 y4 y5
   unfold rational_Decimal.j0
   repeat' with_reducible first | exact ih0 _ _ _ _ _ _ | exact natural_Divide.mono _ _ _ | exact natural_Format.mono _ _ | exact natural_Multiply.mono _ _ _ | exact rational_clean.mono _ _ _ _ | exact rational_tenTo.mono _ _ | exact LeO.refl _ | exact LeO.none _ | refine LeO.ite ?_ ?_ | refine LeO.bind ?_ (fun _ => ?_)
theorem rational_Decimal.mono : ∀ a0 a1 a2 a3 k, LeO (rational_Decimal.f k a0 a1 a2 a3) (rational_Decimal.f (k + 1) a0 a1 a2 a3) := by
 intro a0 a1 a2 a3 k
 have ih0 := rational_Decimal.mono_l k
 unfold rational_Decimal.f
 repeat' with_reducible first | exact ih0 _ _ _ _ _ _ | exact natural_Divide.mono _ _ _ | exact natural_Format.mono _ _ | exact natural_Multiply.mono _ _ _ | exact rational_clean.mono _ _ _ _ | exact rational_tenTo.mono _ _ | exact LeO.refl _ | exact LeO.none _ | refine LeO.ite ?_ ?_ | refine LeO.bind ?_ (fun _ => ?_)
def rational_Decimal.T3 : Bool × List (List Nat × List Nat) := (true, [([], []), ([0], [0]), ([], []), ([2], [2]), ([1, 3, 3], [1, 3]), ([], []), ([5, 4], [5]), ([4, 6, 6], [4, 6]), ([7], [7]), ([8], [8]), ([8], [8]), ([8], [8]), ([9, 7, 0, 1, 2, 3, 4, 5, 6, 7, 8, 9], [9]), ([10, 12, 0, 1, 2, 3, 4, 5, 6, 7, 8, 9, 10, 12], [10]), ([11, 13, 0, 1, 2, 3, 4, 5, 6, 7, 8, 9, 10, 11, 12, 13], [11])])
def rational_Decimal.B3 : List Nat := [0, 1, 0, 4, 15, 0, 63, 127, 255, 511, 511, 511, 1023, 6143, 16383]
theorem rational_Decimal.tab3 : rtab .any (opsOf Tryd.f25 3) = rational_Decimal.T3 := by kernel_rfl
theorem rational_Decimal.bits3 : waitsOk rational_Decimal.T3.2 rational_Decimal.B3 = true := by kernel_rfl
def rational_Decimal.T8 : Bool × List (List Nat × List Nat) := (true, [([], []), ([], []), ([1], [1]), ([], []), ([2, 3], [2, 3]), ([0, 4], [0, 4]), ([5], [5]), ([], []), ([], []), ([8], [8]), ([], []), ([9, 10], [9, 10]), ([7, 11], [7, 11]), ([6, 12], [6, 12]), ([13, 0, 1, 2, 3, 4, 5, 6, 7, 8, 9, 10, 11, 12, 13], [0, 1, 7, 8, 13])])
def rational_Decimal.B8 : List Nat := [0, 0, 2, 0, 14, 31, 63, 0, 0, 256, 0, 1792, 3968, 8191, 16383]
theorem rational_Decimal.tab8 : rtab .any (opsOf Tryd.f25 8) = rational_Decimal.T8 := by kernel_rfl
theorem rational_Decimal.bits8 : waitsOk rational_Decimal.T8.2 rational_Decimal.B8 = true := by kernel_rfl
set_option maxHeartbeats 8000000 in
set_option maxRecDepth 100000 in
theorem rational_Decimal.calls (k : Nat) (a0_0 : Bool) (a0_1 : ByteArray) (a0_2 : ByteArray) (a1 : Int) (r : ByteArray) (w : World) (h : rational_Decimal.f k a0_0 a0_1 a0_2 a1 = some r) :
  Calls Tryd.prog 25 #[.agg #[.bool a0_0, .string a0_1, .string a0_2], .int .i64 a1] w fun e w' => e = .returned (.string r) ∧ Below w.heap.size w w' := by
 have hu23 := Tryd.underlying23
 have HB := Aside0.mk (Below.refl w.heap.size w)
 have H := h
 clear h
 unfold rational_Decimal.f at H
 obtain ⟨⟨t430, t431, t432⟩, A3, H⟩ := bs1 H; dsimp only at H
 obtain ⟨ji4, hji4⟩ : ∃ j_ : Int, (mx a1 0) = j_ := ⟨_, rfl⟩
 first | rw [hji4] at H | simp only [hji4] at H
 (try rw [hji4] at A3)
 (try (have hji4l : 0 ≤ ji4 := by (rw [← hji4]; unfold mx; (repeat' split) <;> omega)))
 (try (have hji4m : 0 ≤ ji4 := by omega))
 have hji4_ : (if a1 < 0 then 0 else a1) = ji4 := hji4
 obtain ⟨ji5, hji5⟩ : ∃ j_ : Int, (mn (ji4) 20) = j_ := ⟨_, rfl⟩
 first | rw [hji5] at H | simp only [hji5] at H
 (try rw [hji5] at A3)
 have hji5_ : (if 20 < (ji4) then 20 else (ji4)) = ji5 := hji5
 obtain ⟨t433, A6, H⟩ := bs1 H
 obtain ⟨t434, A7, H⟩ := bs1 H
 obtain ⟨t435, A8, H⟩ := bs1 H
 obtain ⟨⟨t436, t437, t438⟩, A9, H⟩ := bs1 H; dsimp only at H
 obtain ⟨t439, A10, H⟩ := bs1 H
 have HC11 := Aside0.mk H
 clear H
 go_enter Tryd.func25, Tryd.ntmps25
 try go_wp2_with (first | ((with_reducible refine gd 2 rfl ?_); refine bx 2 (#[.bool a0_0, .string a0_1, .string a0_2]) 23 ?_; intro gb429 hg w12 hbox hb; have BK429 := Aside0.mk (hbox); have GW429 := sg hg HB.out; have GE429 := sg hg HB.out; replace HB := Aside0.mk (bs HB.out hb); clear hb hbox hg; obtain ⟨hcz13_0, hcz13_1, hcz13_2, hfz13_0, hfz13_1, hfz13_2⟩ := c3 BK429.out) | ((with_reducible refine gc 34 rfl ?_); refine gl (some 10) Tryd.func34 #[.agg #[.bool a0_0, .string a0_1, .string a0_2]] ?_; (with_reducible refine (rational_clean.calls k a0_0 a0_1 a0_2 t430 t431 t432 _ A3.out).mono ?_); rintro e w14 ⟨rfl, hb⟩; refine ⟨_, rfl, ?_⟩; replace BK429 := Aside0.mk (bk0 BK429.out hb); replace HB := Aside0.mk (bs HB.out hb); (try clear hb); obtain ⟨hcz15_0, hcz15_1, hcz15_2, hfz15_0, hfz15_1, hfz15_2⟩ := c3 BK429.out))
 have n0_ : Aside0 ((((w14.setCell ⟨gb429, 0, none⟩ (.bool t430)).setCell ⟨gb429, 1, none⟩ (.string t431)).setCell ⟨gb429, 2, none⟩ (.string t432)).heap[gb429]? = some (.cells #[.bool t430, .string t431, .string t432] 23 (0, 0))) := ⟨bq BK429.out⟩
 have n1_ : Aside0 (Below w.heap.size w (((w14.setCell ⟨gb429, 0, none⟩ (.bool t430)).setCell ⟨gb429, 1, none⟩ (.string t431)).setCell ⟨gb429, 2, none⟩ (.string t432))) := ⟨bz HB.out⟩
 (try clear BK429); (try clear HB)
 generalize (((w14.setCell ⟨gb429, 0, none⟩ (.bool t430)).setCell ⟨gb429, 1, none⟩ (.string t431)).setCell ⟨gb429, 2, none⟩ (.string t432)) = w16 at n0_ n1_ ⊢
 have BK429 := n0_
 have HB := n1_
 clear n0_ n1_
 replace BK429 := Aside0.mk (blk_drew BK429.out)
 replace HB := Aside0.mk (below_drew1 HB.out)
 refine start_ (n := 15) (S := fun w' => w'.cell? ⟨gb429, 0, none⟩ = some (.bool t430) ∧ w'.cell? ⟨gb429, 1, none⟩ = some (.string t431) ∧ w'.cell? ⟨gb429, 2, none⟩ = some (.string t432)) (ds := []) #[false, false, false, false, false, false, false, false, false, false, false, false, false, false, false] (by kernel_rfl) rfl rfl ⟨(blk_cell BK429.out 0).trans rfl, (blk_cell BK429.out 1).trans rfl, (blk_cell BK429.out 2).trans rfl⟩ (fun hHeld => ?_); refine with_tabW rational_Decimal.tab3 rational_Decimal.bits3 (fun HT_ HW_ => ?_)
 generalize w16.drew = w17 at BK429 HB hHeld ⊢
 refine py 0 (some 15) #[true, false, false, false, false, false, false, false, false, false, false, false, false, false, false] HT_ ?_
 refine py 2 (some 17) #[true, false, true, false, false, false, false, false, false, false, false, false, false, false, false] HT_ ?_
 refine take_ (i := 1) (N := some 16) (v := ?_) (a' := ?_) #[true, true, true, false, false, false, false, false, false, false, false, false, false, false, false] rfl rfl (take_ofW HT_.out HW_.out (by kernel_rfl)) (fun _ _ _ h => h) (Or.inl ⟨by rfl, ?_⟩) hHeld ?_ ?_
 rotate_left
 ·rintro w' ⟨s0, s1, s2⟩
  go_simp
  with_reducible rfl
 rotate_left
 ·simp only [Act.put, List.setIfInBounds_toArray, List.set_cons_zero, List.set_cons_succ, i64_w, i32_w]
  rfl
 refine take_ (i := 5) (N := some 20) (v := ?_) (a' := ?_) #[true, true, true, false, false, true, false, false, false, false, false, false, false, false, false] rfl rfl (take_ofW HT_.out HW_.out (by kernel_rfl)) (fun _ _ _ h => h) (Or.inl ⟨by rfl, ?_⟩) hHeld ?_ ?_
 rotate_left
 ·rintro w' ⟨s0, s1, s2⟩
  go_simp
  with_reducible rfl
 rotate_left
 ·simp only [Act.put, List.setIfInBounds_toArray, List.set_cons_zero, List.set_cons_succ, i64_w, i32_w]
  rfl
 refine one_ (i := 3) (N := some 18) #[true, true, true, true, false, true, false, false, false, false, false, false, false, false, false] rfl rfl (one_of HT_.out (by kernel_rfl)) (by decide) (fun K hK => ?_)
 refine goes_ Tryd.func47 (by kernel_rfl) rfl #[.int .i64 ji5] (by rfl) rfl rfl (by (try simp only [List.map_toArray, List.map_cons, List.map_nil]); first | done | (simp only [hji5]; rfl) | rfl | (simp only [List.length_drop, List.length_take]; rfl)) ?_
 with_reducible refine (rational_tenTo.calls k ji5 t433 _ A6.out).mono ?_
 rintro e w18 ⟨rfl, hb⟩
 refine ⟨_, rfl, ?_⟩
 replace BK429 := Aside0.mk (bk0 BK429.out hb)
 replace HB := Aside0.mk (bs HB.out hb)
 (try clear hb); (try clear hb2); (try clear hk); (try clear hi)
 refine hK.out _ _ ⟨(blk_cell BK429.out 0).trans rfl, (blk_cell BK429.out 1).trans rfl, (blk_cell BK429.out 2).trans rfl⟩ (fun hHeld => ?_)
 clear hK K
 refine nm ?_
 refine one_ (i := 4) (N := some 19) #[true, true, true, true, true, true, false, false, false, false, false, false, false, false, false] rfl rfl (one_of HT_.out (by kernel_rfl)) (by decide) (fun K hK => ?_)
 refine gs Tryd.func40 #[.string t431, .string t433] ?_
 with_reducible refine (natural_Multiply.calls k t431 t433 t434 _ A7.out).mono ?_
 rintro e w19 ⟨rfl, hb⟩
 refine ⟨_, rfl, ?_⟩
 replace BK429 := Aside0.mk (bk0 BK429.out hb)
 replace HB := Aside0.mk (bs HB.out hb)
 (try clear hb); (try clear hb2); (try clear hk); (try clear hi)
 refine hK.out _ _ ⟨(blk_cell BK429.out 0).trans rfl, (blk_cell BK429.out 1).trans rfl, (blk_cell BK429.out 2).trans rfl⟩ (fun hHeld => ?_)
 clear hK K
 refine nm ?_
 refine one_ (i := 6) (N := some 21) #[true, true, true, true, true, true, true, false, false, false, false, false, false, false, false] rfl rfl (one_of HT_.out (by kernel_rfl)) (by decide) (fun K hK => ?_)
 refine gs Tryd.func41 #[.agg #[.bool t430, .string t431, .string t432]] ?_
 with_reducible refine (rational_den.calls t430 t431 t432 t435 _ A8.out).mono ?_
 rintro e w20 ⟨rfl, hb⟩
 refine ⟨_, rfl, ?_⟩
 replace BK429 := Aside0.mk (bk0 BK429.out hb)
 replace HB := Aside0.mk (bs HB.out hb)
 (try clear hb); (try clear hb2); (try clear hk); (try clear hi)
 refine hK.out _ _ ⟨(blk_cell BK429.out 0).trans rfl, (blk_cell BK429.out 1).trans rfl, (blk_cell BK429.out 2).trans rfl⟩ (fun hHeld => ?_)
 clear hK K
 refine nm ?_
 refine one_ (i := 7) (N := some 22) #[true, true, true, true, true, true, true, true, false, false, false, false, false, false, false] rfl rfl (one_of HT_.out (by kernel_rfl)) (by decide) (fun K hK => ?_)
 refine gs Tryd.func51 #[.string t434, .string t435] ?_
 with_reducible refine (natural_Divide.calls k t434 t435 t436 t437 t438 _ A9.out).mono ?_
 rintro e w21 ⟨rfl, hb⟩
 refine ⟨_, rfl, ?_⟩
 replace BK429 := Aside0.mk (bk0 BK429.out hb)
 replace HB := Aside0.mk (bs HB.out hb)
 (try clear hb); (try clear hb2); (try clear hk); (try clear hi)
 refine hK.out _ _ ⟨(blk_cell BK429.out 0).trans rfl, (blk_cell BK429.out 1).trans rfl, (blk_cell BK429.out 2).trans rfl⟩ (fun hHeld => ?_)
 clear hK K
 refine nm ?_
 refine py 8 (some 14) #[true, true, true, true, true, true, true, true, true, false, false, false, false, false, false] HT_ ?_
 refine py 9 (some 23) #[true, true, true, true, true, true, true, true, true, true, false, false, false, false, false] HT_ ?_
 refine py 10 (some 24) #[true, true, true, true, true, true, true, true, true, true, true, false, false, false, false] HT_ ?_
 refine py 11 (some 25) #[true, true, true, true, true, true, true, true, true, true, true, true, false, false, false] HT_ ?_
 refine py 12 (some 5) #[true, true, true, true, true, true, true, true, true, true, true, true, true, false, false] HT_ ?_
 refine py 13 (some 6) #[true, true, true, true, true, true, true, true, true, true, true, true, true, true, false] HT_ ?_
 refine py 14 (some 7) #[true, true, true, true, true, true, true, true, true, true, true, true, true, true, true] HT_ ?_
 refine done_ (done_of HT_.out (by kernel_rfl)) ?_
 (try (simp only [Exit.then]; refine (by assumption : ∀ (a : Act) (w : World), Code.wp _ _ _ a w → _) _ _ ?_))
 go_upto_if 31 with (first | ((with_reducible refine gc 50 rfl ?_); refine gl (some 27) Tryd.func50 #[.string t436] ?_; (with_reducible refine (natural_Format.calls k t436 t439 _ A10.out).mono ?_); rintro e w22 ⟨rfl, hb⟩; refine ⟨_, rfl, ?_⟩; replace BK429 := Aside0.mk (bk0 BK429.out hb); replace HB := Aside0.mk (bs HB.out hb); (try clear hb)))
 (try simp only [Act.put, List.setIfInBounds_toArray, List.set_cons_zero, List.set_cons_succ])
 go_cut [8] (fun v8 wc => ∃ (kq : Nat) (x8_10 : ByteArray), v8 = .string x8_10 ∧ Aside0 (rational_Decimal.j0 kq ji5 t436 x8_10 t430 t431 t432 = some r) ∧ Aside0 (kq ≤ k) ∧ Aside0 (wc.heap[gb429]? = some (.cells #[.bool t430, .string t431, .string t432] 23 (0, 0))) ∧ Aside0 (Below w.heap.size w wc))
 case first =>
  have H := HC11.out
  clear HC11
  by_cases c23 : (t439.size : Int) ≤ (ji5)
  ·rw [if_pos c23] at H
   have c23b0 : decide ((t439.size : Int) ≤ (ji5)) = true := decide_eq_true c23
   clear c23
   (first | rw [c23b0] | (simp only [i64_w, i32_w]; rw [c23b0]) | skip)
   obtain ⟨t440, A24, H⟩ := bs1 H
   obtain ⟨c25, H⟩ := iN H
   have c25b0 := eq_true c25
   have c25b1 : decide (t440.size + t439.size ≤ 9223372036854775807) = true := decide_eq_true c25
   try have c25b2 : (9223372036854775807 < t440.size + t439.size) = False := eq_false (Nat.not_lt.2 c25)
   have H' := Aside0.mk H
   clear H
   go_wp2_with (first | ((with_reducible refine gc 52 rfl ?_); refine goesL_ (some 37) rfl rfl Tryd.func52 (by kernel_rfl) rfl #[.string (⟨#[48]⟩ : ByteArray), .int .i64 (wrap64 (((ji5) + 1) - (t439.size : Int)))] rfl (by (try simp only [List.map_toArray, List.map_cons, List.map_nil]); first | done | (rw [show wrap64 (((ji5) + 1) - (t439.size : Int)) = ji5 + 1 - (t439.size : Int) from by (have h1_ := of_decide_eq_true c23b0; unfold wrap64; omega)]; rfl) | (simp only [hji5]; rfl) | rfl | (simp only [List.length_drop, List.length_take]; rfl)) ?_; (with_reducible refine (strings_Repeat.calls (⟨#[48]⟩ : ByteArray) (wrap64 (((ji5) + 1) - (t439.size : Int))) t440 _ A24.out).mono ?_); rintro e w26 ⟨rfl, hb⟩; refine ⟨_, rfl, ?_⟩; replace BK429 := Aside0.mk (bk0 BK429.out hb); replace HB := Aside0.mk (bs HB.out hb); (try clear hb)))
   go_meet
   case rel => exact ⟨_, (t440 ++ t439), fs, H', ⟨by first | omega | exact Nat.le_refl _⟩, ⟨bq BK429.out⟩, ⟨bz HB.out⟩⟩
  ·rw [if_neg c23] at H
   have c23b0 : decide ((t439.size : Int) ≤ (ji5)) = false := decide_eq_false c23
   clear c23
   (first | rw [c23b0] | (simp only [i64_w, i32_w]; rw [c23b0]) | skip)
   have H' := Aside0.mk H
   clear H
   go_wp2
   go_meet
   case rel => exact ⟨_, (t439), fs, H', ⟨by first | omega | exact Nat.le_refl _⟩, ⟨bq BK429.out⟩, ⟨bz HB.out⟩⟩
 case rest =>
  clear HC11
  (try clear c23b0); (try clear c25); (try clear c25b0); (try clear c25b1); (try clear c25b2); (try clear hcz13_0); (try clear hcz13_1); (try clear hcz13_2); (try clear hcz15_0); (try clear hcz15_1); (try clear hcz15_2); (try clear hfz13_0); (try clear hfz13_1); (try clear hfz13_2); (try clear hfz15_0); (try clear hfz15_1); (try clear hfz15_2)
  obtain ⟨kq, x8_10, rfl, HA, HJ10, BK429, HB⟩ := hcut
  cases kq with
  | zero => exact absurd HA.out (by simp [rational_Decimal.j0])
  | succ kj10 =>
   have H := HA.out
   clear HA
   simp only [rational_Decimal.j0] at H
   by_cases c27 : ji5 > 0
   ·rw [if_pos c27] at H
    have c27b0 : decide (0 < ji5) = true := decide_eq_true c27
    clear c27
    obtain ⟨ji28, hji28⟩ : ∃ j_ : Int, (wrap64 ((x8_10.size : Int) - ji5)) = j_ := ⟨_, rfl⟩
    first | rw [hji28] at H | simp only [hji28] at H
    have hji28w : (IntKind.i64.wrap ((x8_10.size : Int) - ji5)) = ji28 := (i64_w _).trans hji28
    obtain ⟨c29, H⟩ := iN H
    have c29b0 := eq_true c29
    have c29b1 : decide (0 ≤ (ji28)) = true := decide_eq_true c29
    clear c29
    obtain ⟨c30, H⟩ := iN H
    have c30b0 := eq_true c30
    have c30b1 : decide ((ji28) ≤ (x8_10.size : Int)) = true := decide_eq_true c30
    clear c30
    obtain ⟨c31, H⟩ := iN H
    have c31b0 := eq_true c31
    have c31b1 : decide ((x8_10.extract 0 ((ji28) : Int).toNat).size + 1 ≤ 9223372036854775807) = true := decide_eq_true c31
    try have c31b2 : (9223372036854775807 < (x8_10.extract 0 ((ji28) : Int).toNat).size + 1) = False := eq_false (Nat.not_lt.2 c31)
    have c32b0 := eq_true (oa : 0 ≤ (ji28))
    have c33b0 := eq_true (oa : (ji28) ≤ (x8_10.size : Int))
    have hE1_ : (x8_10.extract 0 ((ji28) : Int).toNat).size = ji28.toNat := by (have h33 := of_eq_true c33b0; rw [ByteArray.size_extract]; omega)
    have hE2_ : (x8_10.extract ((ji28) : Int).toNat x8_10.size).size = x8_10.size - ji28.toNat := by (rw [ByteArray.size_extract]; omega)
    have d1_ := c31b2
    rw [hE1_] at d1_
    obtain ⟨c34, H⟩ := iN H
    have c34b0 := eq_true c34
    have c34b1 : decide (((x8_10.extract 0 ((ji28) : Int).toNat) ++ (⟨#[46]⟩ : ByteArray)).size + (x8_10.extract ((ji28) : Int).toNat x8_10.size).size ≤ 9223372036854775807) = true := decide_eq_true c34
    try have c34b2 : (9223372036854775807 < ((x8_10.extract 0 ((ji28) : Int).toNat) ++ (⟨#[46]⟩ : ByteArray)).size + (x8_10.extract ((ji28) : Int).toNat x8_10.size).size) = False := eq_false (Nat.not_lt.2 c34)
    have c34b2d := c34b2
    simp only [ByteArray.size_append, hE1_, hE2_, show (⟨#[46]⟩ : ByteArray).size = 1 from rfl] at c34b2d
    by_cases c35 : t430 = true
    ·subst c35
     have H1 : (if t436.toList = ([] : List UInt8) then (some (((x8_10.extract 0 ((ji28) : Int).toNat) ++ (⟨#[46]⟩ : ByteArray)) ++ (x8_10.extract ((ji28) : Int).toNat x8_10.size))) else (if 1 + (((x8_10.extract 0 ((ji28) : Int).toNat) ++ (⟨#[46]⟩ : ByteArray)) ++ (x8_10.extract ((ji28) : Int).toNat x8_10.size)).size ≤ 9223372036854775807 then (some ((⟨#[45]⟩ : ByteArray) ++ (((x8_10.extract 0 ((ji28) : Int).toNat) ++ (⟨#[46]⟩ : ByteArray)) ++ (x8_10.extract ((ji28) : Int).toNat x8_10.size)))) else (none))) = some r := by rw [if_pos rfl] at H; exact H
     clear H
     have H := H1
     clear H1
     by_cases c36 : t436.toList = ([] : List UInt8)
     ·rw [if_pos c36] at H
      have c36b0 := beq_iff_eq.mpr c36
      have c36b1 := bne_eq_false_iff_eq.mpr c36
      clear c36
      obtain rfl := Option.some.inj H
      try go_wp2
      replace BK429 := Aside0.mk (blk_drew BK429.out)
      replace HB := Aside0.mk (below_drew1 HB.out)
      refine start_ (n := 15) (S := fun w' => True) (ds := []) #[false, false, false, false, false, false, false, false, false, false, false, false, false, false, false] (by kernel_rfl) rfl rfl trivial (fun hHeld => ?_); refine with_tabW rational_Decimal.tab8 rational_Decimal.bits8 (fun HT_ HW_ => ?_)
      generalize wc.drew = w37 at BK429 HB hHeld ⊢
      refine py 0 (some 42) #[true, false, false, false, false, false, false, false, false, false, false, false, false, false, false] HT_ ?_
      refine py 1 (some 43) #[true, true, false, false, false, false, false, false, false, false, false, false, false, false, false] HT_ ?_
      refine py 2 (some 44) #[true, true, true, false, false, false, false, false, false, false, false, false, false, false, false] HT_ ?_
      refine py 3 (some 45) #[true, true, true, true, false, false, false, false, false, false, false, false, false, false, false] HT_ ?_
      refine py 4 (some 46) #[true, true, true, true, true, false, false, false, false, false, false, false, false, false, false] HT_ ?_
      refine py 5 (some 47) #[true, true, true, true, true, true, false, false, false, false, false, false, false, false, false] HT_ ?_
      refine py 6 (some 48) #[true, true, true, true, true, true, true, false, false, false, false, false, false, false, false] HT_ ?_
      refine py 7 (some 49) #[true, true, true, true, true, true, true, true, false, false, false, false, false, false, false] HT_ ?_
      refine py 8 (some 50) #[true, true, true, true, true, true, true, true, true, false, false, false, false, false, false] HT_ ?_
      refine py 9 (some 51) #[true, true, true, true, true, true, true, true, true, true, false, false, false, false, false] HT_ ?_
      refine py 10 (some 52) #[true, true, true, true, true, true, true, true, true, true, true, false, false, false, false] HT_ ?_
      refine py 11 (some 53) #[true, true, true, true, true, true, true, true, true, true, true, true, false, false, false] HT_ ?_
      refine py 12 (some 54) #[true, true, true, true, true, true, true, true, true, true, true, true, true, false, false] HT_ ?_
      refine py 13 (some 55) #[true, true, true, true, true, true, true, true, true, true, true, true, true, true, false] HT_ ?_
      refine py 14 (some 8) #[true, true, true, true, true, true, true, true, true, true, true, true, true, true, true] HT_ ?_
      refine done_ (done_of HT_.out (by kernel_rfl)) ?_
      obtain ⟨hcz38_0, hcz38_1, hcz38_2, hfz38_0, hfz38_1, hfz38_2⟩ := c3 BK429.out
      try go_wp2
      go_ret
      exact ⟨by first | rfl | (simp [errW_none, errW_some] <;> rfl) | (simp only [← hji4, ← hji5, ← hji28]; first | rfl | (simp [errW_none, errW_some] <;> rfl)) | (simp [*, errW_none, errW_some] <;> rfl), bz HB.out⟩
     ·rw [if_neg c36] at H
      have c36b0 := beq_eq_false_iff_ne.mpr c36
      have c36b1 := bne_iff_ne.mpr c36
      obtain ⟨c39, H⟩ := iN H
      have c39b0 := eq_true c39
      have c39b1 : decide (1 + (((x8_10.extract 0 ((ji28) : Int).toNat) ++ (⟨#[46]⟩ : ByteArray)) ++ (x8_10.extract ((ji28) : Int).toNat x8_10.size)).size ≤ 9223372036854775807) = true := decide_eq_true c39
      try have c39b2 : (9223372036854775807 < 1 + (((x8_10.extract 0 ((ji28) : Int).toNat) ++ (⟨#[46]⟩ : ByteArray)) ++ (x8_10.extract ((ji28) : Int).toNat x8_10.size)).size) = False := eq_false (Nat.not_lt.2 c39)
      have c39b2d := c39b2
      simp only [ByteArray.size_append, hE1_, hE2_, show (⟨#[46]⟩ : ByteArray).size = 1 from rfl] at c39b2d
      obtain rfl := Option.some.inj H
      try go_wp2
      replace BK429 := Aside0.mk (blk_drew BK429.out)
      replace HB := Aside0.mk (below_drew1 HB.out)
      refine start_ (n := 15) (S := fun w' => True) (ds := []) #[false, false, false, false, false, false, false, false, false, false, false, false, false, false, false] (by kernel_rfl) rfl rfl trivial (fun hHeld => ?_); refine with_tabW rational_Decimal.tab8 rational_Decimal.bits8 (fun HT_ HW_ => ?_)
      generalize wc.drew = w40 at BK429 HB hHeld ⊢
      refine py 0 (some 42) #[true, false, false, false, false, false, false, false, false, false, false, false, false, false, false] HT_ ?_
      refine py 1 (some 43) #[true, true, false, false, false, false, false, false, false, false, false, false, false, false, false] HT_ ?_
      refine py 2 (some 44) #[true, true, true, false, false, false, false, false, false, false, false, false, false, false, false] HT_ ?_
      refine py 3 (some 45) #[true, true, true, true, false, false, false, false, false, false, false, false, false, false, false] HT_ ?_
      refine py 4 (some 46) #[true, true, true, true, true, false, false, false, false, false, false, false, false, false, false] HT_ ?_
      refine py 5 (some 47) #[true, true, true, true, true, true, false, false, false, false, false, false, false, false, false] HT_ ?_
      refine py 6 (some 48) #[true, true, true, true, true, true, true, false, false, false, false, false, false, false, false] HT_ ?_
      refine py 7 (some 49) #[true, true, true, true, true, true, true, true, false, false, false, false, false, false, false] HT_ ?_
      refine py 8 (some 50) #[true, true, true, true, true, true, true, true, true, false, false, false, false, false, false] HT_ ?_
      refine py 9 (some 51) #[true, true, true, true, true, true, true, true, true, true, false, false, false, false, false] HT_ ?_
      refine py 10 (some 52) #[true, true, true, true, true, true, true, true, true, true, true, false, false, false, false] HT_ ?_
      refine py 11 (some 53) #[true, true, true, true, true, true, true, true, true, true, true, true, false, false, false] HT_ ?_
      refine py 12 (some 54) #[true, true, true, true, true, true, true, true, true, true, true, true, true, false, false] HT_ ?_
      refine py 13 (some 55) #[true, true, true, true, true, true, true, true, true, true, true, true, true, true, false] HT_ ?_
      refine py 14 (some 8) #[true, true, true, true, true, true, true, true, true, true, true, true, true, true, true] HT_ ?_
      refine done_ (done_of HT_.out (by kernel_rfl)) ?_
      obtain ⟨hcz41_0, hcz41_1, hcz41_2, hfz41_0, hfz41_1, hfz41_2⟩ := c3 BK429.out
      try go_wp2
      go_ret
      exact ⟨by first | rfl | (simp [errW_none, errW_some] <;> rfl) | (simp only [← hji4, ← hji5, ← hji28]; first | rfl | (simp [errW_none, errW_some] <;> rfl)) | (simp [*, errW_none, errW_some] <;> rfl), bz HB.out⟩
    ·replace c35 := Bool.eq_false_iff.mpr c35
     subst c35
     have H1 : (some (((x8_10.extract 0 ((ji28) : Int).toNat) ++ (⟨#[46]⟩ : ByteArray)) ++ (x8_10.extract ((ji28) : Int).toNat x8_10.size))) = some r := by rw [if_neg (show ¬ (false = true) by decide)] at H; exact H
     clear H
     have H := H1
     clear H1
     obtain rfl := Option.some.inj H
     try go_wp2
     replace BK429 := Aside0.mk (blk_drew BK429.out)
     replace HB := Aside0.mk (below_drew1 HB.out)
     refine start_ (n := 15) (S := fun w' => True) (ds := []) #[false, false, false, false, false, false, false, false, false, false, false, false, false, false, false] (by kernel_rfl) rfl rfl trivial (fun hHeld => ?_); refine with_tabW rational_Decimal.tab8 rational_Decimal.bits8 (fun HT_ HW_ => ?_)
     generalize wc.drew = w42 at BK429 HB hHeld ⊢
     refine py 0 (some 42) #[true, false, false, false, false, false, false, false, false, false, false, false, false, false, false] HT_ ?_
     refine py 1 (some 43) #[true, true, false, false, false, false, false, false, false, false, false, false, false, false, false] HT_ ?_
     refine py 2 (some 44) #[true, true, true, false, false, false, false, false, false, false, false, false, false, false, false] HT_ ?_
     refine py 3 (some 45) #[true, true, true, true, false, false, false, false, false, false, false, false, false, false, false] HT_ ?_
     refine py 4 (some 46) #[true, true, true, true, true, false, false, false, false, false, false, false, false, false, false] HT_ ?_
     refine py 5 (some 47) #[true, true, true, true, true, true, false, false, false, false, false, false, false, false, false] HT_ ?_
     refine py 6 (some 48) #[true, true, true, true, true, true, true, false, false, false, false, false, false, false, false] HT_ ?_
     refine py 7 (some 49) #[true, true, true, true, true, true, true, true, false, false, false, false, false, false, false] HT_ ?_
     refine py 8 (some 50) #[true, true, true, true, true, true, true, true, true, false, false, false, false, false, false] HT_ ?_
     refine py 9 (some 51) #[true, true, true, true, true, true, true, true, true, true, false, false, false, false, false] HT_ ?_
     refine py 10 (some 52) #[true, true, true, true, true, true, true, true, true, true, true, false, false, false, false] HT_ ?_
     refine py 11 (some 53) #[true, true, true, true, true, true, true, true, true, true, true, true, false, false, false] HT_ ?_
     refine py 12 (some 54) #[true, true, true, true, true, true, true, true, true, true, true, true, true, false, false] HT_ ?_
     refine py 13 (some 55) #[true, true, true, true, true, true, true, true, true, true, true, true, true, true, false] HT_ ?_
     refine py 14 (some 8) #[true, true, true, true, true, true, true, true, true, true, true, true, true, true, true] HT_ ?_
     refine done_ (done_of HT_.out (by kernel_rfl)) ?_
     obtain ⟨hcz43_0, hcz43_1, hcz43_2, hfz43_0, hfz43_1, hfz43_2⟩ := c3 BK429.out
     try go_wp2
     go_ret
     exact ⟨by first | rfl | (simp [errW_none, errW_some] <;> rfl) | (simp only [← hji4, ← hji5, ← hji28]; first | rfl | (simp [errW_none, errW_some] <;> rfl)) | (simp [*, errW_none, errW_some] <;> rfl), bz HB.out⟩
   ·rw [if_neg c27] at H
    have c27b0 : decide (0 < ji5) = false := decide_eq_false c27
    clear c27
    by_cases c44 : t430 = true
    ·subst c44
     have H1 : (if t436.toList = ([] : List UInt8) then (some x8_10) else (if 1 + x8_10.size ≤ 9223372036854775807 then (some ((⟨#[45]⟩ : ByteArray) ++ x8_10)) else (none))) = some r := by rw [if_pos rfl] at H; exact H
     clear H
     have H := H1
     clear H1
     by_cases c45 : t436.toList = ([] : List UInt8)
     ·rw [if_pos c45] at H
      have c45b0 := beq_iff_eq.mpr c45
      have c45b1 := bne_eq_false_iff_eq.mpr c45
      clear c45
      obtain rfl := Option.some.inj H
      obtain ⟨hcz46_0, hcz46_1, hcz46_2, hfz46_0, hfz46_1, hfz46_2⟩ := c3 BK429.out
      go_wp2
      go_ret
      exact ⟨by first | rfl | (simp [errW_none, errW_some] <;> rfl) | (simp only [← hji4, ← hji5]; first | rfl | (simp [errW_none, errW_some] <;> rfl)) | (simp [*, errW_none, errW_some] <;> rfl), bz HB.out⟩
     ·rw [if_neg c45] at H
      have c45b0 := beq_eq_false_iff_ne.mpr c45
      have c45b1 := bne_iff_ne.mpr c45
      obtain ⟨c47, H⟩ := iN H
      have c47b0 := eq_true c47
      have c47b1 : decide (1 + x8_10.size ≤ 9223372036854775807) = true := decide_eq_true c47
      try have c47b2 : (9223372036854775807 < 1 + x8_10.size) = False := eq_false (Nat.not_lt.2 c47)
      obtain rfl := Option.some.inj H
      obtain ⟨hcz48_0, hcz48_1, hcz48_2, hfz48_0, hfz48_1, hfz48_2⟩ := c3 BK429.out
      go_wp2
      go_ret
      exact ⟨by first | rfl | (simp [errW_none, errW_some] <;> rfl) | (simp only [← hji4, ← hji5]; first | rfl | (simp [errW_none, errW_some] <;> rfl)) | (simp [*, errW_none, errW_some] <;> rfl), bz HB.out⟩
    ·replace c44 := Bool.eq_false_iff.mpr c44
     subst c44
     have H1 : (some x8_10) = some r := by rw [if_neg (show ¬ (false = true) by decide)] at H; exact H
     clear H
     have H := H1
     clear H1
     obtain rfl := Option.some.inj H
     obtain ⟨hcz49_0, hcz49_1, hcz49_2, hfz49_0, hfz49_1, hfz49_2⟩ := c3 BK429.out
     go_wp2
     go_ret
     exact ⟨by first | rfl | (simp [errW_none, errW_some] <;> rfl) | (simp only [← hji4, ← hji5]; first | rfl | (simp [errW_none, errW_some] <;> rfl)) | (simp [*, errW_none, errW_some] <;> rfl), bz HB.out⟩

end Go.Proofs.YtgepdnoaemeofaaDoor.R
