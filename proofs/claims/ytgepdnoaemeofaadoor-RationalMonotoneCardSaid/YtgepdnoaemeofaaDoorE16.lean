/- Printed by a program of this session (wip/tools) out of the translation: plain functions and the proofs that the code comes to their answers. -/
import Derived.Test.YtgepdnoaemeofaaDoorK
import Derived.Test.YtgepdnoaemeofaaDoorE0
import Derived.Test.YtgepdnoaemeofaaDoorE6
import Derived.Test.YtgepdnoaemeofaaDoorE7
import Derived.Test.YtgepdnoaemeofaaDoorE8
import Derived.Test.YtgepdnoaemeofaaDoorE12
import Derived.Test.YtgepdnoaemeofaaDoorE15
namespace Go.Proofs.YtgepdnoaemeofaaDoor.E
open Go.RowKit Go.Proofs.YtgepdnoaemeofaaDoorW.PrintWords Go.Proofs.YtgepdnoaemeofaaDoorW.PrintLast Go.Proofs.YtgepdnoaemeofaaDoorW.PrintMore Go.Proofs.YtgepdnoaemeofaaDoorW.PK
attribute [local go_sem] max2_int min2_int max_two min_two max_three min_three max_four min_four   -- for this text's walks alone
set_option linter.unusedVariables false
set_option linter.unusedSimpArgs false

/-! ### rational_add: function 36 -/
def rational_add.j0 : Nat → ByteArray → ByteArray → ByteArray → Bool → ByteArray → ByteArray → Bool → ByteArray → ByteArray → Option (Bool × ByteArray × ByteArray)
 | 0, _, _, _, _, _, _, _, _, _ => none
 | k + 1, x5, x6, x7, x497000, x497001, x497002, x498000, x498001, x498002 => if (x497000 == x498000) = true then ((natural_Add.f k x5 x6).bind fun t507 => ((rational_reduced.f k x497000 t507 x7).bind fun bt508 => (some (bt508.1, bt508.2.1, bt508.2.2)))) else ((natural_Subtract.f k x5 x6).bind fun bt511 => (if bt511.2 = true then ((rational_reduced.f k x497000 bt511.1 x7).bind fun bt513 => (some (bt513.1, bt513.2.1, bt513.2.2))) else ((natural_Subtract.f k x6 x5).bind fun bt516 => ((rational_reduced.f k x498000 bt516.1 x7).bind fun bt518 => (some (bt518.1, bt518.2.1, bt518.2.2))))))
def rational_add.f (k : Nat) (a0_0 : Bool) (a0_1 : ByteArray) (a0_2 : ByteArray) (a1_0 : Bool) (a1_1 : ByteArray) (a1_2 : ByteArray) : Option (Bool × ByteArray × ByteArray) := if a0_2.toList = a1_2.toList then ((rational_den.f a0_0 a0_1 a0_2).bind fun t499 => (rational_add.j0 k a0_1 a1_1 t499 a0_0 a0_1 a0_2 a1_0 a1_1 a1_2)) else ((rational_den.f a1_0 a1_1 a1_2).bind fun t500 => ((natural_Multiply.f k a0_1 t500).bind fun t501 => ((rational_den.f a0_0 a0_1 a0_2).bind fun t502 => ((natural_Multiply.f k a1_1 t502).bind fun t503 => ((rational_den.f a0_0 a0_1 a0_2).bind fun t504 => ((rational_den.f a1_0 a1_1 a1_2).bind fun t505 => ((natural_Multiply.f k t504 t505).bind fun t506 => (rational_add.j0 k t501 t503 t506 a0_0 a0_1 a0_2 a1_0 a1_1 a1_2))))))))
theorem rational_add.mono_l : ∀ k, (∀ y0 y1 y2 y3 y4 y5 y6 y7 y8, LeO (rational_add.j0 k y0 y1 y2 y3 y4 y5 y6 y7 y8) (rational_add.j0 (k + 1) y0 y1 y2 y3 y4 y5 y6 y7 y8))
 | 0 => fun _ _ _ _ _ _ _ _ _ r h => by simp [rational_add.j0] at h
 | k + 1 => by
  have ih0 := rational_add.mono_l k
  ·intro y0 y1 y2 y3 y4 y5 y6 y7 y8
   unfold rational_add.j0
   repeat' first
   | (with_reducible exact ih0 _ _ _ _ _ _ _ _ _)
   | (with_reducible exact natural_Add.mono _ _ _)
   | (with_reducible exact natural_Multiply.mono _ _ _)
   | (with_reducible exact natural_Subtract.mono _ _ _)
   | (with_reducible exact rational_reduced.mono _ _ _ _)
   | (with_reducible exact LeO.refl _)
   | (with_reducible exact LeO.none _)
   | (with_reducible refine LeO.ite ?_ ?_)
   | (with_reducible refine LeO.bind ?_ (fun _ => ?_))
   | exact ih0 _ _ _ _ _ _ _ _ _
   | exact natural_Add.mono _ _ _
   | exact natural_Multiply.mono _ _ _
   | exact natural_Subtract.mono _ _ _
   | exact rational_reduced.mono _ _ _ _
   | exact LeO.none _
   | refine LeO.ite ?_ ?_
   | refine LeO.bind ?_ (fun _ => ?_)
theorem rational_add.mono : ∀ a0 a1 a2 a3 a4 a5 k, LeO (rational_add.f k a0 a1 a2 a3 a4 a5) (rational_add.f (k + 1) a0 a1 a2 a3 a4 a5) := by
 intro a0 a1 a2 a3 a4 a5 k
 have ih0 := rational_add.mono_l k
 unfold rational_add.f
 repeat' first
   | (with_reducible exact ih0 _ _ _ _ _ _ _ _ _)
   | (with_reducible exact natural_Add.mono _ _ _)
   | (with_reducible exact natural_Multiply.mono _ _ _)
   | (with_reducible exact natural_Subtract.mono _ _ _)
   | (with_reducible exact rational_reduced.mono _ _ _ _)
   | (with_reducible exact LeO.refl _)
   | (with_reducible exact LeO.none _)
   | (with_reducible refine LeO.ite ?_ ?_)
   | (with_reducible refine LeO.bind ?_ (fun _ => ?_))
   | exact ih0 _ _ _ _ _ _ _ _ _
   | exact natural_Add.mono _ _ _
   | exact natural_Multiply.mono _ _ _
   | exact natural_Subtract.mono _ _ _
   | exact rational_reduced.mono _ _ _ _
   | exact LeO.none _
   | refine LeO.ite ?_ ?_
   | refine LeO.bind ?_ (fun _ => ?_)
def rational_add.T3 : Bool × List (List Nat × List Nat) := (true, [([], []), ([], []), ([1], [1]), ([0, 2, 2], [0, 2]), ([], []), ([], []), ([5, 3], [5]), ([4, 6, 6], [4, 6]), ([3, 7, 0, 1, 2, 3], [0, 3]), ([7, 8, 0, 1, 2, 3, 4, 5, 6, 7, 8], [4, 7])])
def rational_add.B3 : List Nat := [0, 0, 2, 7, 0, 0, 47, 127, 255, 511]
theorem rational_add.tab3 : rtab .any (opsOf Tryd.f36 3) = rational_add.T3 := by kernel_rfl
theorem rational_add.bits3 : waitsOk rational_add.T3.2 rational_add.B3 = true := by kernel_rfl
def rational_add.T7 : Bool × List (List Nat × List Nat) := (true, [([], []), ([0], [0]), ([], []), ([], []), ([2, 3], [2, 3]), ([], []), ([1, 4, 5, 4], [1, 4, 5]), ([6, 6, 0, 1, 2, 3, 4, 5, 6], [6])])
def rational_add.B7 : List Nat := [0, 1, 0, 0, 12, 0, 63, 127]
theorem rational_add.tab7 : rtab .any (opsOf Tryd.f36 7) = rational_add.T7 := by kernel_rfl
theorem rational_add.bits7 : waitsOk rational_add.T7.2 rational_add.B7 = true := by kernel_rfl
set_option maxHeartbeats 8000000 in
set_option maxRecDepth 100000 in
theorem rational_add.calls (k : Nat) (a0_0 : Bool) (a0_1 : ByteArray) (a0_2 : ByteArray) (a1_0 : Bool) (a1_1 : ByteArray) (a1_2 : ByteArray) (r1 : Bool) (r2 : ByteArray) (r3 : ByteArray) (w : World) (h : rational_add.f k a0_0 a0_1 a0_2 a1_0 a1_1 a1_2 = some (r1, r2, r3)) :
  Calls Tryd.prog 36 #[.agg #[.bool a0_0, .string a0_1, .string a0_2], .agg #[.bool a1_0, .string a1_1, .string a1_2]] w fun e w' => e = .returned (.agg #[.bool r1, .string r2, .string r3]) ∧ Below w.heap.size w w' := by
 have hu23 := Tryd.underlying23
 have HB := Aside0.mk (Below.refl w.heap.size w)
 have H := h
 clear h
 unfold rational_add.f at H
 have HC3 := Aside0.mk H
 clear H
 go_enter Tryd.func36, Tryd.ntmps36
 try go_wp2_with (first | ((with_reducible refine gd 2 rfl ?_); refine bx 2 (#[.bool a0_0, .string a0_1, .string a0_2]) 23 ?_; intro gb496 hg w4 hbox hb; have BK496 := Aside0.mk (hbox); have GW496 := sg hg HB.out; have GE496 := sg hg HB.out; replace HB := Aside0.mk (bs HB.out hb); clear hb hbox hg) | ((with_reducible refine gd 3 rfl ?_); refine bx 3 (#[.bool a1_0, .string a1_1, .string a1_2]) 23 ?_; intro gb497 hg w5 hbox hb; have BK497 := Aside0.mk (hbox); have GW497 := sg hg HB.out; have GE497 := sg hg HB.out; replace HB := Aside0.mk (bs HB.out hb); have NB496_497 := nl hg BK496.out; have NB497_496 := nr hg BK496.out; replace BK496 := Aside0.mk (bk0 BK496.out hb); clear hb hbox hg) | ((with_reducible refine gd 4 rfl ?_); refine bx 4 (#[.bool false, .string (⟨#[]⟩ : ByteArray), .string (⟨#[]⟩ : ByteArray)]) 23 ?_; intro gb498 hg w6 hbox hb; have BK498 := Aside0.mk (hbox); have GW498 := sg hg HB.out; have GE498 := sg hg HB.out; replace HB := Aside0.mk (bs HB.out hb); have NB496_498 := nl hg BK496.out; have NB498_496 := nr hg BK496.out; replace BK496 := Aside0.mk (bk0 BK496.out hb); have NB497_498 := nl hg BK497.out; have NB498_497 := nr hg BK497.out; replace BK497 := Aside0.mk (bk0 BK497.out hb); clear hb hbox hg))
 replace BK496 := Aside0.mk (blk_drew BK496.out)
 replace BK497 := Aside0.mk (blk_drew BK497.out)
 replace BK498 := Aside0.mk (blk_drew BK498.out)
 replace HB := Aside0.mk (below_drew1 HB.out)
 refine start_ (n := 7) (S := fun w' => w'.cell? ⟨gb496, 0, none⟩ = some (.bool a0_0) ∧ w'.cell? ⟨gb496, 1, none⟩ = some (.string a0_1) ∧ w'.cell? ⟨gb496, 2, none⟩ = some (.string a0_2) ∧ w'.cell? ⟨gb497, 0, none⟩ = some (.bool a1_0) ∧ w'.cell? ⟨gb497, 1, none⟩ = some (.string a1_1) ∧ w'.cell? ⟨gb497, 2, none⟩ = some (.string a1_2)) (ds := []) #[false, false, false, false, false, false, false] (by kernel_rfl) rfl rfl ⟨(blk_cell BK496.out 0).trans rfl, (blk_cell BK496.out 1).trans rfl, (blk_cell BK496.out 2).trans rfl, (blk_cell BK497.out 0).trans rfl, (blk_cell BK497.out 1).trans rfl, (blk_cell BK497.out 2).trans rfl⟩ (fun hHeld => ?_)
 generalize w6.drew = w7 at BK496 BK497 BK498 HB hHeld ⊢
 refine pure_ (i := 0) (N := some 12) (v := ?_) (a' := ?_) #[true, false, false, false, false, false, false] rfl rfl (by kernel_rfl) (fun _ _ _ h => h) (Or.inl ⟨by rfl, ?_⟩) ?_ ?_
 rotate_left
 ·intro w'
  go_simp
  with_reducible rfl
 rotate_left
 ·simp only [Act.put, List.setIfInBounds_toArray, List.set_cons_zero, List.set_cons_succ, i64_w, i32_w]
  rfl
 refine pure_ (i := 2) (N := some 14) (v := ?_) (a' := ?_) #[true, false, true, false, false, false, false] rfl rfl (by kernel_rfl) (fun _ _ _ h => h) (Or.inl ⟨by rfl, ?_⟩) ?_ ?_
 rotate_left
 ·intro w'
  go_simp
  with_reducible rfl
 rotate_left
 ·simp only [Act.put, List.setIfInBounds_toArray, List.set_cons_zero, List.set_cons_succ, i64_w, i32_w]
  rfl
 refine take_ (i := 1) (N := some 13) (v := ?_) (a' := ?_) #[true, true, true, false, false, false, false] rfl rfl (by kernel_rfl) (fun _ _ _ h => h) (Or.inl ⟨by rfl, ?_⟩) hHeld ?_ ?_
 rotate_left
 ·rintro w' ⟨s0, s1, s2, s3, s4, s5⟩
  go_simp
  with_reducible rfl
 rotate_left
 ·simp only [Act.put, List.setIfInBounds_toArray, List.set_cons_zero, List.set_cons_succ, i64_w, i32_w]
  rfl
 refine pure_ (i := 4) (N := some 5) (v := ?_) (a' := ?_) #[true, true, true, false, true, false, false] rfl rfl (by kernel_rfl) (fun _ _ _ h => h) (Or.inl ⟨by rfl, ?_⟩) ?_ ?_
 rotate_left
 ·intro w'
  go_simp
  with_reducible rfl
 rotate_left
 ·simp only [Act.put, List.setIfInBounds_toArray, List.set_cons_zero, List.set_cons_succ, i64_w, i32_w]
  rfl
 refine take_ (i := 3) (N := some 15) (v := ?_) (a' := ?_) #[true, true, true, true, true, false, false] rfl rfl (by kernel_rfl) (fun _ _ _ h => h) (Or.inl ⟨by rfl, ?_⟩) hHeld ?_ ?_
 rotate_left
 ·rintro w' ⟨s0, s1, s2, s3, s4, s5⟩
  go_simp
  with_reducible rfl
 rotate_left
 ·simp only [Act.put, List.setIfInBounds_toArray, List.set_cons_zero, List.set_cons_succ, i64_w, i32_w]
  rfl
 refine pure_ (i := 5) (N := some 6) (v := ?_) (a' := ?_) #[true, true, true, true, true, true, false] rfl rfl (by kernel_rfl) (fun _ _ _ h => h) (Or.inl ⟨by rfl, ?_⟩) ?_ ?_
 rotate_left
 ·intro w'
  go_simp
  with_reducible rfl
 rotate_left
 ·simp only [Act.put, List.setIfInBounds_toArray, List.set_cons_zero, List.set_cons_succ, i64_w, i32_w]
  rfl
 refine pure_ (i := 6) (N := some 7) (v := ?_) (a' := ?_) #[true, true, true, true, true, true, true] rfl rfl (by kernel_rfl) (fun _ _ _ h => h) (Or.inl ⟨by rfl, ?_⟩) ?_ ?_
 rotate_left
 ·intro w'
  go_simp
  with_reducible rfl
 rotate_left
 ·simp only [Act.put, List.setIfInBounds_toArray, List.set_cons_zero, List.set_cons_succ, i64_w, i32_w]
  rfl
 refine done_ (by kernel_rfl) ?_
 have hnb8 := NB496_497.out
 have hnc8 := NB497_496.out
 have hnb9 := NB496_498.out
 have hnc9 := NB498_496.out
 obtain ⟨hcz10_0, hcz10_1, hcz10_2, hfz10_0, hfz10_1, hfz10_2⟩ := c3 BK496.out
 have hnb11 := NB497_498.out
 have hnc11 := NB498_497.out
 obtain ⟨hcz12_0, hcz12_1, hcz12_2, hfz12_0, hfz12_1, hfz12_2⟩ := c3 BK497.out
 (try (simp only [Exit.then]; refine (by assumption : ∀ (a : Act) (w : World), Code.wp _ _ _ a w → _) _ _ ?_))
 go_upto_if 20 with (fail)
 go_cut [5, 6, 7] (fun v5 v6 v7 wc => ∃ (kq : Nat) (x5_2 : ByteArray) (x6_2 : ByteArray) (x7_2 : ByteArray), v5 = .string x5_2 ∧ v6 = .string x6_2 ∧ v7 = .string x7_2 ∧ Aside0 (rational_add.j0 kq x5_2 x6_2 x7_2 a0_0 a0_1 a0_2 a1_0 a1_1 a1_2 = some (r1, r2, r3)) ∧ Aside0 (kq ≤ k) ∧ Aside0 (wc.heap[gb496]? = some (.cells #[.bool a0_0, .string a0_1, .string a0_2] 23 (0, 0))) ∧ Aside0 (wc.heap[gb497]? = some (.cells #[.bool a1_0, .string a1_1, .string a1_2] 23 (0, 0))) ∧ Aside0 (wc.heap[gb498]? = some (.cells #[.bool false, .string (⟨#[]⟩ : ByteArray), .string (⟨#[]⟩ : ByteArray)] 23 (0, 0))) ∧ Aside0 (Below w.heap.size w wc))
 case first =>
  have H := HC3.out
  clear HC3
  by_cases c13 : a0_2.toList = a1_2.toList
  ·rw [if_pos c13] at H
   have c13b0 := beq_iff_eq.mpr c13
   have c13b1 := bne_eq_false_iff_eq.mpr c13
   clear c13
   (first | rw [c13b0] | (simp only [i64_w, i32_w]; rw [c13b0]) | skip)
   obtain ⟨t499, A14, H⟩ := bs1 H
   have H' := Aside0.mk H
   clear H
   have hnb15 := NB496_497.out
   have hnc15 := NB497_496.out
   have hnb16 := NB496_498.out
   have hnc16 := NB498_496.out
   obtain ⟨hcz17_0, hcz17_1, hcz17_2, hfz17_0, hfz17_1, hfz17_2⟩ := c3 BK496.out
   go_wp2_with (first | ((with_reducible refine gc 41 rfl ?_); refine gl (some 35) Tryd.func41 #[.agg #[.bool a0_0, .string a0_1, .string a0_2]] ?_; (with_reducible refine (rational_den.calls a0_0 a0_1 a0_2 t499 _ A14.out).mono ?_); rintro e w18 ⟨rfl, hb⟩; refine ⟨_, rfl, ?_⟩; replace BK496 := Aside0.mk (bk0 BK496.out hb); replace BK497 := Aside0.mk (bk0 BK497.out hb); replace BK498 := Aside0.mk (bk0 BK498.out hb); replace HB := Aside0.mk (bs HB.out hb); (try clear hb)))
   go_meet
   case rel => exact ⟨_, (a0_1), (a1_1), (t499), fs, fs, fs, H', ⟨by first | omega | exact Nat.le_refl _⟩, ⟨bq BK496.out⟩, ⟨bq BK497.out⟩, ⟨bq BK498.out⟩, ⟨bz HB.out⟩⟩
  ·rw [if_neg c13] at H
   have c13b0 := beq_eq_false_iff_ne.mpr c13
   have c13b1 := bne_iff_ne.mpr c13
   (first | rw [c13b0] | (simp only [i64_w, i32_w]; rw [c13b0]) | skip)
   obtain ⟨t500, A19, H⟩ := bs1 H
   obtain ⟨t501, A20, H⟩ := bs1 H
   obtain ⟨t502, A21, H⟩ := bs1 H
   obtain ⟨t503, A22, H⟩ := bs1 H
   obtain ⟨t504, A23, H⟩ := bs1 H
   obtain ⟨t505, A24, H⟩ := bs1 H
   obtain ⟨t506, A25, H⟩ := bs1 H
   have H' := Aside0.mk H
   clear H
   try go_wp2
   replace BK496 := Aside0.mk (blk_drew BK496.out)
   replace BK497 := Aside0.mk (blk_drew BK497.out)
   replace BK498 := Aside0.mk (blk_drew BK498.out)
   replace HB := Aside0.mk (below_drew1 HB.out)
   refine start_ (n := 10) (S := fun w' => w'.cell? ⟨gb497, 0, none⟩ = some (.bool a1_0) ∧ w'.cell? ⟨gb497, 1, none⟩ = some (.string a1_1) ∧ w'.cell? ⟨gb497, 2, none⟩ = some (.string a1_2) ∧ w'.cell? ⟨gb496, 0, none⟩ = some (.bool a0_0) ∧ w'.cell? ⟨gb496, 1, none⟩ = some (.string a0_1) ∧ w'.cell? ⟨gb496, 2, none⟩ = some (.string a0_2)) (ds := []) #[false, false, false, false, false, false, false, false, false, false] (by kernel_rfl) rfl rfl ⟨(blk_cell BK497.out 0).trans rfl, (blk_cell BK497.out 1).trans rfl, (blk_cell BK497.out 2).trans rfl, (blk_cell BK496.out 0).trans rfl, (blk_cell BK496.out 1).trans rfl, (blk_cell BK496.out 2).trans rfl⟩ (fun hHeld => ?_); refine with_tabW rational_add.tab3 rational_add.bits3 (fun HT_ HW_ => ?_)
   generalize w7.drew = w26 at BK496 BK497 BK498 HB hHeld ⊢
   refine pure_ (i := 0) (N := some 21) (v := ?_) (a' := ?_) #[true, false, false, false, false, false, false, false, false, false] rfl rfl (any_of HT_.out (by kernel_rfl)) (fun _ _ _ h => h) (Or.inl ⟨by rfl, ?_⟩) ?_ ?_
   rotate_left
   ·intro w'
    go_simp
    with_reducible rfl
   rotate_left
   ·simp only [Act.put, List.setIfInBounds_toArray, List.set_cons_zero, List.set_cons_succ, i64_w, i32_w]
    rfl
   refine pure_ (i := 4) (N := some 25) (v := ?_) (a' := ?_) #[true, false, false, false, true, false, false, false, false, false] rfl rfl (any_of HT_.out (by kernel_rfl)) (fun _ _ _ h => h) (Or.inl ⟨by rfl, ?_⟩) ?_ ?_
   rotate_left
   ·intro w'
    go_simp
    with_reducible rfl
   rotate_left
   ·simp only [Act.put, List.setIfInBounds_toArray, List.set_cons_zero, List.set_cons_succ, i64_w, i32_w]
    rfl
   refine take_ (i := 1) (N := some 22) (v := ?_) (a' := ?_) #[true, true, false, false, true, false, false, false, false, false] rfl rfl (take_ofW HT_.out HW_.out (by kernel_rfl)) (fun _ _ _ h => h) (Or.inl ⟨by rfl, ?_⟩) hHeld ?_ ?_
   rotate_left
   ·rintro w' ⟨s0, s1, s2, s3, s4, s5⟩
    go_simp
    with_reducible rfl
   rotate_left
   ·simp only [Act.put, List.setIfInBounds_toArray, List.set_cons_zero, List.set_cons_succ, i64_w, i32_w]
    rfl
   refine take_ (i := 5) (N := some 26) (v := ?_) (a' := ?_) #[true, true, false, false, true, true, false, false, false, false] rfl rfl (take_ofW HT_.out HW_.out (by kernel_rfl)) (fun _ _ _ h => h) (Or.inl ⟨by rfl, ?_⟩) hHeld ?_ ?_
   rotate_left
   ·rintro w' ⟨s0, s1, s2, s3, s4, s5⟩
    go_simp
    with_reducible rfl
   rotate_left
   ·simp only [Act.put, List.setIfInBounds_toArray, List.set_cons_zero, List.set_cons_succ, i64_w, i32_w]
    rfl
   refine one_ (i := 2) (N := some 23) #[true, true, true, false, true, true, false, false, false, false] rfl rfl (one_of HT_.out (by kernel_rfl)) (by decide) (fun K hK => ?_)
   refine goes_ Tryd.func41 (by kernel_rfl) rfl #[.agg #[.bool a1_0, .string a1_1, .string a1_2]] (by rfl) rfl rfl (by (try simp only [List.map_toArray, List.map_cons, List.map_nil]); first | done | rfl | (simp only [List.length_drop, List.length_take]; rfl)) ?_
   with_reducible refine (rational_den.calls a1_0 a1_1 a1_2 t500 _ A19.out).mono ?_
   rintro e w27 ⟨rfl, hb⟩
   refine ⟨_, rfl, ?_⟩
   replace BK496 := Aside0.mk (bk0 BK496.out hb)
   replace BK497 := Aside0.mk (bk0 BK497.out hb)
   replace BK498 := Aside0.mk (bk0 BK498.out hb)
   replace HB := Aside0.mk (bs HB.out hb)
   (try clear hb)
   (try clear hb2)
   (try clear hk)
   (try clear hi)
   refine hK.out _ _ ⟨(blk_cell BK497.out 0).trans rfl, (blk_cell BK497.out 1).trans rfl, (blk_cell BK497.out 2).trans rfl, (blk_cell BK496.out 0).trans rfl, (blk_cell BK496.out 1).trans rfl, (blk_cell BK496.out 2).trans rfl⟩ (fun hHeld => ?_)
   clear hK K
   refine norm_ (a' := ?_) ?_ ?_
   rotate_left
   ·show Act.put _ (some 23) _ = _
    simp only [Act.put, List.setIfInBounds_toArray, List.set_cons_zero, List.set_cons_succ, i64_w, i32_w]
    rfl
   refine one_ (i := 3) (N := some 24) #[true, true, true, true, true, true, false, false, false, false] rfl rfl (one_of HT_.out (by kernel_rfl)) (by decide) (fun K hK => ?_)
   refine goes_ Tryd.func40 (by kernel_rfl) rfl #[.string a0_1, .string t500] (by rfl) rfl rfl (by (try simp only [List.map_toArray, List.map_cons, List.map_nil]); first | done | rfl | (simp only [List.length_drop, List.length_take]; rfl)) ?_
   with_reducible refine (natural_Multiply.calls k a0_1 t500 t501 _ A20.out).mono ?_
   rintro e w28 ⟨rfl, hb⟩
   refine ⟨_, rfl, ?_⟩
   replace BK496 := Aside0.mk (bk0 BK496.out hb)
   replace BK497 := Aside0.mk (bk0 BK497.out hb)
   replace BK498 := Aside0.mk (bk0 BK498.out hb)
   replace HB := Aside0.mk (bs HB.out hb)
   (try clear hb)
   (try clear hb2)
   (try clear hk)
   (try clear hi)
   refine hK.out _ _ ⟨(blk_cell BK497.out 0).trans rfl, (blk_cell BK497.out 1).trans rfl, (blk_cell BK497.out 2).trans rfl, (blk_cell BK496.out 0).trans rfl, (blk_cell BK496.out 1).trans rfl, (blk_cell BK496.out 2).trans rfl⟩ (fun hHeld => ?_)
   clear hK K
   refine norm_ (a' := ?_) ?_ ?_
   rotate_left
   ·show Act.put _ (some 24) _ = _
    simp only [Act.put, List.setIfInBounds_toArray, List.set_cons_zero, List.set_cons_succ, i64_w, i32_w]
    rfl
   refine one_ (i := 6) (N := some 27) #[true, true, true, true, true, true, true, false, false, false] rfl rfl (one_of HT_.out (by kernel_rfl)) (by decide) (fun K hK => ?_)
   refine goes_ Tryd.func41 (by kernel_rfl) rfl #[.agg #[.bool a0_0, .string a0_1, .string a0_2]] (by rfl) rfl rfl (by (try simp only [List.map_toArray, List.map_cons, List.map_nil]); first | done | rfl | (simp only [List.length_drop, List.length_take]; rfl)) ?_
   with_reducible refine (rational_den.calls a0_0 a0_1 a0_2 t502 _ A21.out).mono ?_
   rintro e w29 ⟨rfl, hb⟩
   refine ⟨_, rfl, ?_⟩
   replace BK496 := Aside0.mk (bk0 BK496.out hb)
   replace BK497 := Aside0.mk (bk0 BK497.out hb)
   replace BK498 := Aside0.mk (bk0 BK498.out hb)
   replace HB := Aside0.mk (bs HB.out hb)
   (try clear hb)
   (try clear hb2)
   (try clear hk)
   (try clear hi)
   refine hK.out _ _ ⟨(blk_cell BK497.out 0).trans rfl, (blk_cell BK497.out 1).trans rfl, (blk_cell BK497.out 2).trans rfl, (blk_cell BK496.out 0).trans rfl, (blk_cell BK496.out 1).trans rfl, (blk_cell BK496.out 2).trans rfl⟩ (fun hHeld => ?_)
   clear hK K
   refine norm_ (a' := ?_) ?_ ?_
   rotate_left
   ·show Act.put _ (some 27) _ = _
    simp only [Act.put, List.setIfInBounds_toArray, List.set_cons_zero, List.set_cons_succ, i64_w, i32_w]
    rfl
   refine one_ (i := 7) (N := some 28) #[true, true, true, true, true, true, true, true, false, false] rfl rfl (one_of HT_.out (by kernel_rfl)) (by decide) (fun K hK => ?_)
   refine goes_ Tryd.func40 (by kernel_rfl) rfl #[.string a1_1, .string t502] (by rfl) rfl rfl (by (try simp only [List.map_toArray, List.map_cons, List.map_nil]); first | done | rfl | (simp only [List.length_drop, List.length_take]; rfl)) ?_
   with_reducible refine (natural_Multiply.calls k a1_1 t502 t503 _ A22.out).mono ?_
   rintro e w30 ⟨rfl, hb⟩
   refine ⟨_, rfl, ?_⟩
   replace BK496 := Aside0.mk (bk0 BK496.out hb)
   replace BK497 := Aside0.mk (bk0 BK497.out hb)
   replace BK498 := Aside0.mk (bk0 BK498.out hb)
   replace HB := Aside0.mk (bs HB.out hb)
   (try clear hb)
   (try clear hb2)
   (try clear hk)
   (try clear hi)
   refine hK.out _ _ ⟨(blk_cell BK497.out 0).trans rfl, (blk_cell BK497.out 1).trans rfl, (blk_cell BK497.out 2).trans rfl, (blk_cell BK496.out 0).trans rfl, (blk_cell BK496.out 1).trans rfl, (blk_cell BK496.out 2).trans rfl⟩ (fun hHeld => ?_)
   clear hK K
   refine norm_ (a' := ?_) ?_ ?_
   rotate_left
   ·show Act.put _ (some 28) _ = _
    simp only [Act.put, List.setIfInBounds_toArray, List.set_cons_zero, List.set_cons_succ, i64_w, i32_w]
    rfl
   refine pure_ (i := 8) (N := some 5) (v := ?_) (a' := ?_) #[true, true, true, true, true, true, true, true, true, false] rfl rfl (any_of HT_.out (by kernel_rfl)) (fun _ _ _ h => h) (Or.inl ⟨by rfl, ?_⟩) ?_ ?_
   rotate_left
   ·intro w'
    go_simp
    with_reducible rfl
   rotate_left
   ·simp only [Act.put, List.setIfInBounds_toArray, List.set_cons_zero, List.set_cons_succ, i64_w, i32_w]
    rfl
   refine pure_ (i := 9) (N := some 6) (v := ?_) (a' := ?_) #[true, true, true, true, true, true, true, true, true, true] rfl rfl (any_of HT_.out (by kernel_rfl)) (fun _ _ _ h => h) (Or.inl ⟨by rfl, ?_⟩) ?_ ?_
   rotate_left
   ·intro w'
    go_simp
    with_reducible rfl
   rotate_left
   ·simp only [Act.put, List.setIfInBounds_toArray, List.set_cons_zero, List.set_cons_succ, i64_w, i32_w]
    rfl
   refine done_ (done_of HT_.out (by kernel_rfl)) ?_
   try go_wp2
   replace BK496 := Aside0.mk (blk_drew BK496.out)
   replace BK497 := Aside0.mk (blk_drew BK497.out)
   replace BK498 := Aside0.mk (blk_drew BK498.out)
   replace HB := Aside0.mk (below_drew1 HB.out)
   refine start_ (n := 6) (S := fun w' => w'.cell? ⟨gb496, 0, none⟩ = some (.bool a0_0) ∧ w'.cell? ⟨gb496, 1, none⟩ = some (.string a0_1) ∧ w'.cell? ⟨gb496, 2, none⟩ = some (.string a0_2) ∧ w'.cell? ⟨gb497, 0, none⟩ = some (.bool a1_0) ∧ w'.cell? ⟨gb497, 1, none⟩ = some (.string a1_1) ∧ w'.cell? ⟨gb497, 2, none⟩ = some (.string a1_2)) (ds := []) #[false, false, false, false, false, false] (by kernel_rfl) rfl rfl ⟨(blk_cell BK496.out 0).trans rfl, (blk_cell BK496.out 1).trans rfl, (blk_cell BK496.out 2).trans rfl, (blk_cell BK497.out 0).trans rfl, (blk_cell BK497.out 1).trans rfl, (blk_cell BK497.out 2).trans rfl⟩ (fun hHeld => ?_)
   generalize w30.drew = w31 at BK496 BK497 BK498 HB hHeld ⊢
   refine take_ (i := 0) (N := some 29) (v := ?_) (a' := ?_) #[true, false, false, false, false, false] rfl rfl (by kernel_rfl) (fun _ _ _ h => h) (Or.inl ⟨by rfl, ?_⟩) hHeld ?_ ?_
   rotate_left
   ·rintro w' ⟨s0, s1, s2, s3, s4, s5⟩
    go_simp
    with_reducible rfl
   rotate_left
   ·simp only [Act.put, List.setIfInBounds_toArray, List.set_cons_zero, List.set_cons_succ, i64_w, i32_w]
    rfl
   refine take_ (i := 2) (N := some 31) (v := ?_) (a' := ?_) #[true, false, true, false, false, false] rfl rfl (by kernel_rfl) (fun _ _ _ h => h) (Or.inl ⟨by rfl, ?_⟩) hHeld ?_ ?_
   rotate_left
   ·rintro w' ⟨s0, s1, s2, s3, s4, s5⟩
    go_simp
    with_reducible rfl
   rotate_left
   ·simp only [Act.put, List.setIfInBounds_toArray, List.set_cons_zero, List.set_cons_succ, i64_w, i32_w]
    rfl
   refine one_ (i := 1) (N := some 30) #[true, true, true, false, false, false] rfl rfl (by kernel_rfl) (by decide) (fun K hK => ?_)
   refine goes_ Tryd.func41 (by kernel_rfl) rfl #[.agg #[.bool a0_0, .string a0_1, .string a0_2]] (by rfl) rfl rfl (by (try simp only [List.map_toArray, List.map_cons, List.map_nil]); first | done | rfl | (simp only [List.length_drop, List.length_take]; rfl)) ?_
   with_reducible refine (rational_den.calls a0_0 a0_1 a0_2 t504 _ A23.out).mono ?_
   rintro e w32 ⟨rfl, hb⟩
   refine ⟨_, rfl, ?_⟩
   replace BK496 := Aside0.mk (bk0 BK496.out hb)
   replace BK497 := Aside0.mk (bk0 BK497.out hb)
   replace BK498 := Aside0.mk (bk0 BK498.out hb)
   replace HB := Aside0.mk (bs HB.out hb)
   (try clear hb)
   (try clear hb2)
   (try clear hk)
   (try clear hi)
   refine hK.out _ _ ⟨(blk_cell BK496.out 0).trans rfl, (blk_cell BK496.out 1).trans rfl, (blk_cell BK496.out 2).trans rfl, (blk_cell BK497.out 0).trans rfl, (blk_cell BK497.out 1).trans rfl, (blk_cell BK497.out 2).trans rfl⟩ (fun hHeld => ?_)
   clear hK K
   refine norm_ (a' := ?_) ?_ ?_
   rotate_left
   ·show Act.put _ (some 30) _ = _
    simp only [Act.put, List.setIfInBounds_toArray, List.set_cons_zero, List.set_cons_succ, i64_w, i32_w]
    rfl
   refine one_ (i := 3) (N := some 32) #[true, true, true, true, false, false] rfl rfl (by kernel_rfl) (by decide) (fun K hK => ?_)
   refine goes_ Tryd.func41 (by kernel_rfl) rfl #[.agg #[.bool a1_0, .string a1_1, .string a1_2]] (by rfl) rfl rfl (by (try simp only [List.map_toArray, List.map_cons, List.map_nil]); first | done | rfl | (simp only [List.length_drop, List.length_take]; rfl)) ?_
   with_reducible refine (rational_den.calls a1_0 a1_1 a1_2 t505 _ A24.out).mono ?_
   rintro e w33 ⟨rfl, hb⟩
   refine ⟨_, rfl, ?_⟩
   replace BK496 := Aside0.mk (bk0 BK496.out hb)
   replace BK497 := Aside0.mk (bk0 BK497.out hb)
   replace BK498 := Aside0.mk (bk0 BK498.out hb)
   replace HB := Aside0.mk (bs HB.out hb)
   (try clear hb)
   (try clear hb2)
   (try clear hk)
   (try clear hi)
   refine hK.out _ _ ⟨(blk_cell BK496.out 0).trans rfl, (blk_cell BK496.out 1).trans rfl, (blk_cell BK496.out 2).trans rfl, (blk_cell BK497.out 0).trans rfl, (blk_cell BK497.out 1).trans rfl, (blk_cell BK497.out 2).trans rfl⟩ (fun hHeld => ?_)
   clear hK K
   refine norm_ (a' := ?_) ?_ ?_
   rotate_left
   ·show Act.put _ (some 32) _ = _
    simp only [Act.put, List.setIfInBounds_toArray, List.set_cons_zero, List.set_cons_succ, i64_w, i32_w]
    rfl
   refine one_ (i := 4) (N := some 33) #[true, true, true, true, true, false] rfl rfl (by kernel_rfl) (by decide) (fun K hK => ?_)
   refine goes_ Tryd.func40 (by kernel_rfl) rfl #[.string t504, .string t505] (by rfl) rfl rfl (by (try simp only [List.map_toArray, List.map_cons, List.map_nil]); first | done | rfl | (simp only [List.length_drop, List.length_take]; rfl)) ?_
   with_reducible refine (natural_Multiply.calls k t504 t505 t506 _ A25.out).mono ?_
   rintro e w34 ⟨rfl, hb⟩
   refine ⟨_, rfl, ?_⟩
   replace BK496 := Aside0.mk (bk0 BK496.out hb)
   replace BK497 := Aside0.mk (bk0 BK497.out hb)
   replace BK498 := Aside0.mk (bk0 BK498.out hb)
   replace HB := Aside0.mk (bs HB.out hb)
   (try clear hb)
   (try clear hb2)
   (try clear hk)
   (try clear hi)
   refine hK.out _ _ ⟨(blk_cell BK496.out 0).trans rfl, (blk_cell BK496.out 1).trans rfl, (blk_cell BK496.out 2).trans rfl, (blk_cell BK497.out 0).trans rfl, (blk_cell BK497.out 1).trans rfl, (blk_cell BK497.out 2).trans rfl⟩ (fun hHeld => ?_)
   clear hK K
   refine norm_ (a' := ?_) ?_ ?_
   rotate_left
   ·show Act.put _ (some 33) _ = _
    simp only [Act.put, List.setIfInBounds_toArray, List.set_cons_zero, List.set_cons_succ, i64_w, i32_w]
    rfl
   refine pure_ (i := 5) (N := some 7) (v := ?_) (a' := ?_) #[true, true, true, true, true, true] rfl rfl (by kernel_rfl) (fun _ _ _ h => h) (Or.inl ⟨by rfl, ?_⟩) ?_ ?_
   rotate_left
   ·intro w'
    go_simp
    with_reducible rfl
   rotate_left
   ·simp only [Act.put, List.setIfInBounds_toArray, List.set_cons_zero, List.set_cons_succ, i64_w, i32_w]
    rfl
   refine done_ (by kernel_rfl) ?_
   try go_wp2
   go_meet
   case rel => exact ⟨_, (t501), (t503), (t506), fs, fs, fs, H', ⟨by first | omega | exact Nat.le_refl _⟩, ⟨bq BK496.out⟩, ⟨bq BK497.out⟩, ⟨bq BK498.out⟩, ⟨bz HB.out⟩⟩
 case rest =>
  clear HC3
  try clear c1
  try clear p2
  try clear c3
  try clear c4
  try clear c8
  try clear c9
  try clear c11
  try clear c13
  try clear c13b0
  try clear c13b1
  try clear c15
  try clear c16
  try clear hcz10_0
  try clear hcz10_1
  try clear hcz10_2
  try clear hcz12_0
  try clear hcz12_1
  try clear hcz12_2
  try clear hcz17_0
  try clear hcz17_1
  try clear hcz17_2
  try clear hfz10_0
  try clear hfz10_1
  try clear hfz10_2
  try clear hfz12_0
  try clear hfz12_1
  try clear hfz12_2
  try clear hfz17_0
  try clear hfz17_1
  try clear hfz17_2
  obtain ⟨kq, x5_2, x6_2, x7_2, rfl, rfl, rfl, HA, HJ2, BK496, BK497, BK498, HB⟩ := hcut
  cases kq with
  | zero => exact absurd HA.out (by simp [rational_add.j0])
  | succ kj2 =>
   have H := HA.out
   clear HA
   simp only [rational_add.j0] at H
   by_cases c35 : (a0_0 == a1_0) = true
   ·rw [if_pos c35] at H
    have c35b0 : (a0_0 == a1_0) = true := c35
    (try (have c35b1 : decide (a0_0 = a1_0) = true := by simpa using c35))
    (try (have c35b2 : (a0_0 == a1_0) = true := by simpa using c35))
    clear c35
    obtain ⟨t507, A36, H⟩ := bs1 H
    obtain ⟨⟨t508, t509, t510⟩, A37, H⟩ := bs1 H; dsimp only at H
    simp only [Option.some.injEq, Prod.mk.injEq] at H
    obtain ⟨rfl, rfl, rfl⟩ := H
    have hnb38 := NB496_497.out
    have hnc38 := NB497_496.out
    have hnb39 := NB496_498.out
    have hnc39 := NB498_496.out
    obtain ⟨hcz40_0, hcz40_1, hcz40_2, hfz40_0, hfz40_1, hfz40_2⟩ := c3 BK496.out
    have hnb41 := NB497_498.out
    have hnc41 := NB498_497.out
    obtain ⟨hcz42_0, hcz42_1, hcz42_2, hfz42_0, hfz42_1, hfz42_2⟩ := c3 BK497.out
    try go_wp2
    replace BK496 := Aside0.mk (blk_drew BK496.out)
    replace BK497 := Aside0.mk (blk_drew BK497.out)
    replace BK498 := Aside0.mk (blk_drew BK498.out)
    replace HB := Aside0.mk (below_drew1 HB.out)
    refine start_ (n := 8) (S := fun w' => w'.cell? ⟨gb496, 0, none⟩ = some (.bool a0_0) ∧ w'.cell? ⟨gb496, 1, none⟩ = some (.string a0_1) ∧ w'.cell? ⟨gb496, 2, none⟩ = some (.string a0_2)) (ds := []) #[false, false, false, false, false, false, false, false] (by kernel_rfl) rfl rfl ⟨(blk_cell BK496.out 0).trans rfl, (blk_cell BK496.out 1).trans rfl, (blk_cell BK496.out 2).trans rfl⟩ (fun hHeld => ?_); refine with_tabW rational_add.tab7 rational_add.bits7 (fun HT_ HW_ => ?_)
    generalize wc.drew = w43 at BK496 BK497 BK498 HB hHeld ⊢
    refine pure_ (i := 0) (N := some 41) (v := ?_) (a' := ?_) #[true, false, false, false, false, false, false, false] rfl rfl (any_of HT_.out (by kernel_rfl)) (fun _ _ _ h => h) (Or.inl ⟨by rfl, ?_⟩) ?_ ?_
    rotate_left
    ·intro w'
     go_simp
     with_reducible rfl
    rotate_left
    ·simp only [Act.put, List.setIfInBounds_toArray, List.set_cons_zero, List.set_cons_succ, i64_w, i32_w]
     rfl
    refine pure_ (i := 2) (N := some 43) (v := ?_) (a' := ?_) #[true, false, true, false, false, false, false, false] rfl rfl (any_of HT_.out (by kernel_rfl)) (fun _ _ _ h => h) (Or.inl ⟨by rfl, ?_⟩) ?_ ?_
    rotate_left
    ·intro w'
     go_simp
     with_reducible rfl
    rotate_left
    ·simp only [Act.put, List.setIfInBounds_toArray, List.set_cons_zero, List.set_cons_succ, i64_w, i32_w]
     rfl
    refine pure_ (i := 3) (N := some 44) (v := ?_) (a' := ?_) #[true, false, true, true, false, false, false, false] rfl rfl (any_of HT_.out (by kernel_rfl)) (fun _ _ _ h => h) (Or.inl ⟨by rfl, ?_⟩) ?_ ?_
    rotate_left
    ·intro w'
     go_simp
     with_reducible rfl
    rotate_left
    ·simp only [Act.put, List.setIfInBounds_toArray, List.set_cons_zero, List.set_cons_succ, i64_w, i32_w]
     rfl
    refine pure_ (i := 5) (N := some 46) (v := ?_) (a' := ?_) #[true, false, true, true, false, true, false, false] rfl rfl (any_of HT_.out (by kernel_rfl)) (fun _ _ _ h => h) (Or.inl ⟨by rfl, ?_⟩) ?_ ?_
    rotate_left
    ·intro w'
     go_simp
     with_reducible rfl
    rotate_left
    ·simp only [Act.put, List.setIfInBounds_toArray, List.set_cons_zero, List.set_cons_succ, i64_w, i32_w]
     rfl
    refine take_ (i := 1) (N := some 42) (v := ?_) (a' := ?_) #[true, true, true, true, false, true, false, false] rfl rfl (take_ofW HT_.out HW_.out (by kernel_rfl)) (fun _ _ _ h => h) (Or.inl ⟨by rfl, ?_⟩) hHeld ?_ ?_
    rotate_left
    ·rintro w' ⟨s0, s1, s2⟩
     go_simp
     with_reducible rfl
    rotate_left
    ·simp only [Act.put, List.setIfInBounds_toArray, List.set_cons_zero, List.set_cons_succ, i64_w, i32_w]
     rfl
    refine one_ (i := 4) (N := some 45) #[true, true, true, true, true, true, false, false] rfl rfl (one_of HT_.out (by kernel_rfl)) (by decide) (fun K hK => ?_)
    refine goes_ Tryd.func48 (by kernel_rfl) rfl #[.string x5_2, .string x6_2] (by rfl) rfl rfl (by (try simp only [List.map_toArray, List.map_cons, List.map_nil]); first | done | rfl | (simp only [List.length_drop, List.length_take]; rfl)) ?_
    with_reducible refine (natural_Add.calls kj2 x5_2 x6_2 t507 _ A36.out).mono ?_
    rintro e w44 ⟨rfl, hb⟩
    refine ⟨_, rfl, ?_⟩
    replace BK496 := Aside0.mk (bk0 BK496.out hb)
    replace BK497 := Aside0.mk (bk0 BK497.out hb)
    replace BK498 := Aside0.mk (bk0 BK498.out hb)
    replace HB := Aside0.mk (bs HB.out hb)
    (try clear hb)
    (try clear hb2)
    (try clear hk)
    (try clear hi)
    refine hK.out _ _ ⟨(blk_cell BK496.out 0).trans rfl, (blk_cell BK496.out 1).trans rfl, (blk_cell BK496.out 2).trans rfl⟩ (fun hHeld => ?_)
    clear hK K
    refine norm_ (a' := ?_) ?_ ?_
    rotate_left
    ·show Act.put _ (some 45) _ = _
     simp only [Act.put, List.setIfInBounds_toArray, List.set_cons_zero, List.set_cons_succ, i64_w, i32_w]
     rfl
    refine one_ (i := 6) (N := some 47) #[true, true, true, true, true, true, true, false] rfl rfl (one_of HT_.out (by kernel_rfl)) (by decide) (fun K hK => ?_)
    refine goes_ Tryd.func30 (by kernel_rfl) rfl #[.bool a0_0, .string t507, .string x7_2] (by rfl) rfl rfl (by (try simp only [List.map_toArray, List.map_cons, List.map_nil]); first | done | rfl | (simp only [List.length_drop, List.length_take]; rfl)) ?_
    with_reducible refine (rational_reduced.calls kj2 a0_0 t507 x7_2 t508 t509 t510 _ A37.out).mono ?_
    rintro e w45 ⟨rfl, hb⟩
    refine ⟨_, rfl, ?_⟩
    replace BK496 := Aside0.mk (bk0 BK496.out hb)
    replace BK497 := Aside0.mk (bk0 BK497.out hb)
    replace BK498 := Aside0.mk (bk0 BK498.out hb)
    replace HB := Aside0.mk (bs HB.out hb)
    (try clear hb)
    (try clear hb2)
    (try clear hk)
    (try clear hi)
    refine hK.out _ _ ⟨(blk_cell BK496.out 0).trans rfl, (blk_cell BK496.out 1).trans rfl, (blk_cell BK496.out 2).trans rfl⟩ (fun hHeld => ?_)
    clear hK K
    refine norm_ (a' := ?_) ?_ ?_
    rotate_left
    ·show Act.put _ (some 47) _ = _
     simp only [Act.put, List.setIfInBounds_toArray, List.set_cons_zero, List.set_cons_succ, i64_w, i32_w]
     rfl
    refine one_ (i := 7) (N := none) #[true, true, true, true, true, true, true, true] rfl rfl (one_of HT_.out (by kernel_rfl)) (by decide) (fun K hK => ?_)
    have hs46 : w45.cell? ⟨gb498, 0, none⟩ = some (.bool false) := (blk_cell BK498.out 0).trans rfl
    have hfs46 := blk_frozen BK498.out 0
    have hns46_0 := NB496_498.out
    have hns46_1 := NB497_498.out
    have hms46_0 := NB498_496.out
    have hms46_1 := NB498_497.out
    have hs47 : w45.cell? ⟨gb498, 1, none⟩ = some (.string (⟨#[]⟩ : ByteArray)) := (blk_cell BK498.out 1).trans rfl
    have hfs47 := blk_frozen BK498.out 1
    have hns47_0 := NB496_498.out
    have hns47_1 := NB497_498.out
    have hms47_0 := NB498_496.out
    have hms47_1 := NB498_497.out
    have hs48 : w45.cell? ⟨gb498, 2, none⟩ = some (.string (⟨#[]⟩ : ByteArray)) := (blk_cell BK498.out 2).trans rfl
    have hfs48 := blk_frozen BK498.out 2
    have hns48_0 := NB496_498.out
    have hns48_1 := NB497_498.out
    have hms48_0 := NB498_496.out
    have hms48_1 := NB498_497.out
    refine skip_ (w1 := ?_) (by rfl) rfl ?_ ?_
    rotate_left
    ·go_simp
     rfl
    refine hK.out _ _ ⟨((cell_far (p := ⟨gb498, _, none⟩) NB496_498.out _).trans (((cell_far (p := ⟨gb498, _, none⟩) NB496_498.out _).trans (((cell_far (p := ⟨gb498, _, none⟩) NB496_498.out _).trans (hHeld.1)))))), ((cell_far (p := ⟨gb498, _, none⟩) NB496_498.out _).trans (((cell_far (p := ⟨gb498, _, none⟩) NB496_498.out _).trans (((cell_far (p := ⟨gb498, _, none⟩) NB496_498.out _).trans (hHeld.2.1)))))), ((cell_far (p := ⟨gb498, _, none⟩) NB496_498.out _).trans (((cell_far (p := ⟨gb498, _, none⟩) NB496_498.out _).trans (((cell_far (p := ⟨gb498, _, none⟩) NB496_498.out _).trans (hHeld.2.2))))))⟩ (fun hHeld => ?_)
    clear hK K
    refine done_ (done_of HT_.out (by kernel_rfl)) ?_
    try go_wp2
    refine bodyPost_ret (results_cell_row rfl _ _ gb498 23 #[.bool t508, .string t509, .string t510] (0, 0) _ rfl (bq BK498.out) Tryd.underlying23 rfl (by kernel_rfl)) rfl ?_
    exact ⟨fe, bz HB.out⟩
   ·rw [if_neg c35] at H
    have c35b0 : (a0_0 == a1_0) = false := by simpa using c35
    (try (have c35b1 : decide (a0_0 = a1_0) = false := by simpa using c35))
    (try (have c35b2 : (a0_0 == a1_0) = false := by simpa using c35))
    (try (have c35b3 : ¬ (a0_0 = a1_0) := by simpa using c35))
    clear c35
    obtain ⟨⟨t511, t512⟩, A49, H⟩ := bs1 H; dsimp only at H
    by_cases c50 : t512 = true
    ·subst c50
     have H1 : ((rational_reduced.f kj2 a0_0 t511 x7_2).bind fun bt513 => (some (bt513.1, bt513.2.1, bt513.2.2))) = some (r1, r2, r3) := by rw [if_pos rfl] at H; exact H
     clear H
     have H := H1
     clear H1
     obtain ⟨⟨t513, t514, t515⟩, A51, H⟩ := bs1 H; dsimp only at H
     simp only [Option.some.injEq, Prod.mk.injEq] at H
     obtain ⟨rfl, rfl, rfl⟩ := H
     have hnb52 := NB496_497.out
     have hnc52 := NB497_496.out
     have hnb53 := NB496_498.out
     have hnc53 := NB498_496.out
     obtain ⟨hcz54_0, hcz54_1, hcz54_2, hfz54_0, hfz54_1, hfz54_2⟩ := c3 BK496.out
     have hnb55 := NB497_498.out
     have hnc55 := NB498_497.out
     obtain ⟨hcz56_0, hcz56_1, hcz56_2, hfz56_0, hfz56_1, hfz56_2⟩ := c3 BK497.out
     go_wp2_with (first | ((with_reducible refine gc 61 rfl ?_); refine gl (some 51) Tryd.func61 #[.string x5_2, .string x6_2] ?_; (with_reducible refine (natural_Subtract.calls kj2 x5_2 x6_2 t511 true _ A49.out).mono ?_); rintro e w57 ⟨rfl, hb⟩; refine ⟨_, rfl, ?_⟩; replace BK496 := Aside0.mk (bk0 BK496.out hb); replace BK497 := Aside0.mk (bk0 BK497.out hb); replace BK498 := Aside0.mk (bk0 BK498.out hb); replace HB := Aside0.mk (bs HB.out hb); (try clear hb); obtain ⟨hcz58_0, hcz58_1, hcz58_2, hfz58_0, hfz58_1, hfz58_2⟩ := c3 BK496.out) | ((with_reducible refine gc 30 rfl ?_); refine gl (some 59) Tryd.func30 #[.bool a0_0, .string t511, .string x7_2] ?_; (with_reducible refine (rational_reduced.calls kj2 a0_0 t511 x7_2 t513 t514 t515 _ A51.out).mono ?_); rintro e w59 ⟨rfl, hb⟩; refine ⟨_, rfl, ?_⟩; replace BK496 := Aside0.mk (bk0 BK496.out hb); replace BK497 := Aside0.mk (bk0 BK497.out hb); replace BK498 := Aside0.mk (bk0 BK498.out hb); replace HB := Aside0.mk (bs HB.out hb); (try clear hb); obtain ⟨hcz60_0, hcz60_1, hcz60_2, hfz60_0, hfz60_1, hfz60_2⟩ := c3 BK498.out))
     refine bodyPost_ret (results_cell_row rfl _ _ gb498 23 #[.bool t513, .string t514, .string t515] (0, 0) _ rfl (bq BK498.out) Tryd.underlying23 rfl (by kernel_rfl)) rfl ?_
     exact ⟨fe, bz HB.out⟩
    ·replace c50 := Bool.eq_false_iff.mpr c50
     subst c50
     have H1 : ((natural_Subtract.f kj2 x6_2 x5_2).bind fun bt516 => ((rational_reduced.f kj2 a1_0 bt516.1 x7_2).bind fun bt518 => (some (bt518.1, bt518.2.1, bt518.2.2)))) = some (r1, r2, r3) := by rw [if_neg (show ¬ (false = true) by decide)] at H; exact H
     clear H
     have H := H1
     clear H1
     obtain ⟨⟨t516, t517⟩, A61, H⟩ := bs1 H; dsimp only at H
     obtain ⟨⟨t518, t519, t520⟩, A62, H⟩ := bs1 H; dsimp only at H
     simp only [Option.some.injEq, Prod.mk.injEq] at H
     obtain ⟨rfl, rfl, rfl⟩ := H
     have hnb63 := NB496_497.out
     have hnc63 := NB497_496.out
     have hnb64 := NB496_498.out
     have hnc64 := NB498_496.out
     obtain ⟨hcz65_0, hcz65_1, hcz65_2, hfz65_0, hfz65_1, hfz65_2⟩ := c3 BK496.out
     have hnb66 := NB497_498.out
     have hnc66 := NB498_497.out
     obtain ⟨hcz67_0, hcz67_1, hcz67_2, hfz67_0, hfz67_1, hfz67_2⟩ := c3 BK497.out
     go_wp2_with (first | ((with_reducible refine gc 61 rfl ?_); refine gl (some 51) Tryd.func61 #[.string x5_2, .string x6_2] ?_; (with_reducible refine (natural_Subtract.calls kj2 x5_2 x6_2 t511 false _ A49.out).mono ?_); rintro e w68 ⟨rfl, hb⟩; refine ⟨_, rfl, ?_⟩; replace BK496 := Aside0.mk (bk0 BK496.out hb); replace BK497 := Aside0.mk (bk0 BK497.out hb); replace BK498 := Aside0.mk (bk0 BK498.out hb); replace HB := Aside0.mk (bs HB.out hb); (try clear hb)) | ((with_reducible refine gc 61 rfl ?_); refine gl (some 63) Tryd.func61 #[.string x6_2, .string x5_2] ?_; (with_reducible refine (natural_Subtract.calls kj2 x6_2 x5_2 t516 t517 _ A61.out).mono ?_); rintro e w69 ⟨rfl, hb⟩; refine ⟨_, rfl, ?_⟩; replace BK496 := Aside0.mk (bk0 BK496.out hb); replace BK497 := Aside0.mk (bk0 BK497.out hb); replace BK498 := Aside0.mk (bk0 BK498.out hb); replace HB := Aside0.mk (bs HB.out hb); (try clear hb); obtain ⟨hcz70_0, hcz70_1, hcz70_2, hfz70_0, hfz70_1, hfz70_2⟩ := c3 BK497.out) | ((with_reducible refine gc 30 rfl ?_); refine gl (some 70) Tryd.func30 #[.bool a1_0, .string t516, .string x7_2] ?_; (with_reducible refine (rational_reduced.calls kj2 a1_0 t516 x7_2 t518 t519 t520 _ A62.out).mono ?_); rintro e w71 ⟨rfl, hb⟩; refine ⟨_, rfl, ?_⟩; replace BK496 := Aside0.mk (bk0 BK496.out hb); replace BK497 := Aside0.mk (bk0 BK497.out hb); replace BK498 := Aside0.mk (bk0 BK498.out hb); replace HB := Aside0.mk (bs HB.out hb); (try clear hb); obtain ⟨hcz72_0, hcz72_1, hcz72_2, hfz72_0, hfz72_1, hfz72_2⟩ := c3 BK498.out))
     refine bodyPost_ret (results_cell_row rfl _ _ gb498 23 #[.bool t518, .string t519, .string t520] (0, 0) _ rfl (bq BK498.out) Tryd.underlying23 rfl (by kernel_rfl)) rfl ?_
     exact ⟨fe, bz HB.out⟩

/-! ### rational_negate: function 37 -/
def rational_negate.f (a0_0 : Bool) (a0_1 : ByteArray) (a0_2 : ByteArray) : Option (Bool × ByteArray × ByteArray) := if a0_0 = true then (some (false, a0_1, a0_2)) else (some ((a0_1.toList != ([] : List UInt8)), a0_1, a0_2))
set_option maxHeartbeats 8000000 in
set_option maxRecDepth 100000 in
theorem rational_negate.calls (a0_0 : Bool) (a0_1 : ByteArray) (a0_2 : ByteArray) (r1 : Bool) (r2 : ByteArray) (r3 : ByteArray) (w : World) (h : rational_negate.f a0_0 a0_1 a0_2 = some (r1, r2, r3)) :
  Calls Tryd.prog 37 #[.agg #[.bool a0_0, .string a0_1, .string a0_2]] w fun e w' => e = .returned (.agg #[.bool r1, .string r2, .string r3]) ∧ Below w.heap.size w w' := by
 have hu23 := Tryd.underlying23
 have HB := Aside0.mk (Below.refl w.heap.size w)
 have H := h
 clear h
 unfold rational_negate.f at H
 by_cases c2 : a0_0 = true
 ·subst c2
  have H1 : (some (false, a0_1, a0_2)) = some (r1, r2, r3) := by rw [if_pos rfl] at H; exact H
  clear H
  have H := H1
  clear H1
  simp only [Option.some.injEq, Prod.mk.injEq] at H
  obtain ⟨rfl, rfl, rfl⟩ := H
  go_enter Tryd.func37, Tryd.ntmps37
  go_wp2_with (first | ((with_reducible refine gd 1 rfl ?_); refine bx 1 (#[.bool true, .string a0_1, .string a0_2]) 23 ?_; intro gb521 hg w3 hbox hb; have BK521 := Aside0.mk (hbox); have GW521 := sg hg HB.out; have GE521 := sg hg HB.out; replace HB := Aside0.mk (bs HB.out hb); clear hb hbox hg) | ((with_reducible refine gd 2 rfl ?_); refine bx 2 (#[.bool false, .string (⟨#[]⟩ : ByteArray), .string (⟨#[]⟩ : ByteArray)]) 23 ?_; intro gb522 hg w4 hbox hb; have BK522 := Aside0.mk (hbox); have GW522 := sg hg HB.out; have GE522 := sg hg HB.out; replace HB := Aside0.mk (bs HB.out hb); have NB521_522 := nl hg BK521.out; have NB522_521 := nr hg BK521.out; replace BK521 := Aside0.mk (bk0 BK521.out hb); clear hb hbox hg; have hnb5 := NB521_522.out; have hnc5 := NB522_521.out; obtain ⟨hcz6_0, hcz6_1, hcz6_2, hfz6_0, hfz6_1, hfz6_2⟩ := c3 BK521.out; obtain ⟨hcz7_0, hcz7_1, hcz7_2, hfz7_0, hfz7_1, hfz7_2⟩ := c3 BK522.out))
  refine bodyPost_ret (results_cell_row rfl _ _ gb522 23 #[.bool false, .string a0_1, .string a0_2] (0, 0) _ rfl (bq BK522.out) Tryd.underlying23 rfl (by kernel_rfl)) rfl ?_
  exact ⟨fe, bz HB.out⟩
 ·replace c2 := Bool.eq_false_iff.mpr c2
  subst c2
  have H1 : (some ((a0_1.toList != ([] : List UInt8)), a0_1, a0_2)) = some (r1, r2, r3) := by rw [if_neg (show ¬ (false = true) by decide)] at H; exact H
  clear H
  have H := H1
  clear H1
  simp only [Option.some.injEq, Prod.mk.injEq] at H
  obtain ⟨rfl, rfl, rfl⟩ := H
  go_enter Tryd.func37, Tryd.ntmps37
  go_wp2_with (first | ((with_reducible refine gd 1 rfl ?_); refine bx 1 (#[.bool false, .string a0_1, .string a0_2]) 23 ?_; intro gb521 hg w8 hbox hb; have BK521 := Aside0.mk (hbox); have GW521 := sg hg HB.out; have GE521 := sg hg HB.out; replace HB := Aside0.mk (bs HB.out hb); clear hb hbox hg) | ((with_reducible refine gd 2 rfl ?_); refine bx 2 (#[.bool false, .string (⟨#[]⟩ : ByteArray), .string (⟨#[]⟩ : ByteArray)]) 23 ?_; intro gb522 hg w9 hbox hb; have BK522 := Aside0.mk (hbox); have GW522 := sg hg HB.out; have GE522 := sg hg HB.out; replace HB := Aside0.mk (bs HB.out hb); have NB521_522 := nl hg BK521.out; have NB522_521 := nr hg BK521.out; replace BK521 := Aside0.mk (bk0 BK521.out hb); clear hb hbox hg; have hnb10 := NB521_522.out; have hnc10 := NB522_521.out; obtain ⟨hcz11_0, hcz11_1, hcz11_2, hfz11_0, hfz11_1, hfz11_2⟩ := c3 BK521.out; obtain ⟨hcz12_0, hcz12_1, hcz12_2, hfz12_0, hfz12_1, hfz12_2⟩ := c3 BK522.out))
  refine bodyPost_ret (results_cell_row rfl _ _ gb522 23 #[.bool (a0_1.toList != ([] : List UInt8)), .string a0_1, .string a0_2] (0, 0) _ rfl (bq BK522.out) Tryd.underlying23 rfl (by kernel_rfl)) rfl ?_
  exact ⟨fe, bz HB.out⟩

end Go.Proofs.YtgepdnoaemeofaaDoor.E
