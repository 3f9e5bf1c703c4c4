/- Printed by a program of this session (wip/tools) out of the translation: plain functions and the proofs that the code comes to their answers. -/
import Derived.Test.YtgepdnoaemeofaaDoorK
import Derived.Test.YtgepdnoaemeofaaDoorE0
import Derived.Test.YtgepdnoaemeofaaDoorE7
import Derived.Test.YtgepdnoaemeofaaDoorE11
import Derived.Test.YtgepdnoaemeofaaDoorE12
import Derived.Test.YtgepdnoaemeofaaDoorE19
namespace Go.Proofs.YtgepdnoaemeofaaDoor.E
open Go.RowKit Go.Proofs.YtgepdnoaemeofaaDoorW.PrintWords Go.Proofs.YtgepdnoaemeofaaDoorW.PrintLast Go.Proofs.YtgepdnoaemeofaaDoorW.PrintMore Go.Proofs.YtgepdnoaemeofaaDoorW.PK
attribute [local go_sem] max2_int min2_int max_two min_two max_three min_three max_four min_four   -- for this text's walks alone
set_option linter.unusedVariables false
set_option linter.unusedSimpArgs false

/-! ### rational_Compare: function 17 -/
def rational_Compare.f (k : Nat) (a0_0 : Bool) (a0_1 : ByteArray) (a0_2 : ByteArray) (a1_0 : Bool) (a1_1 : ByteArray) (a1_2 : ByteArray) : Option (Int) := (rational_clean.f k a0_0 a0_1 a0_2).bind fun bt605 => ((rational_clean.f k a1_0 a1_1 a1_2).bind fun bt608 => ((rational_signOf.f bt605.1 bt605.2.1 bt605.2.2).bind fun t611 => ((rational_signOf.f bt608.1 bt608.2.1 bt608.2.2).bind fun t612 => (if t611 = t612 then ((rational_den.f bt608.1 bt608.2.1 bt608.2.2).bind fun t613 => ((natural_Multiply.f k bt605.2.1 t613).bind fun t614 => ((rational_den.f bt605.1 bt605.2.1 bt605.2.2).bind fun t615 => ((natural_Multiply.f k bt608.2.1 t615).bind fun t616 => ((natural_Compare.f k t614 t616).bind fun t617 => (if bt605.1 = true then (some (wrap64 (-t617))) else (some t617))))))) else (if t611 < t612 then (some (-1)) else (some 1))))))
theorem rational_Compare.mono : ∀ a0 a1 a2 a3 a4 a5 k, LeO (rational_Compare.f k a0 a1 a2 a3 a4 a5) (rational_Compare.f (k + 1) a0 a1 a2 a3 a4 a5) := by
 intro a0 a1 a2 a3 a4 a5 k
 unfold rational_Compare.f
 repeat' first
   | (with_reducible exact natural_Compare.mono _ _ _)
   | (with_reducible exact natural_Multiply.mono _ _ _)
   | (with_reducible exact rational_clean.mono _ _ _ _)
   | (with_reducible exact LeO.refl _)
   | (with_reducible exact LeO.none _)
   | (with_reducible refine LeO.ite ?_ ?_)
   | (with_reducible refine LeO.bind ?_ (fun _ => ?_))
   | exact natural_Compare.mono _ _ _
   | exact natural_Multiply.mono _ _ _
   | exact rational_clean.mono _ _ _ _
   | exact LeO.none _
   | refine LeO.ite ?_ ?_
   | refine LeO.bind ?_ (fun _ => ?_)
def rational_Compare.T7 : Bool × List (List Nat × List Nat) := (true, [([], []), ([0], [0]), ([], []), ([2], [2]), ([1, 3, 3], [1, 3]), ([], []), ([5], [5]), ([], []), ([7, 4], [7]), ([6, 8, 8], [6, 8]), ([4, 9, 9], [4, 9]), ([10, 10, 0, 1, 2, 3, 4, 5, 6, 7, 8, 9, 10], [10])])
def rational_Compare.B7 : List Nat := [0, 1, 0, 4, 15, 0, 32, 0, 159, 511, 1023, 2047]
theorem rational_Compare.tab7 : rtab .any (opsOf Tryd.f17 7) = rational_Compare.T7 := by kernel_rfl
theorem rational_Compare.bits7 : waitsOk rational_Compare.T7.2 rational_Compare.B7 = true := by kernel_rfl
set_option maxHeartbeats 8000000 in
set_option maxRecDepth 100000 in
theorem rational_Compare.calls (k : Nat) (a0_0 : Bool) (a0_1 : ByteArray) (a0_2 : ByteArray) (a1_0 : Bool) (a1_1 : ByteArray) (a1_2 : ByteArray) (r : Int) (w : World) (h : rational_Compare.f k a0_0 a0_1 a0_2 a1_0 a1_1 a1_2 = some r) :
  Calls Tryd.prog 17 #[.agg #[.bool a0_0, .string a0_1, .string a0_2], .agg #[.bool a1_0, .string a1_1, .string a1_2]] w fun e w' => e = .returned (.int .i64 r) ∧ Below w.heap.size w w' := by
 have hu23 := Tryd.underlying23
 have HB := Aside0.mk (Below.refl w.heap.size w)
 have H := h
 clear h
 unfold rational_Compare.f at H
 obtain ⟨⟨t605, t606, t607⟩, A3, H⟩ := bs1 H; dsimp only at H
 obtain ⟨⟨t608, t609, t610⟩, A4, H⟩ := bs1 H; dsimp only at H
 obtain ⟨t611, A5, H⟩ := bs1 H
 obtain ⟨t612, A6, H⟩ := bs1 H
 by_cases c7 : t611 = t612
 ·rw [if_pos c7] at H
  have c7b0 := beq_iff_eq.mpr c7
  have c7b1 := bne_eq_false_iff_eq.mpr c7
  clear c7
  obtain ⟨t613, A8, H⟩ := bs1 H
  obtain ⟨t614, A9, H⟩ := bs1 H
  obtain ⟨t615, A10, H⟩ := bs1 H
  obtain ⟨t616, A11, H⟩ := bs1 H
  obtain ⟨t617, A12, H⟩ := bs1 H
  by_cases c13 : t605 = true
  ·subst c13
   have H1 : (some (wrap64 (-t617))) = some r := by rw [if_pos rfl] at H; exact H
   clear H
   have H := H1
   clear H1
   obtain rfl := Option.some.inj H
   go_enter Tryd.func17, Tryd.ntmps17
   try go_wp2_with (first | ((with_reducible refine gd 2 rfl ?_); refine bx 2 (#[.bool a0_0, .string a0_1, .string a0_2]) 23 ?_; intro gb603 hg w14 hbox hb; have BK603 := Aside0.mk (hbox); have GW603 := sg hg HB.out; have GE603 := sg hg HB.out; replace HB := Aside0.mk (bs HB.out hb); clear hb hbox hg) | ((with_reducible refine gd 3 rfl ?_); refine bx 3 (#[.bool a1_0, .string a1_1, .string a1_2]) 23 ?_; intro gb604 hg w15 hbox hb; have BK604 := Aside0.mk (hbox); have GW604 := sg hg HB.out; have GE604 := sg hg HB.out; replace HB := Aside0.mk (bs HB.out hb); have NB603_604 := nl hg BK603.out; have NB604_603 := nr hg BK603.out; replace BK603 := Aside0.mk (bk0 BK603.out hb); clear hb hbox hg))
   replace BK603 := Aside0.mk (blk_drew BK603.out)
   replace BK604 := Aside0.mk (blk_drew BK604.out)
   replace HB := Aside0.mk (below_drew1 HB.out)
   refine start_ (n := 6) (S := fun w' => w'.cell? ⟨gb603, 0, none⟩ = some (.bool a0_0) ∧ w'.cell? ⟨gb603, 1, none⟩ = some (.string a0_1) ∧ w'.cell? ⟨gb603, 2, none⟩ = some (.string a0_2) ∧ w'.cell? ⟨gb604, 0, none⟩ = some (.bool a1_0) ∧ w'.cell? ⟨gb604, 1, none⟩ = some (.string a1_1) ∧ w'.cell? ⟨gb604, 2, none⟩ = some (.string a1_2)) (ds := [4, 5]) #[false, false, false, false, false, false] (by kernel_rfl) rfl rfl ⟨(blk_cell BK603.out 0).trans rfl, (blk_cell BK603.out 1).trans rfl, (blk_cell BK603.out 2).trans rfl, (blk_cell BK604.out 0).trans rfl, (blk_cell BK604.out 1).trans rfl, (blk_cell BK604.out 2).trans rfl⟩ (fun hHeld => ?_)
   generalize w15.drew = w16 at BK603 BK604 HB hHeld ⊢
   refine take_ (i := 0) (N := some 8) (v := ?_) (a' := ?_) #[true, false, false, false, false, false] rfl rfl (by kernel_rfl) (fun _ _ _ h => h) (Or.inl ⟨by rfl, ?_⟩) hHeld ?_ ?_
   rotate_left
   ·rintro w' ⟨s0, s1, s2, s3, s4, s5⟩
    go_simp
    with_reducible rfl
   rotate_left
   ·simp only [Act.put, List.setIfInBounds_toArray, List.set_cons_zero, List.set_cons_succ, i64_w, i32_w]
    rfl
   refine take_ (i := 2) (N := some 10) (v := ?_) (a' := ?_) #[true, false, true, false, false, false] rfl rfl (by kernel_rfl) (fun _ _ _ h => h) (Or.inl ⟨by rfl, ?_⟩) hHeld ?_ ?_
   rotate_left
   ·rintro w' ⟨s0, s1, s2, s3, s4, s5⟩
    go_simp
    with_reducible rfl
   rotate_left
   ·simp only [Act.put, List.setIfInBounds_toArray, List.set_cons_zero, List.set_cons_succ, i64_w, i32_w]
    rfl
   refine one_ (i := 1) (N := some 9) #[true, true, true, false, false, false] rfl rfl (by kernel_rfl) (by decide) (fun K hK => ?_)
   refine goes_ Tryd.func34 (by kernel_rfl) rfl #[.agg #[.bool a0_0, .string a0_1, .string a0_2]] (by rfl) rfl rfl (by (try simp only [List.map_toArray, List.map_cons, List.map_nil]); first | done | rfl | (simp only [List.length_drop, List.length_take]; rfl)) ?_
   with_reducible refine (rational_clean.calls k a0_0 a0_1 a0_2 true t606 t607 _ A3.out).mono ?_
   rintro e w17 ⟨rfl, hb⟩
   refine ⟨_, rfl, ?_⟩
   replace BK603 := Aside0.mk (bk0 BK603.out hb)
   replace BK604 := Aside0.mk (bk0 BK604.out hb)
   replace HB := Aside0.mk (bs HB.out hb)
   (try clear hb)
   (try clear hb2)
   (try clear hk)
   (try clear hi)
   refine hK.out _ _ ⟨(blk_cell BK603.out 0).trans rfl, (blk_cell BK603.out 1).trans rfl, (blk_cell BK603.out 2).trans rfl, (blk_cell BK604.out 0).trans rfl, (blk_cell BK604.out 1).trans rfl, (blk_cell BK604.out 2).trans rfl⟩ (fun hHeld => ?_)
   clear hK K
   refine norm_ (a' := ?_) ?_ ?_
   rotate_left
   ·show Act.put _ (some 9) _ = _
    simp only [Act.put, List.setIfInBounds_toArray, List.set_cons_zero, List.set_cons_succ, i64_w, i32_w]
    rfl
   refine one_ (i := 3) (N := some 11) #[true, true, true, true, false, false] rfl rfl (by kernel_rfl) (by decide) (fun K hK => ?_)
   refine goes_ Tryd.func34 (by kernel_rfl) rfl #[.agg #[.bool a1_0, .string a1_1, .string a1_2]] (by rfl) rfl rfl (by (try simp only [List.map_toArray, List.map_cons, List.map_nil]); first | done | rfl | (simp only [List.length_drop, List.length_take]; rfl)) ?_
   with_reducible refine (rational_clean.calls k a1_0 a1_1 a1_2 t608 t609 t610 _ A4.out).mono ?_
   rintro e w18 ⟨rfl, hb⟩
   refine ⟨_, rfl, ?_⟩
   replace BK603 := Aside0.mk (bk0 BK603.out hb)
   replace BK604 := Aside0.mk (bk0 BK604.out hb)
   replace HB := Aside0.mk (bs HB.out hb)
   (try clear hb)
   (try clear hb2)
   (try clear hk)
   (try clear hi)
   refine hK.out _ _ ⟨(blk_cell BK603.out 0).trans rfl, (blk_cell BK603.out 1).trans rfl, (blk_cell BK603.out 2).trans rfl, (blk_cell BK604.out 0).trans rfl, (blk_cell BK604.out 1).trans rfl, (blk_cell BK604.out 2).trans rfl⟩ (fun hHeld => ?_)
   clear hK K
   refine norm_ (a' := ?_) ?_ ?_
   rotate_left
   ·show Act.put _ (some 11) _ = _
    simp only [Act.put, List.setIfInBounds_toArray, List.set_cons_zero, List.set_cons_succ, i64_w, i32_w]
    rfl
   refine last_ (i := 4) (N := none) #[true, true, true, true, true, false] rfl rfl (by kernel_rfl) (by decide) (fun K hK => ?_)
   have hs19 : w18.cell? ⟨gb603, 0, none⟩ = some (.bool a0_0) := (blk_cell BK603.out 0).trans rfl
   have hfs19 := blk_frozen BK603.out 0
   have hns19_1 := NB604_603.out
   have hms19_1 := NB603_604.out
   have hs20 : w18.cell? ⟨gb603, 1, none⟩ = some (.string a0_1) := (blk_cell BK603.out 1).trans rfl
   have hfs20 := blk_frozen BK603.out 1
   have hns20_1 := NB604_603.out
   have hms20_1 := NB603_604.out
   have hs21 : w18.cell? ⟨gb603, 2, none⟩ = some (.string a0_2) := (blk_cell BK603.out 2).trans rfl
   have hfs21 := blk_frozen BK603.out 2
   have hns21_1 := NB604_603.out
   have hms21_1 := NB603_604.out
   refine skip_ (w1 := ?_) (by rfl) rfl ?_ ?_
   rotate_left
   ·go_simp
    rfl
   refine hK.out _ _ ?_
   clear hK K
   refine last_ (i := 5) (N := none) #[true, true, true, true, true, true] rfl rfl (by kernel_rfl) (by decide) (fun K hK => ?_)
   have hs22 : w18.cell? ⟨gb604, 0, none⟩ = some (.bool a1_0) := (blk_cell BK604.out 0).trans rfl
   have hfs22 := blk_frozen BK604.out 0
   have hns22_0 := NB603_604.out
   have hms22_0 := NB604_603.out
   have hs23 : w18.cell? ⟨gb604, 1, none⟩ = some (.string a1_1) := (blk_cell BK604.out 1).trans rfl
   have hfs23 := blk_frozen BK604.out 1
   have hns23_0 := NB603_604.out
   have hms23_0 := NB604_603.out
   have hs24 : w18.cell? ⟨gb604, 2, none⟩ = some (.string a1_2) := (blk_cell BK604.out 2).trans rfl
   have hfs24 := blk_frozen BK604.out 2
   have hns24_0 := NB603_604.out
   have hms24_0 := NB604_603.out
   refine skip_ (w1 := ?_) (by rfl) rfl ?_ ?_
   rotate_left
   ·go_simp
    rfl
   refine hK.out _ _ ?_
   clear hK K
   refine done_ (by kernel_rfl) ?_
   try go_wp2
   have n0_ : Aside0 (((((((w18.setCell ⟨gb603, 0, none⟩ (.bool true)).setCell ⟨gb603, 1, none⟩ (.string t606)).setCell ⟨gb603, 2, none⟩ (.string t607)).setCell ⟨gb604, 0, none⟩ (.bool t608)).setCell ⟨gb604, 1, none⟩ (.string t609)).setCell ⟨gb604, 2, none⟩ (.string t610)).heap[gb603]? = some (.cells #[.bool true, .string t606, .string t607] 23 (0, 0))) := ⟨bq BK603.out⟩
   have n1_ : Aside0 (((((((w18.setCell ⟨gb603, 0, none⟩ (.bool true)).setCell ⟨gb603, 1, none⟩ (.string t606)).setCell ⟨gb603, 2, none⟩ (.string t607)).setCell ⟨gb604, 0, none⟩ (.bool t608)).setCell ⟨gb604, 1, none⟩ (.string t609)).setCell ⟨gb604, 2, none⟩ (.string t610)).heap[gb604]? = some (.cells #[.bool t608, .string t609, .string t610] 23 (0, 0))) := ⟨bq BK604.out⟩
   have n2_ : Aside0 (Below w.heap.size w ((((((w18.setCell ⟨gb603, 0, none⟩ (.bool true)).setCell ⟨gb603, 1, none⟩ (.string t606)).setCell ⟨gb603, 2, none⟩ (.string t607)).setCell ⟨gb604, 0, none⟩ (.bool t608)).setCell ⟨gb604, 1, none⟩ (.string t609)).setCell ⟨gb604, 2, none⟩ (.string t610))) := ⟨bz HB.out⟩
   (try clear BK603)
   (try clear BK604)
   (try clear HB)
   generalize ((((((w18.setCell ⟨gb603, 0, none⟩ (.bool true)).setCell ⟨gb603, 1, none⟩ (.string t606)).setCell ⟨gb603, 2, none⟩ (.string t607)).setCell ⟨gb604, 0, none⟩ (.bool t608)).setCell ⟨gb604, 1, none⟩ (.string t609)).setCell ⟨gb604, 2, none⟩ (.string t610)) = w25 at n0_ n1_ n2_ ⊢
   have BK603 := n0_
   have BK604 := n1_
   have HB := n2_
   clear n0_ n1_ n2_
   replace BK603 := Aside0.mk (blk_drew BK603.out)
   replace BK604 := Aside0.mk (blk_drew BK604.out)
   replace HB := Aside0.mk (below_drew1 HB.out)
   refine start_ (n := 6) (S := fun w' => w'.cell? ⟨gb603, 0, none⟩ = some (.bool true) ∧ w'.cell? ⟨gb603, 1, none⟩ = some (.string t606) ∧ w'.cell? ⟨gb603, 2, none⟩ = some (.string t607) ∧ w'.cell? ⟨gb604, 0, none⟩ = some (.bool t608) ∧ w'.cell? ⟨gb604, 1, none⟩ = some (.string t609) ∧ w'.cell? ⟨gb604, 2, none⟩ = some (.string t610)) (ds := []) #[false, false, false, false, false, false] (by kernel_rfl) rfl rfl ⟨(blk_cell BK603.out 0).trans rfl, (blk_cell BK603.out 1).trans rfl, (blk_cell BK603.out 2).trans rfl, (blk_cell BK604.out 0).trans rfl, (blk_cell BK604.out 1).trans rfl, (blk_cell BK604.out 2).trans rfl⟩ (fun hHeld => ?_)
   generalize w25.drew = w26 at BK603 BK604 HB hHeld ⊢
   refine take_ (i := 0) (N := some 12) (v := ?_) (a' := ?_) #[true, false, false, false, false, false] rfl rfl (by kernel_rfl) (fun _ _ _ h => h) (Or.inl ⟨by rfl, ?_⟩) hHeld ?_ ?_
   rotate_left
   ·rintro w' ⟨s0, s1, s2, s3, s4, s5⟩
    go_simp
    with_reducible rfl
   rotate_left
   ·simp only [Act.put, List.setIfInBounds_toArray, List.set_cons_zero, List.set_cons_succ, i64_w, i32_w]
    rfl
   refine take_ (i := 2) (N := some 14) (v := ?_) (a' := ?_) #[true, false, true, false, false, false] rfl rfl (by kernel_rfl) (fun _ _ _ h => h) (Or.inl ⟨by rfl, ?_⟩) hHeld ?_ ?_
   rotate_left
   ·rintro w' ⟨s0, s1, s2, s3, s4, s5⟩
    go_simp
    with_reducible rfl
   rotate_left
   ·simp only [Act.put, List.setIfInBounds_toArray, List.set_cons_zero, List.set_cons_succ, i64_w, i32_w]
    rfl
   refine one_ (i := 1) (N := some 13) #[true, true, true, false, false, false] rfl rfl (by kernel_rfl) (by decide) (fun K hK => ?_)
   refine goes_ Tryd.func38 (by kernel_rfl) rfl #[.agg #[.bool true, .string t606, .string t607]] (by rfl) rfl rfl (by (try simp only [List.map_toArray, List.map_cons, List.map_nil]); first | done | rfl | (simp only [List.length_drop, List.length_take]; rfl)) ?_
   with_reducible refine (rational_signOf.calls true t606 t607 t611 _ A5.out).mono ?_
   rintro e w27 ⟨rfl, hb⟩
   refine ⟨_, rfl, ?_⟩
   replace BK603 := Aside0.mk (bk0 BK603.out hb)
   replace BK604 := Aside0.mk (bk0 BK604.out hb)
   replace HB := Aside0.mk (bs HB.out hb)
   (try clear hb)
   (try clear hb2)
   (try clear hk)
   (try clear hi)
   refine hK.out _ _ ⟨(blk_cell BK603.out 0).trans rfl, (blk_cell BK603.out 1).trans rfl, (blk_cell BK603.out 2).trans rfl, (blk_cell BK604.out 0).trans rfl, (blk_cell BK604.out 1).trans rfl, (blk_cell BK604.out 2).trans rfl⟩ (fun hHeld => ?_)
   clear hK K
   refine norm_ (a' := ?_) ?_ ?_
   rotate_left
   ·show Act.put _ (some 13) _ = _
    simp only [Act.put, List.setIfInBounds_toArray, List.set_cons_zero, List.set_cons_succ, i64_w, i32_w]
    rfl
   refine one_ (i := 3) (N := some 15) #[true, true, true, true, false, false] rfl rfl (by kernel_rfl) (by decide) (fun K hK => ?_)
   refine goes_ Tryd.func38 (by kernel_rfl) rfl #[.agg #[.bool t608, .string t609, .string t610]] (by rfl) rfl rfl (by (try simp only [List.map_toArray, List.map_cons, List.map_nil]); first | done | rfl | (simp only [List.length_drop, List.length_take]; rfl)) ?_
   with_reducible refine (rational_signOf.calls t608 t609 t610 t612 _ A6.out).mono ?_
   rintro e w28 ⟨rfl, hb⟩
   refine ⟨_, rfl, ?_⟩
   replace BK603 := Aside0.mk (bk0 BK603.out hb)
   replace BK604 := Aside0.mk (bk0 BK604.out hb)
   replace HB := Aside0.mk (bs HB.out hb)
   (try clear hb)
   (try clear hb2)
   (try clear hk)
   (try clear hi)
   refine hK.out _ _ ⟨(blk_cell BK603.out 0).trans rfl, (blk_cell BK603.out 1).trans rfl, (blk_cell BK603.out 2).trans rfl, (blk_cell BK604.out 0).trans rfl, (blk_cell BK604.out 1).trans rfl, (blk_cell BK604.out 2).trans rfl⟩ (fun hHeld => ?_)
   clear hK K
   refine norm_ (a' := ?_) ?_ ?_
   rotate_left
   ·show Act.put _ (some 15) _ = _
    simp only [Act.put, List.setIfInBounds_toArray, List.set_cons_zero, List.set_cons_succ, i64_w, i32_w]
    rfl
   refine pure_ (i := 4) (N := some 5) (v := ?_) (a' := ?_) #[true, true, true, true, true, false] rfl rfl (by kernel_rfl) (fun _ _ _ h => h) (Or.inl ⟨by rfl, ?_⟩) ?_ ?_
   rotate_left
   ·intro w'
    go_simp
    with_reducible rfl
   rotate_left
   ·simp only [Act.put, List.setIfInBounds_toArray, List.set_cons_zero, List.set_cons_succ, i64_w, i32_w]
    rfl
   refine pure_ (i := 5) (N := some 6) (v := ?_) (a' := ?_) #[true, true, true, true, true, true] rfl rfl (by kernel_rfl) (fun _ _ _ h => h) (Or.inl ⟨by rfl, ?_⟩) ?_ ?_
   rotate_left
   ·intro w'
    go_simp
    with_reducible rfl
   rotate_left
   ·simp only [Act.put, List.setIfInBounds_toArray, List.set_cons_zero, List.set_cons_succ, i64_w, i32_w]
    rfl
   refine done_ (by kernel_rfl) ?_
   try go_wp2
   replace BK603 := Aside0.mk (blk_drew BK603.out)
   replace BK604 := Aside0.mk (blk_drew BK604.out)
   replace HB := Aside0.mk (below_drew1 HB.out)
   refine start_ (n := 12) (S := fun w' => w'.cell? ⟨gb603, 0, none⟩ = some (.bool true) ∧ w'.cell? ⟨gb603, 1, none⟩ = some (.string t606) ∧ w'.cell? ⟨gb603, 2, none⟩ = some (.string t607) ∧ w'.cell? ⟨gb604, 0, none⟩ = some (.bool t608) ∧ w'.cell? ⟨gb604, 1, none⟩ = some (.string t609) ∧ w'.cell? ⟨gb604, 2, none⟩ = some (.string t610)) (ds := []) #[false, false, false, false, false, false, false, false, false, false, false, false] (by kernel_rfl) rfl rfl ⟨(blk_cell BK603.out 0).trans rfl, (blk_cell BK603.out 1).trans rfl, (blk_cell BK603.out 2).trans rfl, (blk_cell BK604.out 0).trans rfl, (blk_cell BK604.out 1).trans rfl, (blk_cell BK604.out 2).trans rfl⟩ (fun hHeld => ?_); refine with_tabW rational_Compare.tab7 rational_Compare.bits7 (fun HT_ HW_ => ?_)
   generalize w28.drew = w29 at BK603 BK604 HB hHeld ⊢
   refine pure_ (i := 0) (N := some 22) (v := ?_) (a' := ?_) #[true, false, false, false, false, false, false, false, false, false, false, false] rfl rfl (any_of HT_.out (by kernel_rfl)) (fun _ _ _ h => h) (Or.inl ⟨by rfl, ?_⟩) ?_ ?_
   rotate_left
   ·intro w'
    go_simp
    with_reducible rfl
   rotate_left
   ·simp only [Act.put, List.setIfInBounds_toArray, List.set_cons_zero, List.set_cons_succ, i64_w, i32_w]
    rfl
   refine pure_ (i := 5) (N := some 27) (v := ?_) (a' := ?_) #[true, false, false, false, false, true, false, false, false, false, false, false] rfl rfl (any_of HT_.out (by kernel_rfl)) (fun _ _ _ h => h) (Or.inl ⟨by rfl, ?_⟩) ?_ ?_
   rotate_left
   ·intro w'
    go_simp
    with_reducible rfl
   rotate_left
   ·simp only [Act.put, List.setIfInBounds_toArray, List.set_cons_zero, List.set_cons_succ, i64_w, i32_w]
    rfl
   refine take_ (i := 1) (N := some 23) (v := ?_) (a' := ?_) #[true, true, false, false, false, true, false, false, false, false, false, false] rfl rfl (take_ofW HT_.out HW_.out (by kernel_rfl)) (fun _ _ _ h => h) (Or.inl ⟨by rfl, ?_⟩) hHeld ?_ ?_
   rotate_left
   ·rintro w' ⟨s0, s1, s2, s3, s4, s5⟩
    go_simp
    with_reducible rfl
   rotate_left
   ·simp only [Act.put, List.setIfInBounds_toArray, List.set_cons_zero, List.set_cons_succ, i64_w, i32_w]
    rfl
   refine take_ (i := 2) (N := some 24) (v := ?_) (a' := ?_) #[true, true, true, false, false, true, false, false, false, false, false, false] rfl rfl (take_ofW HT_.out HW_.out (by kernel_rfl)) (fun _ _ _ h => h) (Or.inl ⟨by rfl, ?_⟩) hHeld ?_ ?_
   rotate_left
   ·rintro w' ⟨s0, s1, s2, s3, s4, s5⟩
    go_simp
    with_reducible rfl
   rotate_left
   ·simp only [Act.put, List.setIfInBounds_toArray, List.set_cons_zero, List.set_cons_succ, i64_w, i32_w]
    rfl
   refine take_ (i := 6) (N := some 28) (v := ?_) (a' := ?_) #[true, true, true, false, false, true, true, false, false, false, false, false] rfl rfl (take_ofW HT_.out HW_.out (by kernel_rfl)) (fun _ _ _ h => h) (Or.inl ⟨by rfl, ?_⟩) hHeld ?_ ?_
   rotate_left
   ·rintro w' ⟨s0, s1, s2, s3, s4, s5⟩
    go_simp
    with_reducible rfl
   rotate_left
   ·simp only [Act.put, List.setIfInBounds_toArray, List.set_cons_zero, List.set_cons_succ, i64_w, i32_w]
    rfl
   refine take_ (i := 7) (N := some 29) (v := ?_) (a' := ?_) #[true, true, true, false, false, true, true, true, false, false, false, false] rfl rfl (take_ofW HT_.out HW_.out (by kernel_rfl)) (fun _ _ _ h => h) (Or.inl ⟨by rfl, ?_⟩) hHeld ?_ ?_
   rotate_left
   ·rintro w' ⟨s0, s1, s2, s3, s4, s5⟩
    go_simp
    with_reducible rfl
   rotate_left
   ·simp only [Act.put, List.setIfInBounds_toArray, List.set_cons_zero, List.set_cons_succ, i64_w, i32_w]
    rfl
   refine one_ (i := 3) (N := some 25) #[true, true, true, true, false, true, true, true, false, false, false, false] rfl rfl (one_of HT_.out (by kernel_rfl)) (by decide) (fun K hK => ?_)
   refine goes_ Tryd.func41 (by kernel_rfl) rfl #[.agg #[.bool t608, .string t609, .string t610]] (by rfl) rfl rfl (by (try simp only [List.map_toArray, List.map_cons, List.map_nil]); first | done | rfl | (simp only [List.length_drop, List.length_take]; rfl)) ?_
   with_reducible refine (rational_den.calls t608 t609 t610 t613 _ A8.out).mono ?_
   rintro e w30 ⟨rfl, hb⟩
   refine ⟨_, rfl, ?_⟩
   replace BK603 := Aside0.mk (bk0 BK603.out hb)
   replace BK604 := Aside0.mk (bk0 BK604.out hb)
   replace HB := Aside0.mk (bs HB.out hb)
   (try clear hb)
   (try clear hb2)
   (try clear hk)
   (try clear hi)
   refine hK.out _ _ ⟨(blk_cell BK603.out 0).trans rfl, (blk_cell BK603.out 1).trans rfl, (blk_cell BK603.out 2).trans rfl, (blk_cell BK604.out 0).trans rfl, (blk_cell BK604.out 1).trans rfl, (blk_cell BK604.out 2).trans rfl⟩ (fun hHeld => ?_)
   clear hK K
   refine norm_ (a' := ?_) ?_ ?_
   rotate_left
   ·show Act.put _ (some 25) _ = _
    simp only [Act.put, List.setIfInBounds_toArray, List.set_cons_zero, List.set_cons_succ, i64_w, i32_w]
    rfl
   refine one_ (i := 4) (N := some 26) #[true, true, true, true, true, true, true, true, false, false, false, false] rfl rfl (one_of HT_.out (by kernel_rfl)) (by decide) (fun K hK => ?_)
   refine goes_ Tryd.func40 (by kernel_rfl) rfl #[.string t606, .string t613] (by rfl) rfl rfl (by (try simp only [List.map_toArray, List.map_cons, List.map_nil]); first | done | rfl | (simp only [List.length_drop, List.length_take]; rfl)) ?_
   with_reducible refine (natural_Multiply.calls k t606 t613 t614 _ A9.out).mono ?_
   rintro e w31 ⟨rfl, hb⟩
   refine ⟨_, rfl, ?_⟩
   replace BK603 := Aside0.mk (bk0 BK603.out hb)
   replace BK604 := Aside0.mk (bk0 BK604.out hb)
   replace HB := Aside0.mk (bs HB.out hb)
   (try clear hb)
   (try clear hb2)
   (try clear hk)
   (try clear hi)
   refine hK.out _ _ ⟨(blk_cell BK603.out 0).trans rfl, (blk_cell BK603.out 1).trans rfl, (blk_cell BK603.out 2).trans rfl, (blk_cell BK604.out 0).trans rfl, (blk_cell BK604.out 1).trans rfl, (blk_cell BK604.out 2).trans rfl⟩ (fun hHeld => ?_)
   clear hK K
   refine norm_ (a' := ?_) ?_ ?_
   rotate_left
   ·show Act.put _ (some 26) _ = _
    simp only [Act.put, List.setIfInBounds_toArray, List.set_cons_zero, List.set_cons_succ, i64_w, i32_w]
    rfl
   refine one_ (i := 8) (N := some 30) #[true, true, true, true, true, true, true, true, true, false, false, false] rfl rfl (one_of HT_.out (by kernel_rfl)) (by decide) (fun K hK => ?_)
   refine goes_ Tryd.func41 (by kernel_rfl) rfl #[.agg #[.bool true, .string t606, .string t607]] (by rfl) rfl rfl (by (try simp only [List.map_toArray, List.map_cons, List.map_nil]); first | done | rfl | (simp only [List.length_drop, List.length_take]; rfl)) ?_
   with_reducible refine (rational_den.calls true t606 t607 t615 _ A10.out).mono ?_
   rintro e w32 ⟨rfl, hb⟩
   refine ⟨_, rfl, ?_⟩
   replace BK603 := Aside0.mk (bk0 BK603.out hb)
   replace BK604 := Aside0.mk (bk0 BK604.out hb)
   replace HB := Aside0.mk (bs HB.out hb)
   (try clear hb)
   (try clear hb2)
   (try clear hk)
   (try clear hi)
   refine hK.out _ _ ⟨(blk_cell BK603.out 0).trans rfl, (blk_cell BK603.out 1).trans rfl, (blk_cell BK603.out 2).trans rfl, (blk_cell BK604.out 0).trans rfl, (blk_cell BK604.out 1).trans rfl, (blk_cell BK604.out 2).trans rfl⟩ (fun hHeld => ?_)
   clear hK K
   refine norm_ (a' := ?_) ?_ ?_
   rotate_left
   ·show Act.put _ (some 30) _ = _
    simp only [Act.put, List.setIfInBounds_toArray, List.set_cons_zero, List.set_cons_succ, i64_w, i32_w]
    rfl
   refine one_ (i := 9) (N := some 31) #[true, true, true, true, true, true, true, true, true, true, false, false] rfl rfl (one_of HT_.out (by kernel_rfl)) (by decide) (fun K hK => ?_)
   refine goes_ Tryd.func40 (by kernel_rfl) rfl #[.string t609, .string t615] (by rfl) rfl rfl (by (try simp only [List.map_toArray, List.map_cons, List.map_nil]); first | done | rfl | (simp only [List.length_drop, List.length_take]; rfl)) ?_
   with_reducible refine (natural_Multiply.calls k t609 t615 t616 _ A11.out).mono ?_
   rintro e w33 ⟨rfl, hb⟩
   refine ⟨_, rfl, ?_⟩
   replace BK603 := Aside0.mk (bk0 BK603.out hb)
   replace BK604 := Aside0.mk (bk0 BK604.out hb)
   replace HB := Aside0.mk (bs HB.out hb)
   (try clear hb)
   (try clear hb2)
   (try clear hk)
   (try clear hi)
   refine hK.out _ _ ⟨(blk_cell BK603.out 0).trans rfl, (blk_cell BK603.out 1).trans rfl, (blk_cell BK603.out 2).trans rfl, (blk_cell BK604.out 0).trans rfl, (blk_cell BK604.out 1).trans rfl, (blk_cell BK604.out 2).trans rfl⟩ (fun hHeld => ?_)
   clear hK K
   refine norm_ (a' := ?_) ?_ ?_
   rotate_left
   ·show Act.put _ (some 31) _ = _
    simp only [Act.put, List.setIfInBounds_toArray, List.set_cons_zero, List.set_cons_succ, i64_w, i32_w]
    rfl
   refine one_ (i := 10) (N := some 32) #[true, true, true, true, true, true, true, true, true, true, true, false] rfl rfl (one_of HT_.out (by kernel_rfl)) (by decide) (fun K hK => ?_)
   refine goes_ Tryd.func39 (by kernel_rfl) rfl #[.string t614, .string t616] (by rfl) rfl rfl (by (try simp only [List.map_toArray, List.map_cons, List.map_nil]); first | done | rfl | (simp only [List.length_drop, List.length_take]; rfl)) ?_
   with_reducible refine (natural_Compare.calls k t614 t616 t617 _ A12.out).mono ?_
   rintro e w34 ⟨rfl, hb⟩
   refine ⟨_, rfl, ?_⟩
   replace BK603 := Aside0.mk (bk0 BK603.out hb)
   replace BK604 := Aside0.mk (bk0 BK604.out hb)
   replace HB := Aside0.mk (bs HB.out hb)
   (try clear hb)
   (try clear hb2)
   (try clear hk)
   (try clear hi)
   refine hK.out _ _ ⟨(blk_cell BK603.out 0).trans rfl, (blk_cell BK603.out 1).trans rfl, (blk_cell BK603.out 2).trans rfl, (blk_cell BK604.out 0).trans rfl, (blk_cell BK604.out 1).trans rfl, (blk_cell BK604.out 2).trans rfl⟩ (fun hHeld => ?_)
   clear hK K
   refine norm_ (a' := ?_) ?_ ?_
   rotate_left
   ·show Act.put _ (some 32) _ = _
    simp only [Act.put, List.setIfInBounds_toArray, List.set_cons_zero, List.set_cons_succ, i64_w, i32_w]
    rfl
   refine pure_ (i := 11) (N := some 7) (v := ?_) (a' := ?_) #[true, true, true, true, true, true, true, true, true, true, true, true] rfl rfl (any_of HT_.out (by kernel_rfl)) (fun _ _ _ h => h) (Or.inl ⟨by rfl, ?_⟩) ?_ ?_
   rotate_left
   ·intro w'
    go_simp
    with_reducible rfl
   rotate_left
   ·simp only [Act.put, List.setIfInBounds_toArray, List.set_cons_zero, List.set_cons_succ, i64_w, i32_w]
    rfl
   refine done_ (done_of HT_.out (by kernel_rfl)) ?_
   have hnb35 := NB603_604.out
   have hnc35 := NB604_603.out
   obtain ⟨hcz36_0, hcz36_1, hcz36_2, hfz36_0, hfz36_1, hfz36_2⟩ := c3 BK603.out
   try go_wp2
   go_ret
   exact ⟨fe, bz HB.out⟩
  ·replace c13 := Bool.eq_false_iff.mpr c13
   subst c13
   have H1 : (some t617) = some r := by rw [if_neg (show ¬ (false = true) by decide)] at H; exact H
   clear H
   have H := H1
   clear H1
   obtain rfl := Option.some.inj H
   go_enter Tryd.func17, Tryd.ntmps17
   try go_wp2_with (first | ((with_reducible refine gd 2 rfl ?_); refine bx 2 (#[.bool a0_0, .string a0_1, .string a0_2]) 23 ?_; intro gb603 hg w37 hbox hb; have BK603 := Aside0.mk (hbox); have GW603 := sg hg HB.out; have GE603 := sg hg HB.out; replace HB := Aside0.mk (bs HB.out hb); clear hb hbox hg) | ((with_reducible refine gd 3 rfl ?_); refine bx 3 (#[.bool a1_0, .string a1_1, .string a1_2]) 23 ?_; intro gb604 hg w38 hbox hb; have BK604 := Aside0.mk (hbox); have GW604 := sg hg HB.out; have GE604 := sg hg HB.out; replace HB := Aside0.mk (bs HB.out hb); have NB603_604 := nl hg BK603.out; have NB604_603 := nr hg BK603.out; replace BK603 := Aside0.mk (bk0 BK603.out hb); clear hb hbox hg))
   replace BK603 := Aside0.mk (blk_drew BK603.out)
   replace BK604 := Aside0.mk (blk_drew BK604.out)
   replace HB := Aside0.mk (below_drew1 HB.out)
   refine start_ (n := 6) (S := fun w' => w'.cell? ⟨gb603, 0, none⟩ = some (.bool a0_0) ∧ w'.cell? ⟨gb603, 1, none⟩ = some (.string a0_1) ∧ w'.cell? ⟨gb603, 2, none⟩ = some (.string a0_2) ∧ w'.cell? ⟨gb604, 0, none⟩ = some (.bool a1_0) ∧ w'.cell? ⟨gb604, 1, none⟩ = some (.string a1_1) ∧ w'.cell? ⟨gb604, 2, none⟩ = some (.string a1_2)) (ds := [4, 5]) #[false, false, false, false, false, false] (by kernel_rfl) rfl rfl ⟨(blk_cell BK603.out 0).trans rfl, (blk_cell BK603.out 1).trans rfl, (blk_cell BK603.out 2).trans rfl, (blk_cell BK604.out 0).trans rfl, (blk_cell BK604.out 1).trans rfl, (blk_cell BK604.out 2).trans rfl⟩ (fun hHeld => ?_)
   generalize w38.drew = w39 at BK603 BK604 HB hHeld ⊢
   refine take_ (i := 0) (N := some 8) (v := ?_) (a' := ?_) #[true, false, false, false, false, false] rfl rfl (by kernel_rfl) (fun _ _ _ h => h) (Or.inl ⟨by rfl, ?_⟩) hHeld ?_ ?_
   rotate_left
   ·rintro w' ⟨s0, s1, s2, s3, s4, s5⟩
    go_simp
    with_reducible rfl
   rotate_left
   ·simp only [Act.put, List.setIfInBounds_toArray, List.set_cons_zero, List.set_cons_succ, i64_w, i32_w]
    rfl
   refine take_ (i := 2) (N := some 10) (v := ?_) (a' := ?_) #[true, false, true, false, false, false] rfl rfl (by kernel_rfl) (fun _ _ _ h => h) (Or.inl ⟨by rfl, ?_⟩) hHeld ?_ ?_
   rotate_left
   ·rintro w' ⟨s0, s1, s2, s3, s4, s5⟩
    go_simp
    with_reducible rfl
   rotate_left
   ·simp only [Act.put, List.setIfInBounds_toArray, List.set_cons_zero, List.set_cons_succ, i64_w, i32_w]
    rfl
   refine one_ (i := 1) (N := some 9) #[true, true, true, false, false, false] rfl rfl (by kernel_rfl) (by decide) (fun K hK => ?_)
   refine goes_ Tryd.func34 (by kernel_rfl) rfl #[.agg #[.bool a0_0, .string a0_1, .string a0_2]] (by rfl) rfl rfl (by (try simp only [List.map_toArray, List.map_cons, List.map_nil]); first | done | rfl | (simp only [List.length_drop, List.length_take]; rfl)) ?_
   with_reducible refine (rational_clean.calls k a0_0 a0_1 a0_2 false t606 t607 _ A3.out).mono ?_
   rintro e w40 ⟨rfl, hb⟩
   refine ⟨_, rfl, ?_⟩
   replace BK603 := Aside0.mk (bk0 BK603.out hb)
   replace BK604 := Aside0.mk (bk0 BK604.out hb)
   replace HB := Aside0.mk (bs HB.out hb)
   (try clear hb)
   (try clear hb2)
   (try clear hk)
   (try clear hi)
   refine hK.out _ _ ⟨(blk_cell BK603.out 0).trans rfl, (blk_cell BK603.out 1).trans rfl, (blk_cell BK603.out 2).trans rfl, (blk_cell BK604.out 0).trans rfl, (blk_cell BK604.out 1).trans rfl, (blk_cell BK604.out 2).trans rfl⟩ (fun hHeld => ?_)
   clear hK K
   refine norm_ (a' := ?_) ?_ ?_
   rotate_left
   ·show Act.put _ (some 9) _ = _
    simp only [Act.put, List.setIfInBounds_toArray, List.set_cons_zero, List.set_cons_succ, i64_w, i32_w]
    rfl
   refine one_ (i := 3) (N := some 11) #[true, true, true, true, false, false] rfl rfl (by kernel_rfl) (by decide) (fun K hK => ?_)
   refine goes_ Tryd.func34 (by kernel_rfl) rfl #[.agg #[.bool a1_0, .string a1_1, .string a1_2]] (by rfl) rfl rfl (by (try simp only [List.map_toArray, List.map_cons, List.map_nil]); first | done | rfl | (simp only [List.length_drop, List.length_take]; rfl)) ?_
   with_reducible refine (rational_clean.calls k a1_0 a1_1 a1_2 t608 t609 t610 _ A4.out).mono ?_
   rintro e w41 ⟨rfl, hb⟩
   refine ⟨_, rfl, ?_⟩
   replace BK603 := Aside0.mk (bk0 BK603.out hb)
   replace BK604 := Aside0.mk (bk0 BK604.out hb)
   replace HB := Aside0.mk (bs HB.out hb)
   (try clear hb)
   (try clear hb2)
   (try clear hk)
   (try clear hi)
   refine hK.out _ _ ⟨(blk_cell BK603.out 0).trans rfl, (blk_cell BK603.out 1).trans rfl, (blk_cell BK603.out 2).trans rfl, (blk_cell BK604.out 0).trans rfl, (blk_cell BK604.out 1).trans rfl, (blk_cell BK604.out 2).trans rfl⟩ (fun hHeld => ?_)
   clear hK K
   refine norm_ (a' := ?_) ?_ ?_
   rotate_left
   ·show Act.put _ (some 11) _ = _
    simp only [Act.put, List.setIfInBounds_toArray, List.set_cons_zero, List.set_cons_succ, i64_w, i32_w]
    rfl
   refine last_ (i := 4) (N := none) #[true, true, true, true, true, false] rfl rfl (by kernel_rfl) (by decide) (fun K hK => ?_)
   have hs42 : w41.cell? ⟨gb603, 0, none⟩ = some (.bool a0_0) := (blk_cell BK603.out 0).trans rfl
   have hfs42 := blk_frozen BK603.out 0
   have hns42_1 := NB604_603.out
   have hms42_1 := NB603_604.out
   have hs43 : w41.cell? ⟨gb603, 1, none⟩ = some (.string a0_1) := (blk_cell BK603.out 1).trans rfl
   have hfs43 := blk_frozen BK603.out 1
   have hns43_1 := NB604_603.out
   have hms43_1 := NB603_604.out
   have hs44 : w41.cell? ⟨gb603, 2, none⟩ = some (.string a0_2) := (blk_cell BK603.out 2).trans rfl
   have hfs44 := blk_frozen BK603.out 2
   have hns44_1 := NB604_603.out
   have hms44_1 := NB603_604.out
   refine skip_ (w1 := ?_) (by rfl) rfl ?_ ?_
   rotate_left
   ·go_simp
    rfl
   refine hK.out _ _ ?_
   clear hK K
   refine last_ (i := 5) (N := none) #[true, true, true, true, true, true] rfl rfl (by kernel_rfl) (by decide) (fun K hK => ?_)
   have hs45 : w41.cell? ⟨gb604, 0, none⟩ = some (.bool a1_0) := (blk_cell BK604.out 0).trans rfl
   have hfs45 := blk_frozen BK604.out 0
   have hns45_0 := NB603_604.out
   have hms45_0 := NB604_603.out
   have hs46 : w41.cell? ⟨gb604, 1, none⟩ = some (.string a1_1) := (blk_cell BK604.out 1).trans rfl
   have hfs46 := blk_frozen BK604.out 1
   have hns46_0 := NB603_604.out
   have hms46_0 := NB604_603.out
   have hs47 : w41.cell? ⟨gb604, 2, none⟩ = some (.string a1_2) := (blk_cell BK604.out 2).trans rfl
   have hfs47 := blk_frozen BK604.out 2
   have hns47_0 := NB603_604.out
   have hms47_0 := NB604_603.out
   refine skip_ (w1 := ?_) (by rfl) rfl ?_ ?_
   rotate_left
   ·go_simp
    rfl
   refine hK.out _ _ ?_
   clear hK K
   refine done_ (by kernel_rfl) ?_
   try go_wp2
   have n0_ : Aside0 (((((((w41.setCell ⟨gb603, 0, none⟩ (.bool false)).setCell ⟨gb603, 1, none⟩ (.string t606)).setCell ⟨gb603, 2, none⟩ (.string t607)).setCell ⟨gb604, 0, none⟩ (.bool t608)).setCell ⟨gb604, 1, none⟩ (.string t609)).setCell ⟨gb604, 2, none⟩ (.string t610)).heap[gb603]? = some (.cells #[.bool false, .string t606, .string t607] 23 (0, 0))) := ⟨bq BK603.out⟩
   have n1_ : Aside0 (((((((w41.setCell ⟨gb603, 0, none⟩ (.bool false)).setCell ⟨gb603, 1, none⟩ (.string t606)).setCell ⟨gb603, 2, none⟩ (.string t607)).setCell ⟨gb604, 0, none⟩ (.bool t608)).setCell ⟨gb604, 1, none⟩ (.string t609)).setCell ⟨gb604, 2, none⟩ (.string t610)).heap[gb604]? = some (.cells #[.bool t608, .string t609, .string t610] 23 (0, 0))) := ⟨bq BK604.out⟩
   have n2_ : Aside0 (Below w.heap.size w ((((((w41.setCell ⟨gb603, 0, none⟩ (.bool false)).setCell ⟨gb603, 1, none⟩ (.string t606)).setCell ⟨gb603, 2, none⟩ (.string t607)).setCell ⟨gb604, 0, none⟩ (.bool t608)).setCell ⟨gb604, 1, none⟩ (.string t609)).setCell ⟨gb604, 2, none⟩ (.string t610))) := ⟨bz HB.out⟩
   (try clear BK603)
   (try clear BK604)
   (try clear HB)
   generalize ((((((w41.setCell ⟨gb603, 0, none⟩ (.bool false)).setCell ⟨gb603, 1, none⟩ (.string t606)).setCell ⟨gb603, 2, none⟩ (.string t607)).setCell ⟨gb604, 0, none⟩ (.bool t608)).setCell ⟨gb604, 1, none⟩ (.string t609)).setCell ⟨gb604, 2, none⟩ (.string t610)) = w48 at n0_ n1_ n2_ ⊢
   have BK603 := n0_
   have BK604 := n1_
   have HB := n2_
   clear n0_ n1_ n2_
   replace BK603 := Aside0.mk (blk_drew BK603.out)
   replace BK604 := Aside0.mk (blk_drew BK604.out)
   replace HB := Aside0.mk (below_drew1 HB.out)
   refine start_ (n := 6) (S := fun w' => w'.cell? ⟨gb603, 0, none⟩ = some (.bool false) ∧ w'.cell? ⟨gb603, 1, none⟩ = some (.string t606) ∧ w'.cell? ⟨gb603, 2, none⟩ = some (.string t607) ∧ w'.cell? ⟨gb604, 0, none⟩ = some (.bool t608) ∧ w'.cell? ⟨gb604, 1, none⟩ = some (.string t609) ∧ w'.cell? ⟨gb604, 2, none⟩ = some (.string t610)) (ds := []) #[false, false, false, false, false, false] (by kernel_rfl) rfl rfl ⟨(blk_cell BK603.out 0).trans rfl, (blk_cell BK603.out 1).trans rfl, (blk_cell BK603.out 2).trans rfl, (blk_cell BK604.out 0).trans rfl, (blk_cell BK604.out 1).trans rfl, (blk_cell BK604.out 2).trans rfl⟩ (fun hHeld => ?_)
   generalize w48.drew = w49 at BK603 BK604 HB hHeld ⊢
   refine take_ (i := 0) (N := some 12) (v := ?_) (a' := ?_) #[true, false, false, false, false, false] rfl rfl (by kernel_rfl) (fun _ _ _ h => h) (Or.inl ⟨by rfl, ?_⟩) hHeld ?_ ?_
   rotate_left
   ·rintro w' ⟨s0, s1, s2, s3, s4, s5⟩
    go_simp
    with_reducible rfl
   rotate_left
   ·simp only [Act.put, List.setIfInBounds_toArray, List.set_cons_zero, List.set_cons_succ, i64_w, i32_w]
    rfl
   refine take_ (i := 2) (N := some 14) (v := ?_) (a' := ?_) #[true, false, true, false, false, false] rfl rfl (by kernel_rfl) (fun _ _ _ h => h) (Or.inl ⟨by rfl, ?_⟩) hHeld ?_ ?_
   rotate_left
   ·rintro w' ⟨s0, s1, s2, s3, s4, s5⟩
    go_simp
    with_reducible rfl
   rotate_left
   ·simp only [Act.put, List.setIfInBounds_toArray, List.set_cons_zero, List.set_cons_succ, i64_w, i32_w]
    rfl
   refine one_ (i := 1) (N := some 13) #[true, true, true, false, false, false] rfl rfl (by kernel_rfl) (by decide) (fun K hK => ?_)
   refine goes_ Tryd.func38 (by kernel_rfl) rfl #[.agg #[.bool false, .string t606, .string t607]] (by rfl) rfl rfl (by (try simp only [List.map_toArray, List.map_cons, List.map_nil]); first | done | rfl | (simp only [List.length_drop, List.length_take]; rfl)) ?_
   with_reducible refine (rational_signOf.calls false t606 t607 t611 _ A5.out).mono ?_
   rintro e w50 ⟨rfl, hb⟩
   refine ⟨_, rfl, ?_⟩
   replace BK603 := Aside0.mk (bk0 BK603.out hb)
   replace BK604 := Aside0.mk (bk0 BK604.out hb)
   replace HB := Aside0.mk (bs HB.out hb)
   (try clear hb)
   (try clear hb2)
   (try clear hk)
   (try clear hi)
   refine hK.out _ _ ⟨(blk_cell BK603.out 0).trans rfl, (blk_cell BK603.out 1).trans rfl, (blk_cell BK603.out 2).trans rfl, (blk_cell BK604.out 0).trans rfl, (blk_cell BK604.out 1).trans rfl, (blk_cell BK604.out 2).trans rfl⟩ (fun hHeld => ?_)
   clear hK K
   refine norm_ (a' := ?_) ?_ ?_
   rotate_left
   ·show Act.put _ (some 13) _ = _
    simp only [Act.put, List.setIfInBounds_toArray, List.set_cons_zero, List.set_cons_succ, i64_w, i32_w]
    rfl
   refine one_ (i := 3) (N := some 15) #[true, true, true, true, false, false] rfl rfl (by kernel_rfl) (by decide) (fun K hK => ?_)
   refine goes_ Tryd.func38 (by kernel_rfl) rfl #[.agg #[.bool t608, .string t609, .string t610]] (by rfl) rfl rfl (by (try simp only [List.map_toArray, List.map_cons, List.map_nil]); first | done | rfl | (simp only [List.length_drop, List.length_take]; rfl)) ?_
   with_reducible refine (rational_signOf.calls t608 t609 t610 t612 _ A6.out).mono ?_
   rintro e w51 ⟨rfl, hb⟩
   refine ⟨_, rfl, ?_⟩
   replace BK603 := Aside0.mk (bk0 BK603.out hb)
   replace BK604 := Aside0.mk (bk0 BK604.out hb)
   replace HB := Aside0.mk (bs HB.out hb)
   (try clear hb)
   (try clear hb2)
   (try clear hk)
   (try clear hi)
   refine hK.out _ _ ⟨(blk_cell BK603.out 0).trans rfl, (blk_cell BK603.out 1).trans rfl, (blk_cell BK603.out 2).trans rfl, (blk_cell BK604.out 0).trans rfl, (blk_cell BK604.out 1).trans rfl, (blk_cell BK604.out 2).trans rfl⟩ (fun hHeld => ?_)
   clear hK K
   refine norm_ (a' := ?_) ?_ ?_
   rotate_left
   ·show Act.put _ (some 15) _ = _
    simp only [Act.put, List.setIfInBounds_toArray, List.set_cons_zero, List.set_cons_succ, i64_w, i32_w]
    rfl
   refine pure_ (i := 4) (N := some 5) (v := ?_) (a' := ?_) #[true, true, true, true, true, false] rfl rfl (by kernel_rfl) (fun _ _ _ h => h) (Or.inl ⟨by rfl, ?_⟩) ?_ ?_
   rotate_left
   ·intro w'
    go_simp
    with_reducible rfl
   rotate_left
   ·simp only [Act.put, List.setIfInBounds_toArray, List.set_cons_zero, List.set_cons_succ, i64_w, i32_w]
    rfl
   refine pure_ (i := 5) (N := some 6) (v := ?_) (a' := ?_) #[true, true, true, true, true, true] rfl rfl (by kernel_rfl) (fun _ _ _ h => h) (Or.inl ⟨by rfl, ?_⟩) ?_ ?_
   rotate_left
   ·intro w'
    go_simp
    with_reducible rfl
   rotate_left
   ·simp only [Act.put, List.setIfInBounds_toArray, List.set_cons_zero, List.set_cons_succ, i64_w, i32_w]
    rfl
   refine done_ (by kernel_rfl) ?_
   try go_wp2
   replace BK603 := Aside0.mk (blk_drew BK603.out)
   replace BK604 := Aside0.mk (blk_drew BK604.out)
   replace HB := Aside0.mk (below_drew1 HB.out)
   refine start_ (n := 12) (S := fun w' => w'.cell? ⟨gb603, 0, none⟩ = some (.bool false) ∧ w'.cell? ⟨gb603, 1, none⟩ = some (.string t606) ∧ w'.cell? ⟨gb603, 2, none⟩ = some (.string t607) ∧ w'.cell? ⟨gb604, 0, none⟩ = some (.bool t608) ∧ w'.cell? ⟨gb604, 1, none⟩ = some (.string t609) ∧ w'.cell? ⟨gb604, 2, none⟩ = some (.string t610)) (ds := []) #[false, false, false, false, false, false, false, false, false, false, false, false] (by kernel_rfl) rfl rfl ⟨(blk_cell BK603.out 0).trans rfl, (blk_cell BK603.out 1).trans rfl, (blk_cell BK603.out 2).trans rfl, (blk_cell BK604.out 0).trans rfl, (blk_cell BK604.out 1).trans rfl, (blk_cell BK604.out 2).trans rfl⟩ (fun hHeld => ?_); refine with_tabW rational_Compare.tab7 rational_Compare.bits7 (fun HT_ HW_ => ?_)
   generalize w51.drew = w52 at BK603 BK604 HB hHeld ⊢
   refine pure_ (i := 0) (N := some 22) (v := ?_) (a' := ?_) #[true, false, false, false, false, false, false, false, false, false, false, false] rfl rfl (any_of HT_.out (by kernel_rfl)) (fun _ _ _ h => h) (Or.inl ⟨by rfl, ?_⟩) ?_ ?_
   rotate_left
   ·intro w'
    go_simp
    with_reducible rfl
   rotate_left
   ·simp only [Act.put, List.setIfInBounds_toArray, List.set_cons_zero, List.set_cons_succ, i64_w, i32_w]
    rfl
   refine pure_ (i := 5) (N := some 27) (v := ?_) (a' := ?_) #[true, false, false, false, false, true, false, false, false, false, false, false] rfl rfl (any_of HT_.out (by kernel_rfl)) (fun _ _ _ h => h) (Or.inl ⟨by rfl, ?_⟩) ?_ ?_
   rotate_left
   ·intro w'
    go_simp
    with_reducible rfl
   rotate_left
   ·simp only [Act.put, List.setIfInBounds_toArray, List.set_cons_zero, List.set_cons_succ, i64_w, i32_w]
    rfl
   refine take_ (i := 1) (N := some 23) (v := ?_) (a' := ?_) #[true, true, false, false, false, true, false, false, false, false, false, false] rfl rfl (take_ofW HT_.out HW_.out (by kernel_rfl)) (fun _ _ _ h => h) (Or.inl ⟨by rfl, ?_⟩) hHeld ?_ ?_
   rotate_left
   ·rintro w' ⟨s0, s1, s2, s3, s4, s5⟩
    go_simp
    with_reducible rfl
   rotate_left
   ·simp only [Act.put, List.setIfInBounds_toArray, List.set_cons_zero, List.set_cons_succ, i64_w, i32_w]
    rfl
   refine take_ (i := 2) (N := some 24) (v := ?_) (a' := ?_) #[true, true, true, false, false, true, false, false, false, false, false, false] rfl rfl (take_ofW HT_.out HW_.out (by kernel_rfl)) (fun _ _ _ h => h) (Or.inl ⟨by rfl, ?_⟩) hHeld ?_ ?_
   rotate_left
   ·rintro w' ⟨s0, s1, s2, s3, s4, s5⟩
    go_simp
    with_reducible rfl
   rotate_left
   ·simp only [Act.put, List.setIfInBounds_toArray, List.set_cons_zero, List.set_cons_succ, i64_w, i32_w]
    rfl
   refine take_ (i := 6) (N := some 28) (v := ?_) (a' := ?_) #[true, true, true, false, false, true, true, false, false, false, false, false] rfl rfl (take_ofW HT_.out HW_.out (by kernel_rfl)) (fun _ _ _ h => h) (Or.inl ⟨by rfl, ?_⟩) hHeld ?_ ?_
   rotate_left
   ·rintro w' ⟨s0, s1, s2, s3, s4, s5⟩
    go_simp
    with_reducible rfl
   rotate_left
   ·simp only [Act.put, List.setIfInBounds_toArray, List.set_cons_zero, List.set_cons_succ, i64_w, i32_w]
    rfl
   refine take_ (i := 7) (N := some 29) (v := ?_) (a' := ?_) #[true, true, true, false, false, true, true, true, false, false, false, false] rfl rfl (take_ofW HT_.out HW_.out (by kernel_rfl)) (fun _ _ _ h => h) (Or.inl ⟨by rfl, ?_⟩) hHeld ?_ ?_
   rotate_left
   ·rintro w' ⟨s0, s1, s2, s3, s4, s5⟩
    go_simp
    with_reducible rfl
   rotate_left
   ·simp only [Act.put, List.setIfInBounds_toArray, List.set_cons_zero, List.set_cons_succ, i64_w, i32_w]
    rfl
   refine one_ (i := 3) (N := some 25) #[true, true, true, true, false, true, true, true, false, false, false, false] rfl rfl (one_of HT_.out (by kernel_rfl)) (by decide) (fun K hK => ?_)
   refine goes_ Tryd.func41 (by kernel_rfl) rfl #[.agg #[.bool t608, .string t609, .string t610]] (by rfl) rfl rfl (by (try simp only [List.map_toArray, List.map_cons, List.map_nil]); first | done | rfl | (simp only [List.length_drop, List.length_take]; rfl)) ?_
   with_reducible refine (rational_den.calls t608 t609 t610 t613 _ A8.out).mono ?_
   rintro e w53 ⟨rfl, hb⟩
   refine ⟨_, rfl, ?_⟩
   replace BK603 := Aside0.mk (bk0 BK603.out hb)
   replace BK604 := Aside0.mk (bk0 BK604.out hb)
   replace HB := Aside0.mk (bs HB.out hb)
   (try clear hb)
   (try clear hb2)
   (try clear hk)
   (try clear hi)
   refine hK.out _ _ ⟨(blk_cell BK603.out 0).trans rfl, (blk_cell BK603.out 1).trans rfl, (blk_cell BK603.out 2).trans rfl, (blk_cell BK604.out 0).trans rfl, (blk_cell BK604.out 1).trans rfl, (blk_cell BK604.out 2).trans rfl⟩ (fun hHeld => ?_)
   clear hK K
   refine norm_ (a' := ?_) ?_ ?_
   rotate_left
   ·show Act.put _ (some 25) _ = _
    simp only [Act.put, List.setIfInBounds_toArray, List.set_cons_zero, List.set_cons_succ, i64_w, i32_w]
    rfl
   refine one_ (i := 4) (N := some 26) #[true, true, true, true, true, true, true, true, false, false, false, false] rfl rfl (one_of HT_.out (by kernel_rfl)) (by decide) (fun K hK => ?_)
   refine goes_ Tryd.func40 (by kernel_rfl) rfl #[.string t606, .string t613] (by rfl) rfl rfl (by (try simp only [List.map_toArray, List.map_cons, List.map_nil]); first | done | rfl | (simp only [List.length_drop, List.length_take]; rfl)) ?_
   with_reducible refine (natural_Multiply.calls k t606 t613 t614 _ A9.out).mono ?_
   rintro e w54 ⟨rfl, hb⟩
   refine ⟨_, rfl, ?_⟩
   replace BK603 := Aside0.mk (bk0 BK603.out hb)
   replace BK604 := Aside0.mk (bk0 BK604.out hb)
   replace HB := Aside0.mk (bs HB.out hb)
   (try clear hb)
   (try clear hb2)
   (try clear hk)
   (try clear hi)
   refine hK.out _ _ ⟨(blk_cell BK603.out 0).trans rfl, (blk_cell BK603.out 1).trans rfl, (blk_cell BK603.out 2).trans rfl, (blk_cell BK604.out 0).trans rfl, (blk_cell BK604.out 1).trans rfl, (blk_cell BK604.out 2).trans rfl⟩ (fun hHeld => ?_)
   clear hK K
   refine norm_ (a' := ?_) ?_ ?_
   rotate_left
   ·show Act.put _ (some 26) _ = _
    simp only [Act.put, List.setIfInBounds_toArray, List.set_cons_zero, List.set_cons_succ, i64_w, i32_w]
    rfl
   refine one_ (i := 8) (N := some 30) #[true, true, true, true, true, true, true, true, true, false, false, false] rfl rfl (one_of HT_.out (by kernel_rfl)) (by decide) (fun K hK => ?_)
   refine goes_ Tryd.func41 (by kernel_rfl) rfl #[.agg #[.bool false, .string t606, .string t607]] (by rfl) rfl rfl (by (try simp only [List.map_toArray, List.map_cons, List.map_nil]); first | done | rfl | (simp only [List.length_drop, List.length_take]; rfl)) ?_
   with_reducible refine (rational_den.calls false t606 t607 t615 _ A10.out).mono ?_
   rintro e w55 ⟨rfl, hb⟩
   refine ⟨_, rfl, ?_⟩
   replace BK603 := Aside0.mk (bk0 BK603.out hb)
   replace BK604 := Aside0.mk (bk0 BK604.out hb)
   replace HB := Aside0.mk (bs HB.out hb)
   (try clear hb)
   (try clear hb2)
   (try clear hk)
   (try clear hi)
   refine hK.out _ _ ⟨(blk_cell BK603.out 0).trans rfl, (blk_cell BK603.out 1).trans rfl, (blk_cell BK603.out 2).trans rfl, (blk_cell BK604.out 0).trans rfl, (blk_cell BK604.out 1).trans rfl, (blk_cell BK604.out 2).trans rfl⟩ (fun hHeld => ?_)
   clear hK K
   refine norm_ (a' := ?_) ?_ ?_
   rotate_left
   ·show Act.put _ (some 30) _ = _
    simp only [Act.put, List.setIfInBounds_toArray, List.set_cons_zero, List.set_cons_succ, i64_w, i32_w]
    rfl
   refine one_ (i := 9) (N := some 31) #[true, true, true, true, true, true, true, true, true, true, false, false] rfl rfl (one_of HT_.out (by kernel_rfl)) (by decide) (fun K hK => ?_)
   refine goes_ Tryd.func40 (by kernel_rfl) rfl #[.string t609, .string t615] (by rfl) rfl rfl (by (try simp only [List.map_toArray, List.map_cons, List.map_nil]); first | done | rfl | (simp only [List.length_drop, List.length_take]; rfl)) ?_
   with_reducible refine (natural_Multiply.calls k t609 t615 t616 _ A11.out).mono ?_
   rintro e w56 ⟨rfl, hb⟩
   refine ⟨_, rfl, ?_⟩
   replace BK603 := Aside0.mk (bk0 BK603.out hb)
   replace BK604 := Aside0.mk (bk0 BK604.out hb)
   replace HB := Aside0.mk (bs HB.out hb)
   (try clear hb)
   (try clear hb2)
   (try clear hk)
   (try clear hi)
   refine hK.out _ _ ⟨(blk_cell BK603.out 0).trans rfl, (blk_cell BK603.out 1).trans rfl, (blk_cell BK603.out 2).trans rfl, (blk_cell BK604.out 0).trans rfl, (blk_cell BK604.out 1).trans rfl, (blk_cell BK604.out 2).trans rfl⟩ (fun hHeld => ?_)
   clear hK K
   refine norm_ (a' := ?_) ?_ ?_
   rotate_left
   ·show Act.put _ (some 31) _ = _
    simp only [Act.put, List.setIfInBounds_toArray, List.set_cons_zero, List.set_cons_succ, i64_w, i32_w]
    rfl
   refine one_ (i := 10) (N := some 32) #[true, true, true, true, true, true, true, true, true, true, true, false] rfl rfl (one_of HT_.out (by kernel_rfl)) (by decide) (fun K hK => ?_)
   refine goes_ Tryd.func39 (by kernel_rfl) rfl #[.string t614, .string t616] (by rfl) rfl rfl (by (try simp only [List.map_toArray, List.map_cons, List.map_nil]); first | done | rfl | (simp only [List.length_drop, List.length_take]; rfl)) ?_
   with_reducible refine (natural_Compare.calls k t614 t616 t617 _ A12.out).mono ?_
   rintro e w57 ⟨rfl, hb⟩
   refine ⟨_, rfl, ?_⟩
   replace BK603 := Aside0.mk (bk0 BK603.out hb)
   replace BK604 := Aside0.mk (bk0 BK604.out hb)
   replace HB := Aside0.mk (bs HB.out hb)
   (try clear hb)
   (try clear hb2)
   (try clear hk)
   (try clear hi)
   refine hK.out _ _ ⟨(blk_cell BK603.out 0).trans rfl, (blk_cell BK603.out 1).trans rfl, (blk_cell BK603.out 2).trans rfl, (blk_cell BK604.out 0).trans rfl, (blk_cell BK604.out 1).trans rfl, (blk_cell BK604.out 2).trans rfl⟩ (fun hHeld => ?_)
   clear hK K
   refine norm_ (a' := ?_) ?_ ?_
   rotate_left
   ·show Act.put _ (some 32) _ = _
    simp only [Act.put, List.setIfInBounds_toArray, List.set_cons_zero, List.set_cons_succ, i64_w, i32_w]
    rfl
   refine pure_ (i := 11) (N := some 7) (v := ?_) (a' := ?_) #[true, true, true, true, true, true, true, true, true, true, true, true] rfl rfl (any_of HT_.out (by kernel_rfl)) (fun _ _ _ h => h) (Or.inl ⟨by rfl, ?_⟩) ?_ ?_
   rotate_left
   ·intro w'
    go_simp
    with_reducible rfl
   rotate_left
   ·simp only [Act.put, List.setIfInBounds_toArray, List.set_cons_zero, List.set_cons_succ, i64_w, i32_w]
    rfl
   refine done_ (done_of HT_.out (by kernel_rfl)) ?_
   have hnb58 := NB603_604.out
   have hnc58 := NB604_603.out
   obtain ⟨hcz59_0, hcz59_1, hcz59_2, hfz59_0, hfz59_1, hfz59_2⟩ := c3 BK603.out
   try go_wp2
   go_ret
   exact ⟨fe, bz HB.out⟩
 ·rw [if_neg c7] at H
  have c7b0 := beq_eq_false_iff_ne.mpr c7
  have c7b1 := bne_iff_ne.mpr c7
  by_cases c60 : t611 < t612
  ·rw [if_pos c60] at H
   have c60b0 : decide (t611 < t612) = true := decide_eq_true c60
   clear c60
   obtain rfl := Option.some.inj H
   go_enter Tryd.func17, Tryd.ntmps17
   try go_wp2_with (first | ((with_reducible refine gd 2 rfl ?_); refine bx 2 (#[.bool a0_0, .string a0_1, .string a0_2]) 23 ?_; intro gb603 hg w61 hbox hb; have BK603 := Aside0.mk (hbox); have GW603 := sg hg HB.out; have GE603 := sg hg HB.out; replace HB := Aside0.mk (bs HB.out hb); clear hb hbox hg) | ((with_reducible refine gd 3 rfl ?_); refine bx 3 (#[.bool a1_0, .string a1_1, .string a1_2]) 23 ?_; intro gb604 hg w62 hbox hb; have BK604 := Aside0.mk (hbox); have GW604 := sg hg HB.out; have GE604 := sg hg HB.out; replace HB := Aside0.mk (bs HB.out hb); have NB603_604 := nl hg BK603.out; have NB604_603 := nr hg BK603.out; replace BK603 := Aside0.mk (bk0 BK603.out hb); clear hb hbox hg))
   replace BK603 := Aside0.mk (blk_drew BK603.out)
   replace BK604 := Aside0.mk (blk_drew BK604.out)
   replace HB := Aside0.mk (below_drew1 HB.out)
   refine start_ (n := 6) (S := fun w' => w'.cell? ⟨gb603, 0, none⟩ = some (.bool a0_0) ∧ w'.cell? ⟨gb603, 1, none⟩ = some (.string a0_1) ∧ w'.cell? ⟨gb603, 2, none⟩ = some (.string a0_2) ∧ w'.cell? ⟨gb604, 0, none⟩ = some (.bool a1_0) ∧ w'.cell? ⟨gb604, 1, none⟩ = some (.string a1_1) ∧ w'.cell? ⟨gb604, 2, none⟩ = some (.string a1_2)) (ds := [4, 5]) #[false, false, false, false, false, false] (by kernel_rfl) rfl rfl ⟨(blk_cell BK603.out 0).trans rfl, (blk_cell BK603.out 1).trans rfl, (blk_cell BK603.out 2).trans rfl, (blk_cell BK604.out 0).trans rfl, (blk_cell BK604.out 1).trans rfl, (blk_cell BK604.out 2).trans rfl⟩ (fun hHeld => ?_)
   generalize w62.drew = w63 at BK603 BK604 HB hHeld ⊢
   refine take_ (i := 0) (N := some 8) (v := ?_) (a' := ?_) #[true, false, false, false, false, false] rfl rfl (by kernel_rfl) (fun _ _ _ h => h) (Or.inl ⟨by rfl, ?_⟩) hHeld ?_ ?_
   rotate_left
   ·rintro w' ⟨s0, s1, s2, s3, s4, s5⟩
    go_simp
    with_reducible rfl
   rotate_left
   ·simp only [Act.put, List.setIfInBounds_toArray, List.set_cons_zero, List.set_cons_succ, i64_w, i32_w]
    rfl
   refine take_ (i := 2) (N := some 10) (v := ?_) (a' := ?_) #[true, false, true, false, false, false] rfl rfl (by kernel_rfl) (fun _ _ _ h => h) (Or.inl ⟨by rfl, ?_⟩) hHeld ?_ ?_
   rotate_left
   ·rintro w' ⟨s0, s1, s2, s3, s4, s5⟩
    go_simp
    with_reducible rfl
   rotate_left
   ·simp only [Act.put, List.setIfInBounds_toArray, List.set_cons_zero, List.set_cons_succ, i64_w, i32_w]
    rfl
   refine one_ (i := 1) (N := some 9) #[true, true, true, false, false, false] rfl rfl (by kernel_rfl) (by decide) (fun K hK => ?_)
   refine goes_ Tryd.func34 (by kernel_rfl) rfl #[.agg #[.bool a0_0, .string a0_1, .string a0_2]] (by rfl) rfl rfl (by (try simp only [List.map_toArray, List.map_cons, List.map_nil]); first | done | rfl | (simp only [List.length_drop, List.length_take]; rfl)) ?_
   with_reducible refine (rational_clean.calls k a0_0 a0_1 a0_2 t605 t606 t607 _ A3.out).mono ?_
   rintro e w64 ⟨rfl, hb⟩
   refine ⟨_, rfl, ?_⟩
   replace BK603 := Aside0.mk (bk0 BK603.out hb)
   replace BK604 := Aside0.mk (bk0 BK604.out hb)
   replace HB := Aside0.mk (bs HB.out hb)
   (try clear hb)
   (try clear hb2)
   (try clear hk)
   (try clear hi)
   refine hK.out _ _ ⟨(blk_cell BK603.out 0).trans rfl, (blk_cell BK603.out 1).trans rfl, (blk_cell BK603.out 2).trans rfl, (blk_cell BK604.out 0).trans rfl, (blk_cell BK604.out 1).trans rfl, (blk_cell BK604.out 2).trans rfl⟩ (fun hHeld => ?_)
   clear hK K
   refine norm_ (a' := ?_) ?_ ?_
   rotate_left
   ·show Act.put _ (some 9) _ = _
    simp only [Act.put, List.setIfInBounds_toArray, List.set_cons_zero, List.set_cons_succ, i64_w, i32_w]
    rfl
   refine one_ (i := 3) (N := some 11) #[true, true, true, true, false, false] rfl rfl (by kernel_rfl) (by decide) (fun K hK => ?_)
   refine goes_ Tryd.func34 (by kernel_rfl) rfl #[.agg #[.bool a1_0, .string a1_1, .string a1_2]] (by rfl) rfl rfl (by (try simp only [List.map_toArray, List.map_cons, List.map_nil]); first | done | rfl | (simp only [List.length_drop, List.length_take]; rfl)) ?_
   with_reducible refine (rational_clean.calls k a1_0 a1_1 a1_2 t608 t609 t610 _ A4.out).mono ?_
   rintro e w65 ⟨rfl, hb⟩
   refine ⟨_, rfl, ?_⟩
   replace BK603 := Aside0.mk (bk0 BK603.out hb)
   replace BK604 := Aside0.mk (bk0 BK604.out hb)
   replace HB := Aside0.mk (bs HB.out hb)
   (try clear hb)
   (try clear hb2)
   (try clear hk)
   (try clear hi)
   refine hK.out _ _ ⟨(blk_cell BK603.out 0).trans rfl, (blk_cell BK603.out 1).trans rfl, (blk_cell BK603.out 2).trans rfl, (blk_cell BK604.out 0).trans rfl, (blk_cell BK604.out 1).trans rfl, (blk_cell BK604.out 2).trans rfl⟩ (fun hHeld => ?_)
   clear hK K
   refine norm_ (a' := ?_) ?_ ?_
   rotate_left
   ·show Act.put _ (some 11) _ = _
    simp only [Act.put, List.setIfInBounds_toArray, List.set_cons_zero, List.set_cons_succ, i64_w, i32_w]
    rfl
   refine last_ (i := 4) (N := none) #[true, true, true, true, true, false] rfl rfl (by kernel_rfl) (by decide) (fun K hK => ?_)
   have hs66 : w65.cell? ⟨gb603, 0, none⟩ = some (.bool a0_0) := (blk_cell BK603.out 0).trans rfl
   have hfs66 := blk_frozen BK603.out 0
   have hns66_1 := NB604_603.out
   have hms66_1 := NB603_604.out
   have hs67 : w65.cell? ⟨gb603, 1, none⟩ = some (.string a0_1) := (blk_cell BK603.out 1).trans rfl
   have hfs67 := blk_frozen BK603.out 1
   have hns67_1 := NB604_603.out
   have hms67_1 := NB603_604.out
   have hs68 : w65.cell? ⟨gb603, 2, none⟩ = some (.string a0_2) := (blk_cell BK603.out 2).trans rfl
   have hfs68 := blk_frozen BK603.out 2
   have hns68_1 := NB604_603.out
   have hms68_1 := NB603_604.out
   refine skip_ (w1 := ?_) (by rfl) rfl ?_ ?_
   rotate_left
   ·go_simp
    rfl
   refine hK.out _ _ ?_
   clear hK K
   refine last_ (i := 5) (N := none) #[true, true, true, true, true, true] rfl rfl (by kernel_rfl) (by decide) (fun K hK => ?_)
   have hs69 : w65.cell? ⟨gb604, 0, none⟩ = some (.bool a1_0) := (blk_cell BK604.out 0).trans rfl
   have hfs69 := blk_frozen BK604.out 0
   have hns69_0 := NB603_604.out
   have hms69_0 := NB604_603.out
   have hs70 : w65.cell? ⟨gb604, 1, none⟩ = some (.string a1_1) := (blk_cell BK604.out 1).trans rfl
   have hfs70 := blk_frozen BK604.out 1
   have hns70_0 := NB603_604.out
   have hms70_0 := NB604_603.out
   have hs71 : w65.cell? ⟨gb604, 2, none⟩ = some (.string a1_2) := (blk_cell BK604.out 2).trans rfl
   have hfs71 := blk_frozen BK604.out 2
   have hns71_0 := NB603_604.out
   have hms71_0 := NB604_603.out
   refine skip_ (w1 := ?_) (by rfl) rfl ?_ ?_
   rotate_left
   ·go_simp
    rfl
   refine hK.out _ _ ?_
   clear hK K
   refine done_ (by kernel_rfl) ?_
   try go_wp2
   have n0_ : Aside0 (((((((w65.setCell ⟨gb603, 0, none⟩ (.bool t605)).setCell ⟨gb603, 1, none⟩ (.string t606)).setCell ⟨gb603, 2, none⟩ (.string t607)).setCell ⟨gb604, 0, none⟩ (.bool t608)).setCell ⟨gb604, 1, none⟩ (.string t609)).setCell ⟨gb604, 2, none⟩ (.string t610)).heap[gb603]? = some (.cells #[.bool t605, .string t606, .string t607] 23 (0, 0))) := ⟨bq BK603.out⟩
   have n1_ : Aside0 (((((((w65.setCell ⟨gb603, 0, none⟩ (.bool t605)).setCell ⟨gb603, 1, none⟩ (.string t606)).setCell ⟨gb603, 2, none⟩ (.string t607)).setCell ⟨gb604, 0, none⟩ (.bool t608)).setCell ⟨gb604, 1, none⟩ (.string t609)).setCell ⟨gb604, 2, none⟩ (.string t610)).heap[gb604]? = some (.cells #[.bool t608, .string t609, .string t610] 23 (0, 0))) := ⟨bq BK604.out⟩
   have n2_ : Aside0 (Below w.heap.size w ((((((w65.setCell ⟨gb603, 0, none⟩ (.bool t605)).setCell ⟨gb603, 1, none⟩ (.string t606)).setCell ⟨gb603, 2, none⟩ (.string t607)).setCell ⟨gb604, 0, none⟩ (.bool t608)).setCell ⟨gb604, 1, none⟩ (.string t609)).setCell ⟨gb604, 2, none⟩ (.string t610))) := ⟨bz HB.out⟩
   (try clear BK603)
   (try clear BK604)
   (try clear HB)
   generalize ((((((w65.setCell ⟨gb603, 0, none⟩ (.bool t605)).setCell ⟨gb603, 1, none⟩ (.string t606)).setCell ⟨gb603, 2, none⟩ (.string t607)).setCell ⟨gb604, 0, none⟩ (.bool t608)).setCell ⟨gb604, 1, none⟩ (.string t609)).setCell ⟨gb604, 2, none⟩ (.string t610)) = w72 at n0_ n1_ n2_ ⊢
   have BK603 := n0_
   have BK604 := n1_
   have HB := n2_
   clear n0_ n1_ n2_
   replace BK603 := Aside0.mk (blk_drew BK603.out)
   replace BK604 := Aside0.mk (blk_drew BK604.out)
   replace HB := Aside0.mk (below_drew1 HB.out)
   refine start_ (n := 6) (S := fun w' => w'.cell? ⟨gb603, 0, none⟩ = some (.bool t605) ∧ w'.cell? ⟨gb603, 1, none⟩ = some (.string t606) ∧ w'.cell? ⟨gb603, 2, none⟩ = some (.string t607) ∧ w'.cell? ⟨gb604, 0, none⟩ = some (.bool t608) ∧ w'.cell? ⟨gb604, 1, none⟩ = some (.string t609) ∧ w'.cell? ⟨gb604, 2, none⟩ = some (.string t610)) (ds := []) #[false, false, false, false, false, false] (by kernel_rfl) rfl rfl ⟨(blk_cell BK603.out 0).trans rfl, (blk_cell BK603.out 1).trans rfl, (blk_cell BK603.out 2).trans rfl, (blk_cell BK604.out 0).trans rfl, (blk_cell BK604.out 1).trans rfl, (blk_cell BK604.out 2).trans rfl⟩ (fun hHeld => ?_)
   generalize w72.drew = w73 at BK603 BK604 HB hHeld ⊢
   refine take_ (i := 0) (N := some 12) (v := ?_) (a' := ?_) #[true, false, false, false, false, false] rfl rfl (by kernel_rfl) (fun _ _ _ h => h) (Or.inl ⟨by rfl, ?_⟩) hHeld ?_ ?_
   rotate_left
   ·rintro w' ⟨s0, s1, s2, s3, s4, s5⟩
    go_simp
    with_reducible rfl
   rotate_left
   ·simp only [Act.put, List.setIfInBounds_toArray, List.set_cons_zero, List.set_cons_succ, i64_w, i32_w]
    rfl
   refine take_ (i := 2) (N := some 14) (v := ?_) (a' := ?_) #[true, false, true, false, false, false] rfl rfl (by kernel_rfl) (fun _ _ _ h => h) (Or.inl ⟨by rfl, ?_⟩) hHeld ?_ ?_
   rotate_left
   ·rintro w' ⟨s0, s1, s2, s3, s4, s5⟩
    go_simp
    with_reducible rfl
   rotate_left
   ·simp only [Act.put, List.setIfInBounds_toArray, List.set_cons_zero, List.set_cons_succ, i64_w, i32_w]
    rfl
   refine one_ (i := 1) (N := some 13) #[true, true, true, false, false, false] rfl rfl (by kernel_rfl) (by decide) (fun K hK => ?_)
   refine goes_ Tryd.func38 (by kernel_rfl) rfl #[.agg #[.bool t605, .string t606, .string t607]] (by rfl) rfl rfl (by (try simp only [List.map_toArray, List.map_cons, List.map_nil]); first | done | rfl | (simp only [List.length_drop, List.length_take]; rfl)) ?_
   with_reducible refine (rational_signOf.calls t605 t606 t607 t611 _ A5.out).mono ?_
   rintro e w74 ⟨rfl, hb⟩
   refine ⟨_, rfl, ?_⟩
   replace BK603 := Aside0.mk (bk0 BK603.out hb)
   replace BK604 := Aside0.mk (bk0 BK604.out hb)
   replace HB := Aside0.mk (bs HB.out hb)
   (try clear hb)
   (try clear hb2)
   (try clear hk)
   (try clear hi)
   refine hK.out _ _ ⟨(blk_cell BK603.out 0).trans rfl, (blk_cell BK603.out 1).trans rfl, (blk_cell BK603.out 2).trans rfl, (blk_cell BK604.out 0).trans rfl, (blk_cell BK604.out 1).trans rfl, (blk_cell BK604.out 2).trans rfl⟩ (fun hHeld => ?_)
   clear hK K
   refine norm_ (a' := ?_) ?_ ?_
   rotate_left
   ·show Act.put _ (some 13) _ = _
    simp only [Act.put, List.setIfInBounds_toArray, List.set_cons_zero, List.set_cons_succ, i64_w, i32_w]
    rfl
   refine one_ (i := 3) (N := some 15) #[true, true, true, true, false, false] rfl rfl (by kernel_rfl) (by decide) (fun K hK => ?_)
   refine goes_ Tryd.func38 (by kernel_rfl) rfl #[.agg #[.bool t608, .string t609, .string t610]] (by rfl) rfl rfl (by (try simp only [List.map_toArray, List.map_cons, List.map_nil]); first | done | rfl | (simp only [List.length_drop, List.length_take]; rfl)) ?_
   with_reducible refine (rational_signOf.calls t608 t609 t610 t612 _ A6.out).mono ?_
   rintro e w75 ⟨rfl, hb⟩
   refine ⟨_, rfl, ?_⟩
   replace BK603 := Aside0.mk (bk0 BK603.out hb)
   replace BK604 := Aside0.mk (bk0 BK604.out hb)
   replace HB := Aside0.mk (bs HB.out hb)
   (try clear hb)
   (try clear hb2)
   (try clear hk)
   (try clear hi)
   refine hK.out _ _ ⟨(blk_cell BK603.out 0).trans rfl, (blk_cell BK603.out 1).trans rfl, (blk_cell BK603.out 2).trans rfl, (blk_cell BK604.out 0).trans rfl, (blk_cell BK604.out 1).trans rfl, (blk_cell BK604.out 2).trans rfl⟩ (fun hHeld => ?_)
   clear hK K
   refine norm_ (a' := ?_) ?_ ?_
   rotate_left
   ·show Act.put _ (some 15) _ = _
    simp only [Act.put, List.setIfInBounds_toArray, List.set_cons_zero, List.set_cons_succ, i64_w, i32_w]
    rfl
   refine pure_ (i := 4) (N := some 5) (v := ?_) (a' := ?_) #[true, true, true, true, true, false] rfl rfl (by kernel_rfl) (fun _ _ _ h => h) (Or.inl ⟨by rfl, ?_⟩) ?_ ?_
   rotate_left
   ·intro w'
    go_simp
    with_reducible rfl
   rotate_left
   ·simp only [Act.put, List.setIfInBounds_toArray, List.set_cons_zero, List.set_cons_succ, i64_w, i32_w]
    rfl
   refine pure_ (i := 5) (N := some 6) (v := ?_) (a' := ?_) #[true, true, true, true, true, true] rfl rfl (by kernel_rfl) (fun _ _ _ h => h) (Or.inl ⟨by rfl, ?_⟩) ?_ ?_
   rotate_left
   ·intro w'
    go_simp
    with_reducible rfl
   rotate_left
   ·simp only [Act.put, List.setIfInBounds_toArray, List.set_cons_zero, List.set_cons_succ, i64_w, i32_w]
    rfl
   refine done_ (by kernel_rfl) ?_
   try go_wp2
   go_ret
   exact ⟨fe, bz HB.out⟩
  ·rw [if_neg c60] at H
   have c60b0 : decide (t611 < t612) = false := decide_eq_false c60
   clear c60
   obtain rfl := Option.some.inj H
   go_enter Tryd.func17, Tryd.ntmps17
   try go_wp2_with (first | ((with_reducible refine gd 2 rfl ?_); refine bx 2 (#[.bool a0_0, .string a0_1, .string a0_2]) 23 ?_; intro gb603 hg w76 hbox hb; have BK603 := Aside0.mk (hbox); have GW603 := sg hg HB.out; have GE603 := sg hg HB.out; replace HB := Aside0.mk (bs HB.out hb); clear hb hbox hg) | ((with_reducible refine gd 3 rfl ?_); refine bx 3 (#[.bool a1_0, .string a1_1, .string a1_2]) 23 ?_; intro gb604 hg w77 hbox hb; have BK604 := Aside0.mk (hbox); have GW604 := sg hg HB.out; have GE604 := sg hg HB.out; replace HB := Aside0.mk (bs HB.out hb); have NB603_604 := nl hg BK603.out; have NB604_603 := nr hg BK603.out; replace BK603 := Aside0.mk (bk0 BK603.out hb); clear hb hbox hg))
   replace BK603 := Aside0.mk (blk_drew BK603.out)
   replace BK604 := Aside0.mk (blk_drew BK604.out)
   replace HB := Aside0.mk (below_drew1 HB.out)
   refine start_ (n := 6) (S := fun w' => w'.cell? ⟨gb603, 0, none⟩ = some (.bool a0_0) ∧ w'.cell? ⟨gb603, 1, none⟩ = some (.string a0_1) ∧ w'.cell? ⟨gb603, 2, none⟩ = some (.string a0_2) ∧ w'.cell? ⟨gb604, 0, none⟩ = some (.bool a1_0) ∧ w'.cell? ⟨gb604, 1, none⟩ = some (.string a1_1) ∧ w'.cell? ⟨gb604, 2, none⟩ = some (.string a1_2)) (ds := [4, 5]) #[false, false, false, false, false, false] (by kernel_rfl) rfl rfl ⟨(blk_cell BK603.out 0).trans rfl, (blk_cell BK603.out 1).trans rfl, (blk_cell BK603.out 2).trans rfl, (blk_cell BK604.out 0).trans rfl, (blk_cell BK604.out 1).trans rfl, (blk_cell BK604.out 2).trans rfl⟩ (fun hHeld => ?_)
   generalize w77.drew = w78 at BK603 BK604 HB hHeld ⊢
   refine take_ (i := 0) (N := some 8) (v := ?_) (a' := ?_) #[true, false, false, false, false, false] rfl rfl (by kernel_rfl) (fun _ _ _ h => h) (Or.inl ⟨by rfl, ?_⟩) hHeld ?_ ?_
   rotate_left
   ·rintro w' ⟨s0, s1, s2, s3, s4, s5⟩
    go_simp
    with_reducible rfl
   rotate_left
   ·simp only [Act.put, List.setIfInBounds_toArray, List.set_cons_zero, List.set_cons_succ, i64_w, i32_w]
    rfl
   refine take_ (i := 2) (N := some 10) (v := ?_) (a' := ?_) #[true, false, true, false, false, false] rfl rfl (by kernel_rfl) (fun _ _ _ h => h) (Or.inl ⟨by rfl, ?_⟩) hHeld ?_ ?_
   rotate_left
   ·rintro w' ⟨s0, s1, s2, s3, s4, s5⟩
    go_simp
    with_reducible rfl
   rotate_left
   ·simp only [Act.put, List.setIfInBounds_toArray, List.set_cons_zero, List.set_cons_succ, i64_w, i32_w]
    rfl
   refine one_ (i := 1) (N := some 9) #[true, true, true, false, false, false] rfl rfl (by kernel_rfl) (by decide) (fun K hK => ?_)
   refine goes_ Tryd.func34 (by kernel_rfl) rfl #[.agg #[.bool a0_0, .string a0_1, .string a0_2]] (by rfl) rfl rfl (by (try simp only [List.map_toArray, List.map_cons, List.map_nil]); first | done | rfl | (simp only [List.length_drop, List.length_take]; rfl)) ?_
   with_reducible refine (rational_clean.calls k a0_0 a0_1 a0_2 t605 t606 t607 _ A3.out).mono ?_
   rintro e w79 ⟨rfl, hb⟩
   refine ⟨_, rfl, ?_⟩
   replace BK603 := Aside0.mk (bk0 BK603.out hb)
   replace BK604 := Aside0.mk (bk0 BK604.out hb)
   replace HB := Aside0.mk (bs HB.out hb)
   (try clear hb)
   (try clear hb2)
   (try clear hk)
   (try clear hi)
   refine hK.out _ _ ⟨(blk_cell BK603.out 0).trans rfl, (blk_cell BK603.out 1).trans rfl, (blk_cell BK603.out 2).trans rfl, (blk_cell BK604.out 0).trans rfl, (blk_cell BK604.out 1).trans rfl, (blk_cell BK604.out 2).trans rfl⟩ (fun hHeld => ?_)
   clear hK K
   refine norm_ (a' := ?_) ?_ ?_
   rotate_left
   ·show Act.put _ (some 9) _ = _
    simp only [Act.put, List.setIfInBounds_toArray, List.set_cons_zero, List.set_cons_succ, i64_w, i32_w]
    rfl
   refine one_ (i := 3) (N := some 11) #[true, true, true, true, false, false] rfl rfl (by kernel_rfl) (by decide) (fun K hK => ?_)
   refine goes_ Tryd.func34 (by kernel_rfl) rfl #[.agg #[.bool a1_0, .string a1_1, .string a1_2]] (by rfl) rfl rfl (by (try simp only [List.map_toArray, List.map_cons, List.map_nil]); first | done | rfl | (simp only [List.length_drop, List.length_take]; rfl)) ?_
   with_reducible refine (rational_clean.calls k a1_0 a1_1 a1_2 t608 t609 t610 _ A4.out).mono ?_
   rintro e w80 ⟨rfl, hb⟩
   refine ⟨_, rfl, ?_⟩
   replace BK603 := Aside0.mk (bk0 BK603.out hb)
   replace BK604 := Aside0.mk (bk0 BK604.out hb)
   replace HB := Aside0.mk (bs HB.out hb)
   (try clear hb)
   (try clear hb2)
   (try clear hk)
   (try clear hi)
   refine hK.out _ _ ⟨(blk_cell BK603.out 0).trans rfl, (blk_cell BK603.out 1).trans rfl, (blk_cell BK603.out 2).trans rfl, (blk_cell BK604.out 0).trans rfl, (blk_cell BK604.out 1).trans rfl, (blk_cell BK604.out 2).trans rfl⟩ (fun hHeld => ?_)
   clear hK K
   refine norm_ (a' := ?_) ?_ ?_
   rotate_left
   ·show Act.put _ (some 11) _ = _
    simp only [Act.put, List.setIfInBounds_toArray, List.set_cons_zero, List.set_cons_succ, i64_w, i32_w]
    rfl
   refine last_ (i := 4) (N := none) #[true, true, true, true, true, false] rfl rfl (by kernel_rfl) (by decide) (fun K hK => ?_)
   have hs81 : w80.cell? ⟨gb603, 0, none⟩ = some (.bool a0_0) := (blk_cell BK603.out 0).trans rfl
   have hfs81 := blk_frozen BK603.out 0
   have hns81_1 := NB604_603.out
   have hms81_1 := NB603_604.out
   have hs82 : w80.cell? ⟨gb603, 1, none⟩ = some (.string a0_1) := (blk_cell BK603.out 1).trans rfl
   have hfs82 := blk_frozen BK603.out 1
   have hns82_1 := NB604_603.out
   have hms82_1 := NB603_604.out
   have hs83 : w80.cell? ⟨gb603, 2, none⟩ = some (.string a0_2) := (blk_cell BK603.out 2).trans rfl
   have hfs83 := blk_frozen BK603.out 2
   have hns83_1 := NB604_603.out
   have hms83_1 := NB603_604.out
   refine skip_ (w1 := ?_) (by rfl) rfl ?_ ?_
   rotate_left
   ·go_simp
    rfl
   refine hK.out _ _ ?_
   clear hK K
   refine last_ (i := 5) (N := none) #[true, true, true, true, true, true] rfl rfl (by kernel_rfl) (by decide) (fun K hK => ?_)
   have hs84 : w80.cell? ⟨gb604, 0, none⟩ = some (.bool a1_0) := (blk_cell BK604.out 0).trans rfl
   have hfs84 := blk_frozen BK604.out 0
   have hns84_0 := NB603_604.out
   have hms84_0 := NB604_603.out
   have hs85 : w80.cell? ⟨gb604, 1, none⟩ = some (.string a1_1) := (blk_cell BK604.out 1).trans rfl
   have hfs85 := blk_frozen BK604.out 1
   have hns85_0 := NB603_604.out
   have hms85_0 := NB604_603.out
   have hs86 : w80.cell? ⟨gb604, 2, none⟩ = some (.string a1_2) := (blk_cell BK604.out 2).trans rfl
   have hfs86 := blk_frozen BK604.out 2
   have hns86_0 := NB603_604.out
   have hms86_0 := NB604_603.out
   refine skip_ (w1 := ?_) (by rfl) rfl ?_ ?_
   rotate_left
   ·go_simp
    rfl
   refine hK.out _ _ ?_
   clear hK K
   refine done_ (by kernel_rfl) ?_
   try go_wp2
   have n0_ : Aside0 (((((((w80.setCell ⟨gb603, 0, none⟩ (.bool t605)).setCell ⟨gb603, 1, none⟩ (.string t606)).setCell ⟨gb603, 2, none⟩ (.string t607)).setCell ⟨gb604, 0, none⟩ (.bool t608)).setCell ⟨gb604, 1, none⟩ (.string t609)).setCell ⟨gb604, 2, none⟩ (.string t610)).heap[gb603]? = some (.cells #[.bool t605, .string t606, .string t607] 23 (0, 0))) := ⟨bq BK603.out⟩
   have n1_ : Aside0 (((((((w80.setCell ⟨gb603, 0, none⟩ (.bool t605)).setCell ⟨gb603, 1, none⟩ (.string t606)).setCell ⟨gb603, 2, none⟩ (.string t607)).setCell ⟨gb604, 0, none⟩ (.bool t608)).setCell ⟨gb604, 1, none⟩ (.string t609)).setCell ⟨gb604, 2, none⟩ (.string t610)).heap[gb604]? = some (.cells #[.bool t608, .string t609, .string t610] 23 (0, 0))) := ⟨bq BK604.out⟩
   have n2_ : Aside0 (Below w.heap.size w ((((((w80.setCell ⟨gb603, 0, none⟩ (.bool t605)).setCell ⟨gb603, 1, none⟩ (.string t606)).setCell ⟨gb603, 2, none⟩ (.string t607)).setCell ⟨gb604, 0, none⟩ (.bool t608)).setCell ⟨gb604, 1, none⟩ (.string t609)).setCell ⟨gb604, 2, none⟩ (.string t610))) := ⟨bz HB.out⟩
   (try clear BK603)
   (try clear BK604)
   (try clear HB)
   generalize ((((((w80.setCell ⟨gb603, 0, none⟩ (.bool t605)).setCell ⟨gb603, 1, none⟩ (.string t606)).setCell ⟨gb603, 2, none⟩ (.string t607)).setCell ⟨gb604, 0, none⟩ (.bool t608)).setCell ⟨gb604, 1, none⟩ (.string t609)).setCell ⟨gb604, 2, none⟩ (.string t610)) = w87 at n0_ n1_ n2_ ⊢
   have BK603 := n0_
   have BK604 := n1_
   have HB := n2_
   clear n0_ n1_ n2_
   replace BK603 := Aside0.mk (blk_drew BK603.out)
   replace BK604 := Aside0.mk (blk_drew BK604.out)
   replace HB := Aside0.mk (below_drew1 HB.out)
   refine start_ (n := 6) (S := fun w' => w'.cell? ⟨gb603, 0, none⟩ = some (.bool t605) ∧ w'.cell? ⟨gb603, 1, none⟩ = some (.string t606) ∧ w'.cell? ⟨gb603, 2, none⟩ = some (.string t607) ∧ w'.cell? ⟨gb604, 0, none⟩ = some (.bool t608) ∧ w'.cell? ⟨gb604, 1, none⟩ = some (.string t609) ∧ w'.cell? ⟨gb604, 2, none⟩ = some (.string t610)) (ds := []) #[false, false, false, false, false, false] (by kernel_rfl) rfl rfl ⟨(blk_cell BK603.out 0).trans rfl, (blk_cell BK603.out 1).trans rfl, (blk_cell BK603.out 2).trans rfl, (blk_cell BK604.out 0).trans rfl, (blk_cell BK604.out 1).trans rfl, (blk_cell BK604.out 2).trans rfl⟩ (fun hHeld => ?_)
   generalize w87.drew = w88 at BK603 BK604 HB hHeld ⊢
   refine take_ (i := 0) (N := some 12) (v := ?_) (a' := ?_) #[true, false, false, false, false, false] rfl rfl (by kernel_rfl) (fun _ _ _ h => h) (Or.inl ⟨by rfl, ?_⟩) hHeld ?_ ?_
   rotate_left
   ·rintro w' ⟨s0, s1, s2, s3, s4, s5⟩
    go_simp
    with_reducible rfl
   rotate_left
   ·simp only [Act.put, List.setIfInBounds_toArray, List.set_cons_zero, List.set_cons_succ, i64_w, i32_w]
    rfl
   refine take_ (i := 2) (N := some 14) (v := ?_) (a' := ?_) #[true, false, true, false, false, false] rfl rfl (by kernel_rfl) (fun _ _ _ h => h) (Or.inl ⟨by rfl, ?_⟩) hHeld ?_ ?_
   rotate_left
   ·rintro w' ⟨s0, s1, s2, s3, s4, s5⟩
    go_simp
    with_reducible rfl
   rotate_left
   ·simp only [Act.put, List.setIfInBounds_toArray, List.set_cons_zero, List.set_cons_succ, i64_w, i32_w]
    rfl
   refine one_ (i := 1) (N := some 13) #[true, true, true, false, false, false] rfl rfl (by kernel_rfl) (by decide) (fun K hK => ?_)
   refine goes_ Tryd.func38 (by kernel_rfl) rfl #[.agg #[.bool t605, .string t606, .string t607]] (by rfl) rfl rfl (by (try simp only [List.map_toArray, List.map_cons, List.map_nil]); first | done | rfl | (simp only [List.length_drop, List.length_take]; rfl)) ?_
   with_reducible refine (rational_signOf.calls t605 t606 t607 t611 _ A5.out).mono ?_
   rintro e w89 ⟨rfl, hb⟩
   refine ⟨_, rfl, ?_⟩
   replace BK603 := Aside0.mk (bk0 BK603.out hb)
   replace BK604 := Aside0.mk (bk0 BK604.out hb)
   replace HB := Aside0.mk (bs HB.out hb)
   (try clear hb)
   (try clear hb2)
   (try clear hk)
   (try clear hi)
   refine hK.out _ _ ⟨(blk_cell BK603.out 0).trans rfl, (blk_cell BK603.out 1).trans rfl, (blk_cell BK603.out 2).trans rfl, (blk_cell BK604.out 0).trans rfl, (blk_cell BK604.out 1).trans rfl, (blk_cell BK604.out 2).trans rfl⟩ (fun hHeld => ?_)
   clear hK K
   refine norm_ (a' := ?_) ?_ ?_
   rotate_left
   ·show Act.put _ (some 13) _ = _
    simp only [Act.put, List.setIfInBounds_toArray, List.set_cons_zero, List.set_cons_succ, i64_w, i32_w]
    rfl
   refine one_ (i := 3) (N := some 15) #[true, true, true, true, false, false] rfl rfl (by kernel_rfl) (by decide) (fun K hK => ?_)
   refine goes_ Tryd.func38 (by kernel_rfl) rfl #[.agg #[.bool t608, .string t609, .string t610]] (by rfl) rfl rfl (by (try simp only [List.map_toArray, List.map_cons, List.map_nil]); first | done | rfl | (simp only [List.length_drop, List.length_take]; rfl)) ?_
   with_reducible refine (rational_signOf.calls t608 t609 t610 t612 _ A6.out).mono ?_
   rintro e w90 ⟨rfl, hb⟩
   refine ⟨_, rfl, ?_⟩
   replace BK603 := Aside0.mk (bk0 BK603.out hb)
   replace BK604 := Aside0.mk (bk0 BK604.out hb)
   replace HB := Aside0.mk (bs HB.out hb)
   (try clear hb)
   (try clear hb2)
   (try clear hk)
   (try clear hi)
   refine hK.out _ _ ⟨(blk_cell BK603.out 0).trans rfl, (blk_cell BK603.out 1).trans rfl, (blk_cell BK603.out 2).trans rfl, (blk_cell BK604.out 0).trans rfl, (blk_cell BK604.out 1).trans rfl, (blk_cell BK604.out 2).trans rfl⟩ (fun hHeld => ?_)
   clear hK K
   refine norm_ (a' := ?_) ?_ ?_
   rotate_left
   ·show Act.put _ (some 15) _ = _
    simp only [Act.put, List.setIfInBounds_toArray, List.set_cons_zero, List.set_cons_succ, i64_w, i32_w]
    rfl
   refine pure_ (i := 4) (N := some 5) (v := ?_) (a' := ?_) #[true, true, true, true, true, false] rfl rfl (by kernel_rfl) (fun _ _ _ h => h) (Or.inl ⟨by rfl, ?_⟩) ?_ ?_
   rotate_left
   ·intro w'
    go_simp
    with_reducible rfl
   rotate_left
   ·simp only [Act.put, List.setIfInBounds_toArray, List.set_cons_zero, List.set_cons_succ, i64_w, i32_w]
    rfl
   refine pure_ (i := 5) (N := some 6) (v := ?_) (a' := ?_) #[true, true, true, true, true, true] rfl rfl (by kernel_rfl) (fun _ _ _ h => h) (Or.inl ⟨by rfl, ?_⟩) ?_ ?_
   rotate_left
   ·intro w'
    go_simp
    with_reducible rfl
   rotate_left
   ·simp only [Act.put, List.setIfInBounds_toArray, List.set_cons_zero, List.set_cons_succ, i64_w, i32_w]
    rfl
   refine done_ (by kernel_rfl) ?_
   try go_wp2
   go_ret
   exact ⟨fe, bz HB.out⟩

end Go.Proofs.YtgepdnoaemeofaaDoor.E
