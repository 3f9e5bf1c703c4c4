/- Printed by a program of this session (wip/tools) out of the translation: plain functions and the proofs that the code comes to their answers. -/
import Derived.Test.YtgepdnoaemeofaaGreatDoorXRationalTruncated4
namespace Go.Proofs.YtgepdnoaemeofaaGreatDoor.A
open Go.RowKit Go.Proofs.YtgepdnoaemeofaaGreatDoorW.PrintWords Go.Proofs.YtgepdnoaemeofaaGreatDoorW.PrintLast Go.Proofs.YtgepdnoaemeofaaGreatDoorW.PrintMore Go.Proofs.YtgepdnoaemeofaaGreatDoorW.PK
attribute [local go_sem] max2_int min2_int max_two min_two max_three min_three max_four min_four   -- for this text's walks alone
set_option linter.unusedVariables false
set_option linter.unusedSimpArgs false

/-! ### rational_Compare: function 47 -/
def rational_Compare.f (k : Nat) (a0_0 : Bool) (a0_1 : ByteArray) (a0_2 : ByteArray) (a1_0 : Bool) (a1_1 : ByteArray) (a1_2 : ByteArray) : Option (Int) := (rational_clean.f k a0_0 a0_1 a0_2).bind fun bt1243 => ((rational_clean.f k a1_0 a1_1 a1_2).bind fun bt1246 => ((rational_signOf.f bt1243.1 bt1243.2.1 bt1243.2.2).bind fun t1249 => ((rational_signOf.f bt1246.1 bt1246.2.1 bt1246.2.2).bind fun t1250 => (if t1249 = t1250 then ((rational_den.f bt1246.1 bt1246.2.1 bt1246.2.2).bind fun t1251 => ((natural_Multiply.f k bt1243.2.1 t1251).bind fun t1252 => ((rational_den.f bt1243.1 bt1243.2.1 bt1243.2.2).bind fun t1253 => ((natural_Multiply.f k bt1246.2.1 t1253).bind fun t1254 => ((natural_Compare.f k t1252 t1254).bind fun t1255 => (if bt1243.1 = true then (some (wrap64 (-t1255))) else (some t1255))))))) else (if t1249 < t1250 then (some (-1)) else (some 1))))))
def rational_Compare.T7 : Bool × List (List Nat × List Nat) := (true, [([], []), ([0], [0]), ([], []), ([2], [2]), ([1, 3, 3], [1, 3]), ([], []), ([5], [5]), ([], []), ([7, 4], [7]), ([6, 8, 8], [6, 8]), ([4, 9, 9], [4, 9]), ([10, 10, 0, 1, 2, 3, 4, 5, 6, 7, 8, 9, 10], [10])])
def rational_Compare.B7 : List Nat := [0, 1, 0, 4, 15, 0, 32, 0, 159, 511, 1023, 2047]
theorem rational_Compare.tab7 : rtab .any (opsOf Tryz.f47 7) = rational_Compare.T7 := by kernel_rfl
theorem rational_Compare.bits7 : waitsOk rational_Compare.T7.2 rational_Compare.B7 = true := by kernel_rfl
set_option maxHeartbeats 8000000 in
set_option maxRecDepth 100000 in
theorem rational_Compare.calls (k : Nat) (a0_0 : Bool) (a0_1 : ByteArray) (a0_2 : ByteArray) (a1_0 : Bool) (a1_1 : ByteArray) (a1_2 : ByteArray) (r : Int) (w : World) (h : rational_Compare.f k a0_0 a0_1 a0_2 a1_0 a1_1 a1_2 = some r) :
  Calls Tryz.prog 47 #[.agg #[.bool a0_0, .string a0_1, .string a0_2], .agg #[.bool a1_0, .string a1_1, .string a1_2]] w fun e w' => e = .returned (.int .i64 r) ∧ Below w.heap.size w w' := by
 have hu24 := Tryz.underlying24
 have HB := Aside0.mk (Below.refl w.heap.size w)
 have H := h
 clear h
 unfold rational_Compare.f at H
 obtain ⟨⟨t1243, t1244, t1245⟩, A3, H⟩ := bs1 H; dsimp only at H
 obtain ⟨⟨t1246, t1247, t1248⟩, A4, H⟩ := bs1 H; dsimp only at H
 obtain ⟨t1249, A5, H⟩ := bs1 H
 obtain ⟨t1250, A6, H⟩ := bs1 H
 by_cases c7 : t1249 = t1250
 ·rw [if_pos c7] at H
  have c7b0 := beq_iff_eq.mpr c7
  have c7b1 := bne_eq_false_iff_eq.mpr c7
  clear c7
  obtain ⟨t1251, A8, H⟩ := bs1 H
  obtain ⟨t1252, A9, H⟩ := bs1 H
  obtain ⟨t1253, A10, H⟩ := bs1 H
  obtain ⟨t1254, A11, H⟩ := bs1 H
  obtain ⟨t1255, A12, H⟩ := bs1 H
  by_cases c13 : t1243 = true
  ·subst c13
   have H1 : (some (wrap64 (-t1255))) = some r := by rw [if_pos rfl] at H; exact H
   clear H
   have H := H1
   clear H1
   obtain rfl := Option.some.inj H
   go_enter Tryz.func47, Tryz.ntmps47
   try go_wp2_with (first | ((with_reducible refine gd 2 rfl ?_); refine bx 2 (#[.bool a0_0, .string a0_1, .string a0_2]) 24 ?_; intro gb1241 hg w14 hbox hb; have BK1241 := Aside0.mk (hbox); have GW1241 := sg hg HB.out; have GE1241 := sg hg HB.out; replace HB := Aside0.mk (bs HB.out hb); clear hb hbox hg) | ((with_reducible refine gd 3 rfl ?_); refine bx 3 (#[.bool a1_0, .string a1_1, .string a1_2]) 24 ?_; intro gb1242 hg w15 hbox hb; have BK1242 := Aside0.mk (hbox); have GW1242 := sg hg HB.out; have GE1242 := sg hg HB.out; replace HB := Aside0.mk (bs HB.out hb); have NB1241_1242 := nl hg BK1241.out; have NB1242_1241 := nr hg BK1241.out; replace BK1241 := Aside0.mk (bk0 BK1241.out hb); clear hb hbox hg))
   replace BK1241 := Aside0.mk (blk_drew BK1241.out)
   replace BK1242 := Aside0.mk (blk_drew BK1242.out)
   replace HB := Aside0.mk (below_drew1 HB.out)
   refine start_ (n := 6) (S := fun w' => w'.cell? ⟨gb1241, 0, none⟩ = some (.bool a0_0) ∧ w'.cell? ⟨gb1241, 1, none⟩ = some (.string a0_1) ∧ w'.cell? ⟨gb1241, 2, none⟩ = some (.string a0_2) ∧ w'.cell? ⟨gb1242, 0, none⟩ = some (.bool a1_0) ∧ w'.cell? ⟨gb1242, 1, none⟩ = some (.string a1_1) ∧ w'.cell? ⟨gb1242, 2, none⟩ = some (.string a1_2)) (ds := [4, 5]) #[false, false, false, false, false, false] (by kernel_rfl) rfl rfl ⟨(blk_cell BK1241.out 0).trans rfl, (blk_cell BK1241.out 1).trans rfl, (blk_cell BK1241.out 2).trans rfl, (blk_cell BK1242.out 0).trans rfl, (blk_cell BK1242.out 1).trans rfl, (blk_cell BK1242.out 2).trans rfl⟩ (fun hHeld => ?_)
   generalize w15.drew = w16 at BK1241 BK1242 HB hHeld ⊢
   refine take_ (i := 0) (N := some 8) (v := ?_) (a' := ?_) #[true, false, false, false, false, false] rfl rfl (by kernel_rfl) (fun _ _ _ h => h) (Or.inl ⟨by rfl, ?_⟩) hHeld ?_ ?_
   rotate_left
   ·rintro w' ⟨s0, s1, s2, s3, s4, s5⟩
    go_simp
    with_reducible rfl
   rotate_left
   ·simp only [Act.put, List.setIfInBounds_toArray, List.set_cons_zero, List.set_cons_succ, i64_w, i32_w]
    rfl
   refine take_ (i := 2) (N := some 10) (v := ?_) (a' := ?_) #[true, false, true, false, false, false] rfl rfl (by kernel_rfl) (fun _ _ _ h => h) (Or.inl ⟨by rfl, ?_⟩) hHeld ?_ ?_
   rotate_left
   ·rintro w' ⟨s0, s1, s2, s3, s4, s5⟩
    go_simp
    with_reducible rfl
   rotate_left
   ·simp only [Act.put, List.setIfInBounds_toArray, List.set_cons_zero, List.set_cons_succ, i64_w, i32_w]
    rfl
   refine one_ (i := 1) (N := some 9) #[true, true, true, false, false, false] rfl rfl (by kernel_rfl) (by decide) (fun K hK => ?_)
   refine gs Tryz.func73 #[.agg #[.bool a0_0, .string a0_1, .string a0_2]] ?_
   with_reducible refine (rational_clean.calls k a0_0 a0_1 a0_2 true t1244 t1245 _ A3.out).mono ?_
   rintro e w17 ⟨rfl, hb⟩
   refine ⟨_, rfl, ?_⟩
   replace BK1241 := Aside0.mk (bk0 BK1241.out hb)
   replace BK1242 := Aside0.mk (bk0 BK1242.out hb)
   replace HB := Aside0.mk (bs HB.out hb)
   (try clear hb)
   refine hK.out _ _ ⟨(blk_cell BK1241.out 0).trans rfl, (blk_cell BK1241.out 1).trans rfl, (blk_cell BK1241.out 2).trans rfl, (blk_cell BK1242.out 0).trans rfl, (blk_cell BK1242.out 1).trans rfl, (blk_cell BK1242.out 2).trans rfl⟩ (fun hHeld => ?_)
   clear hK K
   refine nm ?_
   refine one_ (i := 3) (N := some 11) #[true, true, true, true, false, false] rfl rfl (by kernel_rfl) (by decide) (fun K hK => ?_)
   refine gs Tryz.func73 #[.agg #[.bool a1_0, .string a1_1, .string a1_2]] ?_
   with_reducible refine (rational_clean.calls k a1_0 a1_1 a1_2 t1246 t1247 t1248 _ A4.out).mono ?_
   rintro e w18 ⟨rfl, hb⟩
   refine ⟨_, rfl, ?_⟩
   replace BK1241 := Aside0.mk (bk0 BK1241.out hb)
   replace BK1242 := Aside0.mk (bk0 BK1242.out hb)
   replace HB := Aside0.mk (bs HB.out hb)
   (try clear hb)
   refine hK.out _ _ ⟨(blk_cell BK1241.out 0).trans rfl, (blk_cell BK1241.out 1).trans rfl, (blk_cell BK1241.out 2).trans rfl, (blk_cell BK1242.out 0).trans rfl, (blk_cell BK1242.out 1).trans rfl, (blk_cell BK1242.out 2).trans rfl⟩ (fun hHeld => ?_)
   clear hK K
   refine nm ?_
   refine last_ (i := 4) (N := none) #[true, true, true, true, true, false] rfl rfl (by kernel_rfl) (by decide) (fun K hK => ?_)
   have hs19 : w18.cell? ⟨gb1241, 0, none⟩ = some (.bool a0_0) := (blk_cell BK1241.out 0).trans rfl
   have hfs19 := blk_frozen BK1241.out 0
   have hns19_1 := NB1242_1241.out
   have hms19_1 := NB1241_1242.out
   have hs20 : w18.cell? ⟨gb1241, 1, none⟩ = some (.string a0_1) := (blk_cell BK1241.out 1).trans rfl
   have hfs20 := blk_frozen BK1241.out 1
   have hns20_1 := NB1242_1241.out
   have hms20_1 := NB1241_1242.out
   have hs21 : w18.cell? ⟨gb1241, 2, none⟩ = some (.string a0_2) := (blk_cell BK1241.out 2).trans rfl
   have hfs21 := blk_frozen BK1241.out 2
   have hns21_1 := NB1242_1241.out
   have hms21_1 := NB1241_1242.out
   refine skip_ (w1 := ?_) (by rfl) rfl ?_ ?_
   rotate_left
   ·go_simp
    rfl
   refine hK.out _ _ ?_
   clear hK K
   refine last_ (i := 5) (N := none) #[true, true, true, true, true, true] rfl rfl (by kernel_rfl) (by decide) (fun K hK => ?_)
   have hs22 : w18.cell? ⟨gb1242, 0, none⟩ = some (.bool a1_0) := (blk_cell BK1242.out 0).trans rfl
   have hfs22 := blk_frozen BK1242.out 0
   have hns22_0 := NB1241_1242.out
   have hms22_0 := NB1242_1241.out
   have hs23 : w18.cell? ⟨gb1242, 1, none⟩ = some (.string a1_1) := (blk_cell BK1242.out 1).trans rfl
   have hfs23 := blk_frozen BK1242.out 1
   have hns23_0 := NB1241_1242.out
   have hms23_0 := NB1242_1241.out
   have hs24 : w18.cell? ⟨gb1242, 2, none⟩ = some (.string a1_2) := (blk_cell BK1242.out 2).trans rfl
   have hfs24 := blk_frozen BK1242.out 2
   have hns24_0 := NB1241_1242.out
   have hms24_0 := NB1242_1241.out
   refine skip_ (w1 := ?_) (by rfl) rfl ?_ ?_
   rotate_left
   ·go_simp
    rfl
   refine hK.out _ _ ?_
   clear hK K
   refine done_ (by kernel_rfl) ?_
   try go_wp2
   have n0_ : Aside0 (((((((w18.setCell ⟨gb1241, 0, none⟩ (.bool true)).setCell ⟨gb1241, 1, none⟩ (.string t1244)).setCell ⟨gb1241, 2, none⟩ (.string t1245)).setCell ⟨gb1242, 0, none⟩ (.bool t1246)).setCell ⟨gb1242, 1, none⟩ (.string t1247)).setCell ⟨gb1242, 2, none⟩ (.string t1248)).heap[gb1241]? = some (.cells #[.bool true, .string t1244, .string t1245] 24 (0, 0))) := ⟨bq BK1241.out⟩
   have n1_ : Aside0 (((((((w18.setCell ⟨gb1241, 0, none⟩ (.bool true)).setCell ⟨gb1241, 1, none⟩ (.string t1244)).setCell ⟨gb1241, 2, none⟩ (.string t1245)).setCell ⟨gb1242, 0, none⟩ (.bool t1246)).setCell ⟨gb1242, 1, none⟩ (.string t1247)).setCell ⟨gb1242, 2, none⟩ (.string t1248)).heap[gb1242]? = some (.cells #[.bool t1246, .string t1247, .string t1248] 24 (0, 0))) := ⟨bq BK1242.out⟩
   have n2_ : Aside0 (Below w.heap.size w ((((((w18.setCell ⟨gb1241, 0, none⟩ (.bool true)).setCell ⟨gb1241, 1, none⟩ (.string t1244)).setCell ⟨gb1241, 2, none⟩ (.string t1245)).setCell ⟨gb1242, 0, none⟩ (.bool t1246)).setCell ⟨gb1242, 1, none⟩ (.string t1247)).setCell ⟨gb1242, 2, none⟩ (.string t1248))) := ⟨bz HB.out⟩
   (try clear BK1241); (try clear BK1242); (try clear HB)
   generalize ((((((w18.setCell ⟨gb1241, 0, none⟩ (.bool true)).setCell ⟨gb1241, 1, none⟩ (.string t1244)).setCell ⟨gb1241, 2, none⟩ (.string t1245)).setCell ⟨gb1242, 0, none⟩ (.bool t1246)).setCell ⟨gb1242, 1, none⟩ (.string t1247)).setCell ⟨gb1242, 2, none⟩ (.string t1248)) = w25 at n0_ n1_ n2_ ⊢
   have BK1241 := n0_
   have BK1242 := n1_
   have HB := n2_
   clear n0_ n1_ n2_
   replace BK1241 := Aside0.mk (blk_drew BK1241.out)
   replace BK1242 := Aside0.mk (blk_drew BK1242.out)
   replace HB := Aside0.mk (below_drew1 HB.out)
   refine start_ (n := 6) (S := fun w' => w'.cell? ⟨gb1241, 0, none⟩ = some (.bool true) ∧ w'.cell? ⟨gb1241, 1, none⟩ = some (.string t1244) ∧ w'.cell? ⟨gb1241, 2, none⟩ = some (.string t1245) ∧ w'.cell? ⟨gb1242, 0, none⟩ = some (.bool t1246) ∧ w'.cell? ⟨gb1242, 1, none⟩ = some (.string t1247) ∧ w'.cell? ⟨gb1242, 2, none⟩ = some (.string t1248)) (ds := []) #[false, false, false, false, false, false] (by kernel_rfl) rfl rfl ⟨(blk_cell BK1241.out 0).trans rfl, (blk_cell BK1241.out 1).trans rfl, (blk_cell BK1241.out 2).trans rfl, (blk_cell BK1242.out 0).trans rfl, (blk_cell BK1242.out 1).trans rfl, (blk_cell BK1242.out 2).trans rfl⟩ (fun hHeld => ?_)
   generalize w25.drew = w26 at BK1241 BK1242 HB hHeld ⊢
   refine take_ (i := 0) (N := some 12) (v := ?_) (a' := ?_) #[true, false, false, false, false, false] rfl rfl (by kernel_rfl) (fun _ _ _ h => h) (Or.inl ⟨by rfl, ?_⟩) hHeld ?_ ?_
   rotate_left
   ·rintro w' ⟨s0, s1, s2, s3, s4, s5⟩
    go_simp
    with_reducible rfl
   rotate_left
   ·simp only [Act.put, List.setIfInBounds_toArray, List.set_cons_zero, List.set_cons_succ, i64_w, i32_w]
    rfl
   refine take_ (i := 2) (N := some 14) (v := ?_) (a' := ?_) #[true, false, true, false, false, false] rfl rfl (by kernel_rfl) (fun _ _ _ h => h) (Or.inl ⟨by rfl, ?_⟩) hHeld ?_ ?_
   rotate_left
   ·rintro w' ⟨s0, s1, s2, s3, s4, s5⟩
    go_simp
    with_reducible rfl
   rotate_left
   ·simp only [Act.put, List.setIfInBounds_toArray, List.set_cons_zero, List.set_cons_succ, i64_w, i32_w]
    rfl
   refine one_ (i := 1) (N := some 13) #[true, true, true, false, false, false] rfl rfl (by kernel_rfl) (by decide) (fun K hK => ?_)
   refine gs Tryz.func98 #[.agg #[.bool true, .string t1244, .string t1245]] ?_
   with_reducible refine (rational_signOf.calls true t1244 t1245 t1249 _ A5.out).mono ?_
   rintro e w27 ⟨rfl, hb⟩
   refine ⟨_, rfl, ?_⟩
   replace BK1241 := Aside0.mk (bk0 BK1241.out hb)
   replace BK1242 := Aside0.mk (bk0 BK1242.out hb)
   replace HB := Aside0.mk (bs HB.out hb)
   (try clear hb)
   refine hK.out _ _ ⟨(blk_cell BK1241.out 0).trans rfl, (blk_cell BK1241.out 1).trans rfl, (blk_cell BK1241.out 2).trans rfl, (blk_cell BK1242.out 0).trans rfl, (blk_cell BK1242.out 1).trans rfl, (blk_cell BK1242.out 2).trans rfl⟩ (fun hHeld => ?_)
   clear hK K
   refine nm ?_
   refine one_ (i := 3) (N := some 15) #[true, true, true, true, false, false] rfl rfl (by kernel_rfl) (by decide) (fun K hK => ?_)
   refine gs Tryz.func98 #[.agg #[.bool t1246, .string t1247, .string t1248]] ?_
   with_reducible refine (rational_signOf.calls t1246 t1247 t1248 t1250 _ A6.out).mono ?_
   rintro e w28 ⟨rfl, hb⟩
   refine ⟨_, rfl, ?_⟩
   replace BK1241 := Aside0.mk (bk0 BK1241.out hb)
   replace BK1242 := Aside0.mk (bk0 BK1242.out hb)
   replace HB := Aside0.mk (bs HB.out hb)
   (try clear hb)
   refine hK.out _ _ ⟨(blk_cell BK1241.out 0).trans rfl, (blk_cell BK1241.out 1).trans rfl, (blk_cell BK1241.out 2).trans rfl, (blk_cell BK1242.out 0).trans rfl, (blk_cell BK1242.out 1).trans rfl, (blk_cell BK1242.out 2).trans rfl⟩ (fun hHeld => ?_)
   clear hK K
   refine nm ?_
   refine pure_ (i := 4) (N := some 5) (v := ?_) (a' := ?_) #[true, true, true, true, true, false] rfl rfl (by kernel_rfl) (fun _ _ _ h => h) (Or.inl ⟨by rfl, ?_⟩) ?_ ?_
   rotate_left
   ·intro w'
    go_simp
    with_reducible rfl
   rotate_left
   ·simp only [Act.put, List.setIfInBounds_toArray, List.set_cons_zero, List.set_cons_succ, i64_w, i32_w]
    rfl
   refine pure_ (i := 5) (N := some 6) (v := ?_) (a' := ?_) #[true, true, true, true, true, true] rfl rfl (by kernel_rfl) (fun _ _ _ h => h) (Or.inl ⟨by rfl, ?_⟩) ?_ ?_
   rotate_left
   ·intro w'
    go_simp
    with_reducible rfl
   rotate_left
   ·simp only [Act.put, List.setIfInBounds_toArray, List.set_cons_zero, List.set_cons_succ, i64_w, i32_w]
    rfl
   refine done_ (by kernel_rfl) ?_
   try go_wp2
   replace BK1241 := Aside0.mk (blk_drew BK1241.out)
   replace BK1242 := Aside0.mk (blk_drew BK1242.out)
   replace HB := Aside0.mk (below_drew1 HB.out)
   refine start_ (n := 12) (S := fun w' => w'.cell? ⟨gb1241, 0, none⟩ = some (.bool true) ∧ w'.cell? ⟨gb1241, 1, none⟩ = some (.string t1244) ∧ w'.cell? ⟨gb1241, 2, none⟩ = some (.string t1245) ∧ w'.cell? ⟨gb1242, 0, none⟩ = some (.bool t1246) ∧ w'.cell? ⟨gb1242, 1, none⟩ = some (.string t1247) ∧ w'.cell? ⟨gb1242, 2, none⟩ = some (.string t1248)) (ds := []) #[false, false, false, false, false, false, false, false, false, false, false, false] (by kernel_rfl) rfl rfl ⟨(blk_cell BK1241.out 0).trans rfl, (blk_cell BK1241.out 1).trans rfl, (blk_cell BK1241.out 2).trans rfl, (blk_cell BK1242.out 0).trans rfl, (blk_cell BK1242.out 1).trans rfl, (blk_cell BK1242.out 2).trans rfl⟩ (fun hHeld => ?_); refine with_tabW rational_Compare.tab7 rational_Compare.bits7 (fun HT_ HW_ => ?_)
   generalize w28.drew = w29 at BK1241 BK1242 HB hHeld ⊢
   refine py 0 (some 22) #[true, false, false, false, false, false, false, false, false, false, false, false] HT_ ?_
   refine py 5 (some 27) #[true, false, false, false, false, true, false, false, false, false, false, false] HT_ ?_
   refine take_ (i := 1) (N := some 23) (v := ?_) (a' := ?_) #[true, true, false, false, false, true, false, false, false, false, false, false] rfl rfl (take_ofW HT_.out HW_.out (by kernel_rfl)) (fun _ _ _ h => h) (Or.inl ⟨by rfl, ?_⟩) hHeld ?_ ?_
   rotate_left
   ·rintro w' ⟨s0, s1, s2, s3, s4, s5⟩
    go_simp
    with_reducible rfl
   rotate_left
   ·simp only [Act.put, List.setIfInBounds_toArray, List.set_cons_zero, List.set_cons_succ, i64_w, i32_w]
    rfl
   refine take_ (i := 2) (N := some 24) (v := ?_) (a' := ?_) #[true, true, true, false, false, true, false, false, false, false, false, false] rfl rfl (take_ofW HT_.out HW_.out (by kernel_rfl)) (fun _ _ _ h => h) (Or.inl ⟨by rfl, ?_⟩) hHeld ?_ ?_
   rotate_left
   ·rintro w' ⟨s0, s1, s2, s3, s4, s5⟩
    go_simp
    with_reducible rfl
   rotate_left
   ·simp only [Act.put, List.setIfInBounds_toArray, List.set_cons_zero, List.set_cons_succ, i64_w, i32_w]
    rfl
   refine take_ (i := 6) (N := some 28) (v := ?_) (a' := ?_) #[true, true, true, false, false, true, true, false, false, false, false, false] rfl rfl (take_ofW HT_.out HW_.out (by kernel_rfl)) (fun _ _ _ h => h) (Or.inl ⟨by rfl, ?_⟩) hHeld ?_ ?_
   rotate_left
   ·rintro w' ⟨s0, s1, s2, s3, s4, s5⟩
    go_simp
    with_reducible rfl
   rotate_left
   ·simp only [Act.put, List.setIfInBounds_toArray, List.set_cons_zero, List.set_cons_succ, i64_w, i32_w]
    rfl
   refine take_ (i := 7) (N := some 29) (v := ?_) (a' := ?_) #[true, true, true, false, false, true, true, true, false, false, false, false] rfl rfl (take_ofW HT_.out HW_.out (by kernel_rfl)) (fun _ _ _ h => h) (Or.inl ⟨by rfl, ?_⟩) hHeld ?_ ?_
   rotate_left
   ·rintro w' ⟨s0, s1, s2, s3, s4, s5⟩
    go_simp
    with_reducible rfl
   rotate_left
   ·simp only [Act.put, List.setIfInBounds_toArray, List.set_cons_zero, List.set_cons_succ, i64_w, i32_w]
    rfl
   refine one_ (i := 3) (N := some 25) #[true, true, true, true, false, true, true, true, false, false, false, false] rfl rfl (one_of HT_.out (by kernel_rfl)) (by decide) (fun K hK => ?_)
   refine gs Tryz.func77 #[.agg #[.bool t1246, .string t1247, .string t1248]] ?_
   with_reducible refine (rational_den.calls t1246 t1247 t1248 t1251 _ A8.out).mono ?_
   rintro e w30 ⟨rfl, hb⟩
   refine ⟨_, rfl, ?_⟩
   replace BK1241 := Aside0.mk (bk0 BK1241.out hb)
   replace BK1242 := Aside0.mk (bk0 BK1242.out hb)
   replace HB := Aside0.mk (bs HB.out hb)
   (try clear hb)
   refine hK.out _ _ ⟨(blk_cell BK1241.out 0).trans rfl, (blk_cell BK1241.out 1).trans rfl, (blk_cell BK1241.out 2).trans rfl, (blk_cell BK1242.out 0).trans rfl, (blk_cell BK1242.out 1).trans rfl, (blk_cell BK1242.out 2).trans rfl⟩ (fun hHeld => ?_)
   clear hK K
   refine nm ?_
   refine one_ (i := 4) (N := some 26) #[true, true, true, true, true, true, true, true, false, false, false, false] rfl rfl (one_of HT_.out (by kernel_rfl)) (by decide) (fun K hK => ?_)
   refine gs Tryz.func64 #[.string t1244, .string t1251] ?_
   with_reducible refine (natural_Multiply.calls k t1244 t1251 t1252 _ A9.out).mono ?_
   rintro e w31 ⟨rfl, hb⟩
   refine ⟨_, rfl, ?_⟩
   replace BK1241 := Aside0.mk (bk0 BK1241.out hb)
   replace BK1242 := Aside0.mk (bk0 BK1242.out hb)
   replace HB := Aside0.mk (bs HB.out hb)
   (try clear hb)
   refine hK.out _ _ ⟨(blk_cell BK1241.out 0).trans rfl, (blk_cell BK1241.out 1).trans rfl, (blk_cell BK1241.out 2).trans rfl, (blk_cell BK1242.out 0).trans rfl, (blk_cell BK1242.out 1).trans rfl, (blk_cell BK1242.out 2).trans rfl⟩ (fun hHeld => ?_)
   clear hK K
   refine nm ?_
   refine one_ (i := 8) (N := some 30) #[true, true, true, true, true, true, true, true, true, false, false, false] rfl rfl (one_of HT_.out (by kernel_rfl)) (by decide) (fun K hK => ?_)
   refine gs Tryz.func77 #[.agg #[.bool true, .string t1244, .string t1245]] ?_
   with_reducible refine (rational_den.calls true t1244 t1245 t1253 _ A10.out).mono ?_
   rintro e w32 ⟨rfl, hb⟩
   refine ⟨_, rfl, ?_⟩
   replace BK1241 := Aside0.mk (bk0 BK1241.out hb)
   replace BK1242 := Aside0.mk (bk0 BK1242.out hb)
   replace HB := Aside0.mk (bs HB.out hb)
   (try clear hb)
   refine hK.out _ _ ⟨(blk_cell BK1241.out 0).trans rfl, (blk_cell BK1241.out 1).trans rfl, (blk_cell BK1241.out 2).trans rfl, (blk_cell BK1242.out 0).trans rfl, (blk_cell BK1242.out 1).trans rfl, (blk_cell BK1242.out 2).trans rfl⟩ (fun hHeld => ?_)
   clear hK K
   refine nm ?_
   refine one_ (i := 9) (N := some 31) #[true, true, true, true, true, true, true, true, true, true, false, false] rfl rfl (one_of HT_.out (by kernel_rfl)) (by decide) (fun K hK => ?_)
   refine gs Tryz.func64 #[.string t1247, .string t1253] ?_
   with_reducible refine (natural_Multiply.calls k t1247 t1253 t1254 _ A11.out).mono ?_
   rintro e w33 ⟨rfl, hb⟩
   refine ⟨_, rfl, ?_⟩
   replace BK1241 := Aside0.mk (bk0 BK1241.out hb)
   replace BK1242 := Aside0.mk (bk0 BK1242.out hb)
   replace HB := Aside0.mk (bs HB.out hb)
   (try clear hb)
   refine hK.out _ _ ⟨(blk_cell BK1241.out 0).trans rfl, (blk_cell BK1241.out 1).trans rfl, (blk_cell BK1241.out 2).trans rfl, (blk_cell BK1242.out 0).trans rfl, (blk_cell BK1242.out 1).trans rfl, (blk_cell BK1242.out 2).trans rfl⟩ (fun hHeld => ?_)
   clear hK K
   refine nm ?_
   refine one_ (i := 10) (N := some 32) #[true, true, true, true, true, true, true, true, true, true, true, false] rfl rfl (one_of HT_.out (by kernel_rfl)) (by decide) (fun K hK => ?_)
   refine gs Tryz.func99 #[.string t1252, .string t1254] ?_
   with_reducible refine (natural_Compare.calls k t1252 t1254 t1255 _ A12.out).mono ?_
   rintro e w34 ⟨rfl, hb⟩
   refine ⟨_, rfl, ?_⟩
   replace BK1241 := Aside0.mk (bk0 BK1241.out hb)
   replace BK1242 := Aside0.mk (bk0 BK1242.out hb)
   replace HB := Aside0.mk (bs HB.out hb)
   (try clear hb)
   refine hK.out _ _ ⟨(blk_cell BK1241.out 0).trans rfl, (blk_cell BK1241.out 1).trans rfl, (blk_cell BK1241.out 2).trans rfl, (blk_cell BK1242.out 0).trans rfl, (blk_cell BK1242.out 1).trans rfl, (blk_cell BK1242.out 2).trans rfl⟩ (fun hHeld => ?_)
   clear hK K
   refine nm ?_
   refine py 11 (some 7) #[true, true, true, true, true, true, true, true, true, true, true, true] HT_ ?_
   refine done_ (done_of HT_.out (by kernel_rfl)) ?_
   have hnb35 := NB1241_1242.out
   have hnc35 := NB1242_1241.out
   obtain ⟨hcz36_0, hcz36_1, hcz36_2, hfz36_0, hfz36_1, hfz36_2⟩ := cz BK1241.out
   try go_wp2
   go_ret
   exact ⟨fe, bz HB.out⟩
  ·replace c13 := Bool.eq_false_iff.mpr c13
   subst c13
   have H1 : (some t1255) = some r := by rw [if_neg (show ¬ (false = true) by decide)] at H; exact H
   clear H
   have H := H1
   clear H1
   obtain rfl := Option.some.inj H
   go_enter Tryz.func47, Tryz.ntmps47
   try go_wp2_with (first | ((with_reducible refine gd 2 rfl ?_); refine bx 2 (#[.bool a0_0, .string a0_1, .string a0_2]) 24 ?_; intro gb1241 hg w37 hbox hb; have BK1241 := Aside0.mk (hbox); have GW1241 := sg hg HB.out; have GE1241 := sg hg HB.out; replace HB := Aside0.mk (bs HB.out hb); clear hb hbox hg) | ((with_reducible refine gd 3 rfl ?_); refine bx 3 (#[.bool a1_0, .string a1_1, .string a1_2]) 24 ?_; intro gb1242 hg w38 hbox hb; have BK1242 := Aside0.mk (hbox); have GW1242 := sg hg HB.out; have GE1242 := sg hg HB.out; replace HB := Aside0.mk (bs HB.out hb); have NB1241_1242 := nl hg BK1241.out; have NB1242_1241 := nr hg BK1241.out; replace BK1241 := Aside0.mk (bk0 BK1241.out hb); clear hb hbox hg))
   replace BK1241 := Aside0.mk (blk_drew BK1241.out)
   replace BK1242 := Aside0.mk (blk_drew BK1242.out)
   replace HB := Aside0.mk (below_drew1 HB.out)
   refine start_ (n := 6) (S := fun w' => w'.cell? ⟨gb1241, 0, none⟩ = some (.bool a0_0) ∧ w'.cell? ⟨gb1241, 1, none⟩ = some (.string a0_1) ∧ w'.cell? ⟨gb1241, 2, none⟩ = some (.string a0_2) ∧ w'.cell? ⟨gb1242, 0, none⟩ = some (.bool a1_0) ∧ w'.cell? ⟨gb1242, 1, none⟩ = some (.string a1_1) ∧ w'.cell? ⟨gb1242, 2, none⟩ = some (.string a1_2)) (ds := [4, 5]) #[false, false, false, false, false, false] (by kernel_rfl) rfl rfl ⟨(blk_cell BK1241.out 0).trans rfl, (blk_cell BK1241.out 1).trans rfl, (blk_cell BK1241.out 2).trans rfl, (blk_cell BK1242.out 0).trans rfl, (blk_cell BK1242.out 1).trans rfl, (blk_cell BK1242.out 2).trans rfl⟩ (fun hHeld => ?_)
   generalize w38.drew = w39 at BK1241 BK1242 HB hHeld ⊢
   refine take_ (i := 0) (N := some 8) (v := ?_) (a' := ?_) #[true, false, false, false, false, false] rfl rfl (by kernel_rfl) (fun _ _ _ h => h) (Or.inl ⟨by rfl, ?_⟩) hHeld ?_ ?_
   rotate_left
   ·rintro w' ⟨s0, s1, s2, s3, s4, s5⟩
    go_simp
    with_reducible rfl
   rotate_left
   ·simp only [Act.put, List.setIfInBounds_toArray, List.set_cons_zero, List.set_cons_succ, i64_w, i32_w]
    rfl
   refine take_ (i := 2) (N := some 10) (v := ?_) (a' := ?_) #[true, false, true, false, false, false] rfl rfl (by kernel_rfl) (fun _ _ _ h => h) (Or.inl ⟨by rfl, ?_⟩) hHeld ?_ ?_
   rotate_left
   ·rintro w' ⟨s0, s1, s2, s3, s4, s5⟩
    go_simp
    with_reducible rfl
   rotate_left
   ·simp only [Act.put, List.setIfInBounds_toArray, List.set_cons_zero, List.set_cons_succ, i64_w, i32_w]
    rfl
   refine one_ (i := 1) (N := some 9) #[true, true, true, false, false, false] rfl rfl (by kernel_rfl) (by decide) (fun K hK => ?_)
   refine gs Tryz.func73 #[.agg #[.bool a0_0, .string a0_1, .string a0_2]] ?_
   with_reducible refine (rational_clean.calls k a0_0 a0_1 a0_2 false t1244 t1245 _ A3.out).mono ?_
   rintro e w40 ⟨rfl, hb⟩
   refine ⟨_, rfl, ?_⟩
   replace BK1241 := Aside0.mk (bk0 BK1241.out hb)
   replace BK1242 := Aside0.mk (bk0 BK1242.out hb)
   replace HB := Aside0.mk (bs HB.out hb)
   (try clear hb)
   refine hK.out _ _ ⟨(blk_cell BK1241.out 0).trans rfl, (blk_cell BK1241.out 1).trans rfl, (blk_cell BK1241.out 2).trans rfl, (blk_cell BK1242.out 0).trans rfl, (blk_cell BK1242.out 1).trans rfl, (blk_cell BK1242.out 2).trans rfl⟩ (fun hHeld => ?_)
   clear hK K
   refine nm ?_
   refine one_ (i := 3) (N := some 11) #[true, true, true, true, false, false] rfl rfl (by kernel_rfl) (by decide) (fun K hK => ?_)
   refine gs Tryz.func73 #[.agg #[.bool a1_0, .string a1_1, .string a1_2]] ?_
   with_reducible refine (rational_clean.calls k a1_0 a1_1 a1_2 t1246 t1247 t1248 _ A4.out).mono ?_
   rintro e w41 ⟨rfl, hb⟩
   refine ⟨_, rfl, ?_⟩
   replace BK1241 := Aside0.mk (bk0 BK1241.out hb)
   replace BK1242 := Aside0.mk (bk0 BK1242.out hb)
   replace HB := Aside0.mk (bs HB.out hb)
   (try clear hb)
   refine hK.out _ _ ⟨(blk_cell BK1241.out 0).trans rfl, (blk_cell BK1241.out 1).trans rfl, (blk_cell BK1241.out 2).trans rfl, (blk_cell BK1242.out 0).trans rfl, (blk_cell BK1242.out 1).trans rfl, (blk_cell BK1242.out 2).trans rfl⟩ (fun hHeld => ?_)
   clear hK K
   refine nm ?_
   refine last_ (i := 4) (N := none) #[true, true, true, true, true, false] rfl rfl (by kernel_rfl) (by decide) (fun K hK => ?_)
   have hs42 : w41.cell? ⟨gb1241, 0, none⟩ = some (.bool a0_0) := (blk_cell BK1241.out 0).trans rfl
   have hfs42 := blk_frozen BK1241.out 0
   have hns42_1 := NB1242_1241.out
   have hms42_1 := NB1241_1242.out
   have hs43 : w41.cell? ⟨gb1241, 1, none⟩ = some (.string a0_1) := (blk_cell BK1241.out 1).trans rfl
   have hfs43 := blk_frozen BK1241.out 1
   have hns43_1 := NB1242_1241.out
   have hms43_1 := NB1241_1242.out
   have hs44 : w41.cell? ⟨gb1241, 2, none⟩ = some (.string a0_2) := (blk_cell BK1241.out 2).trans rfl
   have hfs44 := blk_frozen BK1241.out 2
   have hns44_1 := NB1242_1241.out
   have hms44_1 := NB1241_1242.out
   refine skip_ (w1 := ?_) (by rfl) rfl ?_ ?_
   rotate_left
   ·go_simp
    rfl
   refine hK.out _ _ ?_
   clear hK K
   refine last_ (i := 5) (N := none) #[true, true, true, true, true, true] rfl rfl (by kernel_rfl) (by decide) (fun K hK => ?_)
   have hs45 : w41.cell? ⟨gb1242, 0, none⟩ = some (.bool a1_0) := (blk_cell BK1242.out 0).trans rfl
   have hfs45 := blk_frozen BK1242.out 0
   have hns45_0 := NB1241_1242.out
   have hms45_0 := NB1242_1241.out
   have hs46 : w41.cell? ⟨gb1242, 1, none⟩ = some (.string a1_1) := (blk_cell BK1242.out 1).trans rfl
   have hfs46 := blk_frozen BK1242.out 1
   have hns46_0 := NB1241_1242.out
   have hms46_0 := NB1242_1241.out
   have hs47 : w41.cell? ⟨gb1242, 2, none⟩ = some (.string a1_2) := (blk_cell BK1242.out 2).trans rfl
   have hfs47 := blk_frozen BK1242.out 2
   have hns47_0 := NB1241_1242.out
   have hms47_0 := NB1242_1241.out
   refine skip_ (w1 := ?_) (by rfl) rfl ?_ ?_
   rotate_left
   ·go_simp
    rfl
   refine hK.out _ _ ?_
   clear hK K
   refine done_ (by kernel_rfl) ?_
   try go_wp2
   have n0_ : Aside0 (((((((w41.setCell ⟨gb1241, 0, none⟩ (.bool false)).setCell ⟨gb1241, 1, none⟩ (.string t1244)).setCell ⟨gb1241, 2, none⟩ (.string t1245)).setCell ⟨gb1242, 0, none⟩ (.bool t1246)).setCell ⟨gb1242, 1, none⟩ (.string t1247)).setCell ⟨gb1242, 2, none⟩ (.string t1248)).heap[gb1241]? = some (.cells #[.bool false, .string t1244, .string t1245] 24 (0, 0))) := ⟨bq BK1241.out⟩
   have n1_ : Aside0 (((((((w41.setCell ⟨gb1241, 0, none⟩ (.bool false)).setCell ⟨gb1241, 1, none⟩ (.string t1244)).setCell ⟨gb1241, 2, none⟩ (.string t1245)).setCell ⟨gb1242, 0, none⟩ (.bool t1246)).setCell ⟨gb1242, 1, none⟩ (.string t1247)).setCell ⟨gb1242, 2, none⟩ (.string t1248)).heap[gb1242]? = some (.cells #[.bool t1246, .string t1247, .string t1248] 24 (0, 0))) := ⟨bq BK1242.out⟩
   have n2_ : Aside0 (Below w.heap.size w ((((((w41.setCell ⟨gb1241, 0, none⟩ (.bool false)).setCell ⟨gb1241, 1, none⟩ (.string t1244)).setCell ⟨gb1241, 2, none⟩ (.string t1245)).setCell ⟨gb1242, 0, none⟩ (.bool t1246)).setCell ⟨gb1242, 1, none⟩ (.string t1247)).setCell ⟨gb1242, 2, none⟩ (.string t1248))) := ⟨bz HB.out⟩
   (try clear BK1241); (try clear BK1242); (try clear HB)
   generalize ((((((w41.setCell ⟨gb1241, 0, none⟩ (.bool false)).setCell ⟨gb1241, 1, none⟩ (.string t1244)).setCell ⟨gb1241, 2, none⟩ (.string t1245)).setCell ⟨gb1242, 0, none⟩ (.bool t1246)).setCell ⟨gb1242, 1, none⟩ (.string t1247)).setCell ⟨gb1242, 2, none⟩ (.string t1248)) = w48 at n0_ n1_ n2_ ⊢
   have BK1241 := n0_
   have BK1242 := n1_
   have HB := n2_
   clear n0_ n1_ n2_
   replace BK1241 := Aside0.mk (blk_drew BK1241.out)
   replace BK1242 := Aside0.mk (blk_drew BK1242.out)
   replace HB := Aside0.mk (below_drew1 HB.out)
   refine start_ (n := 6) (S := fun w' => w'.cell? ⟨gb1241, 0, none⟩ = some (.bool false) ∧ w'.cell? ⟨gb1241, 1, none⟩ = some (.string t1244) ∧ w'.cell? ⟨gb1241, 2, none⟩ = some (.string t1245) ∧ w'.cell? ⟨gb1242, 0, none⟩ = some (.bool t1246) ∧ w'.cell? ⟨gb1242, 1, none⟩ = some (.string t1247) ∧ w'.cell? ⟨gb1242, 2, none⟩ = some (.string t1248)) (ds := []) #[false, false, false, false, false, false] (by kernel_rfl) rfl rfl ⟨(blk_cell BK1241.out 0).trans rfl, (blk_cell BK1241.out 1).trans rfl, (blk_cell BK1241.out 2).trans rfl, (blk_cell BK1242.out 0).trans rfl, (blk_cell BK1242.out 1).trans rfl, (blk_cell BK1242.out 2).trans rfl⟩ (fun hHeld => ?_)
   generalize w48.drew = w49 at BK1241 BK1242 HB hHeld ⊢
   refine take_ (i := 0) (N := some 12) (v := ?_) (a' := ?_) #[true, false, false, false, false, false] rfl rfl (by kernel_rfl) (fun _ _ _ h => h) (Or.inl ⟨by rfl, ?_⟩) hHeld ?_ ?_
   rotate_left
   ·rintro w' ⟨s0, s1, s2, s3, s4, s5⟩
    go_simp
    with_reducible rfl
   rotate_left
   ·simp only [Act.put, List.setIfInBounds_toArray, List.set_cons_zero, List.set_cons_succ, i64_w, i32_w]
    rfl
   refine take_ (i := 2) (N := some 14) (v := ?_) (a' := ?_) #[true, false, true, false, false, false] rfl rfl (by kernel_rfl) (fun _ _ _ h => h) (Or.inl ⟨by rfl, ?_⟩) hHeld ?_ ?_
   rotate_left
   ·rintro w' ⟨s0, s1, s2, s3, s4, s5⟩
    go_simp
    with_reducible rfl
   rotate_left
   ·simp only [Act.put, List.setIfInBounds_toArray, List.set_cons_zero, List.set_cons_succ, i64_w, i32_w]
    rfl
   refine one_ (i := 1) (N := some 13) #[true, true, true, false, false, false] rfl rfl (by kernel_rfl) (by decide) (fun K hK => ?_)
   refine gs Tryz.func98 #[.agg #[.bool false, .string t1244, .string t1245]] ?_
   with_reducible refine (rational_signOf.calls false t1244 t1245 t1249 _ A5.out).mono ?_
   rintro e w50 ⟨rfl, hb⟩
   refine ⟨_, rfl, ?_⟩
   replace BK1241 := Aside0.mk (bk0 BK1241.out hb)
   replace BK1242 := Aside0.mk (bk0 BK1242.out hb)
   replace HB := Aside0.mk (bs HB.out hb)
   (try clear hb)
   refine hK.out _ _ ⟨(blk_cell BK1241.out 0).trans rfl, (blk_cell BK1241.out 1).trans rfl, (blk_cell BK1241.out 2).trans rfl, (blk_cell BK1242.out 0).trans rfl, (blk_cell BK1242.out 1).trans rfl, (blk_cell BK1242.out 2).trans rfl⟩ (fun hHeld => ?_)
   clear hK K
   refine nm ?_
   refine one_ (i := 3) (N := some 15) #[true, true, true, true, false, false] rfl rfl (by kernel_rfl) (by decide) (fun K hK => ?_)
   refine gs Tryz.func98 #[.agg #[.bool t1246, .string t1247, .string t1248]] ?_
   with_reducible refine (rational_signOf.calls t1246 t1247 t1248 t1250 _ A6.out).mono ?_
   rintro e w51 ⟨rfl, hb⟩
   refine ⟨_, rfl, ?_⟩
   replace BK1241 := Aside0.mk (bk0 BK1241.out hb)
   replace BK1242 := Aside0.mk (bk0 BK1242.out hb)
   replace HB := Aside0.mk (bs HB.out hb)
   (try clear hb)
   refine hK.out _ _ ⟨(blk_cell BK1241.out 0).trans rfl, (blk_cell BK1241.out 1).trans rfl, (blk_cell BK1241.out 2).trans rfl, (blk_cell BK1242.out 0).trans rfl, (blk_cell BK1242.out 1).trans rfl, (blk_cell BK1242.out 2).trans rfl⟩ (fun hHeld => ?_)
   clear hK K
   refine nm ?_
   refine pure_ (i := 4) (N := some 5) (v := ?_) (a' := ?_) #[true, true, true, true, true, false] rfl rfl (by kernel_rfl) (fun _ _ _ h => h) (Or.inl ⟨by rfl, ?_⟩) ?_ ?_
   rotate_left
   ·intro w'
    go_simp
    with_reducible rfl
   rotate_left
   ·simp only [Act.put, List.setIfInBounds_toArray, List.set_cons_zero, List.set_cons_succ, i64_w, i32_w]
    rfl
   refine pure_ (i := 5) (N := some 6) (v := ?_) (a' := ?_) #[true, true, true, true, true, true] rfl rfl (by kernel_rfl) (fun _ _ _ h => h) (Or.inl ⟨by rfl, ?_⟩) ?_ ?_
   rotate_left
   ·intro w'
    go_simp
    with_reducible rfl
   rotate_left
   ·simp only [Act.put, List.setIfInBounds_toArray, List.set_cons_zero, List.set_cons_succ, i64_w, i32_w]
    rfl
   refine done_ (by kernel_rfl) ?_
   try go_wp2
   replace BK1241 := Aside0.mk (blk_drew BK1241.out)
   replace BK1242 := Aside0.mk (blk_drew BK1242.out)
   replace HB := Aside0.mk (below_drew1 HB.out)
   refine start_ (n := 12) (S := fun w' => w'.cell? ⟨gb1241, 0, none⟩ = some (.bool false) ∧ w'.cell? ⟨gb1241, 1, none⟩ = some (.string t1244) ∧ w'.cell? ⟨gb1241, 2, none⟩ = some (.string t1245) ∧ w'.cell? ⟨gb1242, 0, none⟩ = some (.bool t1246) ∧ w'.cell? ⟨gb1242, 1, none⟩ = some (.string t1247) ∧ w'.cell? ⟨gb1242, 2, none⟩ = some (.string t1248)) (ds := []) #[false, false, false, false, false, false, false, false, false, false, false, false] (by kernel_rfl) rfl rfl ⟨(blk_cell BK1241.out 0).trans rfl, (blk_cell BK1241.out 1).trans rfl, (blk_cell BK1241.out 2).trans rfl, (blk_cell BK1242.out 0).trans rfl, (blk_cell BK1242.out 1).trans rfl, (blk_cell BK1242.out 2).trans rfl⟩ (fun hHeld => ?_); refine with_tabW rational_Compare.tab7 rational_Compare.bits7 (fun HT_ HW_ => ?_)
   generalize w51.drew = w52 at BK1241 BK1242 HB hHeld ⊢
   refine py 0 (some 22) #[true, false, false, false, false, false, false, false, false, false, false, false] HT_ ?_
   refine py 5 (some 27) #[true, false, false, false, false, true, false, false, false, false, false, false] HT_ ?_
   refine take_ (i := 1) (N := some 23) (v := ?_) (a' := ?_) #[true, true, false, false, false, true, false, false, false, false, false, false] rfl rfl (take_ofW HT_.out HW_.out (by kernel_rfl)) (fun _ _ _ h => h) (Or.inl ⟨by rfl, ?_⟩) hHeld ?_ ?_
   rotate_left
   ·rintro w' ⟨s0, s1, s2, s3, s4, s5⟩
    go_simp
    with_reducible rfl
   rotate_left
   ·simp only [Act.put, List.setIfInBounds_toArray, List.set_cons_zero, List.set_cons_succ, i64_w, i32_w]
    rfl
   refine take_ (i := 2) (N := some 24) (v := ?_) (a' := ?_) #[true, true, true, false, false, true, false, false, false, false, false, false] rfl rfl (take_ofW HT_.out HW_.out (by kernel_rfl)) (fun _ _ _ h => h) (Or.inl ⟨by rfl, ?_⟩) hHeld ?_ ?_
   rotate_left
   ·rintro w' ⟨s0, s1, s2, s3, s4, s5⟩
    go_simp
    with_reducible rfl
   rotate_left
   ·simp only [Act.put, List.setIfInBounds_toArray, List.set_cons_zero, List.set_cons_succ, i64_w, i32_w]
    rfl
   refine take_ (i := 6) (N := some 28) (v := ?_) (a' := ?_) #[true, true, true, false, false, true, true, false, false, false, false, false] rfl rfl (take_ofW HT_.out HW_.out (by kernel_rfl)) (fun _ _ _ h => h) (Or.inl ⟨by rfl, ?_⟩) hHeld ?_ ?_
   rotate_left
   ·rintro w' ⟨s0, s1, s2, s3, s4, s5⟩
    go_simp
    with_reducible rfl
   rotate_left
   ·simp only [Act.put, List.setIfInBounds_toArray, List.set_cons_zero, List.set_cons_succ, i64_w, i32_w]
    rfl
   refine take_ (i := 7) (N := some 29) (v := ?_) (a' := ?_) #[true, true, true, false, false, true, true, true, false, false, false, false] rfl rfl (take_ofW HT_.out HW_.out (by kernel_rfl)) (fun _ _ _ h => h) (Or.inl ⟨by rfl, ?_⟩) hHeld ?_ ?_
   rotate_left
   ·rintro w' ⟨s0, s1, s2, s3, s4, s5⟩
    go_simp
    with_reducible rfl
   rotate_left
   ·simp only [Act.put, List.setIfInBounds_toArray, List.set_cons_zero, List.set_cons_succ, i64_w, i32_w]
    rfl
   refine one_ (i := 3) (N := some 25) #[true, true, true, true, false, true, true, true, false, false, false, false] rfl rfl (one_of HT_.out (by kernel_rfl)) (by decide) (fun K hK => ?_)
   refine gs Tryz.func77 #[.agg #[.bool t1246, .string t1247, .string t1248]] ?_
   with_reducible refine (rational_den.calls t1246 t1247 t1248 t1251 _ A8.out).mono ?_
   rintro e w53 ⟨rfl, hb⟩
   refine ⟨_, rfl, ?_⟩
   replace BK1241 := Aside0.mk (bk0 BK1241.out hb)
   replace BK1242 := Aside0.mk (bk0 BK1242.out hb)
   replace HB := Aside0.mk (bs HB.out hb)
   (try clear hb)
   refine hK.out _ _ ⟨(blk_cell BK1241.out 0).trans rfl, (blk_cell BK1241.out 1).trans rfl, (blk_cell BK1241.out 2).trans rfl, (blk_cell BK1242.out 0).trans rfl, (blk_cell BK1242.out 1).trans rfl, (blk_cell BK1242.out 2).trans rfl⟩ (fun hHeld => ?_)
   clear hK K
   refine nm ?_
   refine one_ (i := 4) (N := some 26) #[true, true, true, true, true, true, true, true, false, false, false, false] rfl rfl (one_of HT_.out (by kernel_rfl)) (by decide) (fun K hK => ?_)
   refine gs Tryz.func64 #[.string t1244, .string t1251] ?_
   with_reducible refine (natural_Multiply.calls k t1244 t1251 t1252 _ A9.out).mono ?_
   rintro e w54 ⟨rfl, hb⟩
   refine ⟨_, rfl, ?_⟩
   replace BK1241 := Aside0.mk (bk0 BK1241.out hb)
   replace BK1242 := Aside0.mk (bk0 BK1242.out hb)
   replace HB := Aside0.mk (bs HB.out hb)
   (try clear hb)
   refine hK.out _ _ ⟨(blk_cell BK1241.out 0).trans rfl, (blk_cell BK1241.out 1).trans rfl, (blk_cell BK1241.out 2).trans rfl, (blk_cell BK1242.out 0).trans rfl, (blk_cell BK1242.out 1).trans rfl, (blk_cell BK1242.out 2).trans rfl⟩ (fun hHeld => ?_)
   clear hK K
   refine nm ?_
   refine one_ (i := 8) (N := some 30) #[true, true, true, true, true, true, true, true, true, false, false, false] rfl rfl (one_of HT_.out (by kernel_rfl)) (by decide) (fun K hK => ?_)
   refine gs Tryz.func77 #[.agg #[.bool false, .string t1244, .string t1245]] ?_
   with_reducible refine (rational_den.calls false t1244 t1245 t1253 _ A10.out).mono ?_
   rintro e w55 ⟨rfl, hb⟩
   refine ⟨_, rfl, ?_⟩
   replace BK1241 := Aside0.mk (bk0 BK1241.out hb)
   replace BK1242 := Aside0.mk (bk0 BK1242.out hb)
   replace HB := Aside0.mk (bs HB.out hb)
   (try clear hb)
   refine hK.out _ _ ⟨(blk_cell BK1241.out 0).trans rfl, (blk_cell BK1241.out 1).trans rfl, (blk_cell BK1241.out 2).trans rfl, (blk_cell BK1242.out 0).trans rfl, (blk_cell BK1242.out 1).trans rfl, (blk_cell BK1242.out 2).trans rfl⟩ (fun hHeld => ?_)
   clear hK K
   refine nm ?_
   refine one_ (i := 9) (N := some 31) #[true, true, true, true, true, true, true, true, true, true, false, false] rfl rfl (one_of HT_.out (by kernel_rfl)) (by decide) (fun K hK => ?_)
   refine gs Tryz.func64 #[.string t1247, .string t1253] ?_
   with_reducible refine (natural_Multiply.calls k t1247 t1253 t1254 _ A11.out).mono ?_
   rintro e w56 ⟨rfl, hb⟩
   refine ⟨_, rfl, ?_⟩
   replace BK1241 := Aside0.mk (bk0 BK1241.out hb)
   replace BK1242 := Aside0.mk (bk0 BK1242.out hb)
   replace HB := Aside0.mk (bs HB.out hb)
   (try clear hb)
   refine hK.out _ _ ⟨(blk_cell BK1241.out 0).trans rfl, (blk_cell BK1241.out 1).trans rfl, (blk_cell BK1241.out 2).trans rfl, (blk_cell BK1242.out 0).trans rfl, (blk_cell BK1242.out 1).trans rfl, (blk_cell BK1242.out 2).trans rfl⟩ (fun hHeld => ?_)
   clear hK K
   refine nm ?_
   refine one_ (i := 10) (N := some 32) #[true, true, true, true, true, true, true, true, true, true, true, false] rfl rfl (one_of HT_.out (by kernel_rfl)) (by decide) (fun K hK => ?_)
   refine gs Tryz.func99 #[.string t1252, .string t1254] ?_
   with_reducible refine (natural_Compare.calls k t1252 t1254 t1255 _ A12.out).mono ?_
   rintro e w57 ⟨rfl, hb⟩
   refine ⟨_, rfl, ?_⟩
   replace BK1241 := Aside0.mk (bk0 BK1241.out hb)
   replace BK1242 := Aside0.mk (bk0 BK1242.out hb)
   replace HB := Aside0.mk (bs HB.out hb)
   (try clear hb)
   refine hK.out _ _ ⟨(blk_cell BK1241.out 0).trans rfl, (blk_cell BK1241.out 1).trans rfl, (blk_cell BK1241.out 2).trans rfl, (blk_cell BK1242.out 0).trans rfl, (blk_cell BK1242.out 1).trans rfl, (blk_cell BK1242.out 2).trans rfl⟩ (fun hHeld => ?_)
   clear hK K
   refine nm ?_
   refine py 11 (some 7) #[true, true, true, true, true, true, true, true, true, true, true, true] HT_ ?_
   refine done_ (done_of HT_.out (by kernel_rfl)) ?_
   have hnb58 := NB1241_1242.out
   have hnc58 := NB1242_1241.out
   obtain ⟨hcz59_0, hcz59_1, hcz59_2, hfz59_0, hfz59_1, hfz59_2⟩ := cz BK1241.out
   try go_wp2
   go_ret
   exact ⟨fe, bz HB.out⟩
 ·rw [if_neg c7] at H
  have c7b0 := beq_eq_false_iff_ne.mpr c7
  have c7b1 := bne_iff_ne.mpr c7
  by_cases c60 : t1249 < t1250
  ·rw [if_pos c60] at H
   have c60b0 : decide (t1249 < t1250) = true := decide_eq_true c60
   clear c60
   obtain rfl := Option.some.inj H
   go_enter Tryz.func47, Tryz.ntmps47
   try go_wp2_with (first | ((with_reducible refine gd 2 rfl ?_); refine bx 2 (#[.bool a0_0, .string a0_1, .string a0_2]) 24 ?_; intro gb1241 hg w61 hbox hb; have BK1241 := Aside0.mk (hbox); have GW1241 := sg hg HB.out; have GE1241 := sg hg HB.out; replace HB := Aside0.mk (bs HB.out hb); clear hb hbox hg) | ((with_reducible refine gd 3 rfl ?_); refine bx 3 (#[.bool a1_0, .string a1_1, .string a1_2]) 24 ?_; intro gb1242 hg w62 hbox hb; have BK1242 := Aside0.mk (hbox); have GW1242 := sg hg HB.out; have GE1242 := sg hg HB.out; replace HB := Aside0.mk (bs HB.out hb); have NB1241_1242 := nl hg BK1241.out; have NB1242_1241 := nr hg BK1241.out; replace BK1241 := Aside0.mk (bk0 BK1241.out hb); clear hb hbox hg))
   replace BK1241 := Aside0.mk (blk_drew BK1241.out)
   replace BK1242 := Aside0.mk (blk_drew BK1242.out)
   replace HB := Aside0.mk (below_drew1 HB.out)
   refine start_ (n := 6) (S := fun w' => w'.cell? ⟨gb1241, 0, none⟩ = some (.bool a0_0) ∧ w'.cell? ⟨gb1241, 1, none⟩ = some (.string a0_1) ∧ w'.cell? ⟨gb1241, 2, none⟩ = some (.string a0_2) ∧ w'.cell? ⟨gb1242, 0, none⟩ = some (.bool a1_0) ∧ w'.cell? ⟨gb1242, 1, none⟩ = some (.string a1_1) ∧ w'.cell? ⟨gb1242, 2, none⟩ = some (.string a1_2)) (ds := [4, 5]) #[false, false, false, false, false, false] (by kernel_rfl) rfl rfl ⟨(blk_cell BK1241.out 0).trans rfl, (blk_cell BK1241.out 1).trans rfl, (blk_cell BK1241.out 2).trans rfl, (blk_cell BK1242.out 0).trans rfl, (blk_cell BK1242.out 1).trans rfl, (blk_cell BK1242.out 2).trans rfl⟩ (fun hHeld => ?_)
   generalize w62.drew = w63 at BK1241 BK1242 HB hHeld ⊢
   refine take_ (i := 0) (N := some 8) (v := ?_) (a' := ?_) #[true, false, false, false, false, false] rfl rfl (by kernel_rfl) (fun _ _ _ h => h) (Or.inl ⟨by rfl, ?_⟩) hHeld ?_ ?_
   rotate_left
   ·rintro w' ⟨s0, s1, s2, s3, s4, s5⟩
    go_simp
    with_reducible rfl
   rotate_left
   ·simp only [Act.put, List.setIfInBounds_toArray, List.set_cons_zero, List.set_cons_succ, i64_w, i32_w]
    rfl
   refine take_ (i := 2) (N := some 10) (v := ?_) (a' := ?_) #[true, false, true, false, false, false] rfl rfl (by kernel_rfl) (fun _ _ _ h => h) (Or.inl ⟨by rfl, ?_⟩) hHeld ?_ ?_
   rotate_left
   ·rintro w' ⟨s0, s1, s2, s3, s4, s5⟩
    go_simp
    with_reducible rfl
   rotate_left
   ·simp only [Act.put, List.setIfInBounds_toArray, List.set_cons_zero, List.set_cons_succ, i64_w, i32_w]
    rfl
   refine one_ (i := 1) (N := some 9) #[true, true, true, false, false, false] rfl rfl (by kernel_rfl) (by decide) (fun K hK => ?_)
   refine gs Tryz.func73 #[.agg #[.bool a0_0, .string a0_1, .string a0_2]] ?_
   with_reducible refine (rational_clean.calls k a0_0 a0_1 a0_2 t1243 t1244 t1245 _ A3.out).mono ?_
   rintro e w64 ⟨rfl, hb⟩
   refine ⟨_, rfl, ?_⟩
   replace BK1241 := Aside0.mk (bk0 BK1241.out hb)
   replace BK1242 := Aside0.mk (bk0 BK1242.out hb)
   replace HB := Aside0.mk (bs HB.out hb)
   (try clear hb)
   refine hK.out _ _ ⟨(blk_cell BK1241.out 0).trans rfl, (blk_cell BK1241.out 1).trans rfl, (blk_cell BK1241.out 2).trans rfl, (blk_cell BK1242.out 0).trans rfl, (blk_cell BK1242.out 1).trans rfl, (blk_cell BK1242.out 2).trans rfl⟩ (fun hHeld => ?_)
   clear hK K
   refine nm ?_
   refine one_ (i := 3) (N := some 11) #[true, true, true, true, false, false] rfl rfl (by kernel_rfl) (by decide) (fun K hK => ?_)
   refine gs Tryz.func73 #[.agg #[.bool a1_0, .string a1_1, .string a1_2]] ?_
   with_reducible refine (rational_clean.calls k a1_0 a1_1 a1_2 t1246 t1247 t1248 _ A4.out).mono ?_
   rintro e w65 ⟨rfl, hb⟩
   refine ⟨_, rfl, ?_⟩
   replace BK1241 := Aside0.mk (bk0 BK1241.out hb)
   replace BK1242 := Aside0.mk (bk0 BK1242.out hb)
   replace HB := Aside0.mk (bs HB.out hb)
   (try clear hb)
   refine hK.out _ _ ⟨(blk_cell BK1241.out 0).trans rfl, (blk_cell BK1241.out 1).trans rfl, (blk_cell BK1241.out 2).trans rfl, (blk_cell BK1242.out 0).trans rfl, (blk_cell BK1242.out 1).trans rfl, (blk_cell BK1242.out 2).trans rfl⟩ (fun hHeld => ?_)
   clear hK K
   refine nm ?_
   refine last_ (i := 4) (N := none) #[true, true, true, true, true, false] rfl rfl (by kernel_rfl) (by decide) (fun K hK => ?_)
   have hs66 : w65.cell? ⟨gb1241, 0, none⟩ = some (.bool a0_0) := (blk_cell BK1241.out 0).trans rfl
   have hfs66 := blk_frozen BK1241.out 0
   have hns66_1 := NB1242_1241.out
   have hms66_1 := NB1241_1242.out
   have hs67 : w65.cell? ⟨gb1241, 1, none⟩ = some (.string a0_1) := (blk_cell BK1241.out 1).trans rfl
   have hfs67 := blk_frozen BK1241.out 1
   have hns67_1 := NB1242_1241.out
   have hms67_1 := NB1241_1242.out
   have hs68 : w65.cell? ⟨gb1241, 2, none⟩ = some (.string a0_2) := (blk_cell BK1241.out 2).trans rfl
   have hfs68 := blk_frozen BK1241.out 2
   have hns68_1 := NB1242_1241.out
   have hms68_1 := NB1241_1242.out
   refine skip_ (w1 := ?_) (by rfl) rfl ?_ ?_
   rotate_left
   ·go_simp
    rfl
   refine hK.out _ _ ?_
   clear hK K
   refine last_ (i := 5) (N := none) #[true, true, true, true, true, true] rfl rfl (by kernel_rfl) (by decide) (fun K hK => ?_)
   have hs69 : w65.cell? ⟨gb1242, 0, none⟩ = some (.bool a1_0) := (blk_cell BK1242.out 0).trans rfl
   have hfs69 := blk_frozen BK1242.out 0
   have hns69_0 := NB1241_1242.out
   have hms69_0 := NB1242_1241.out
   have hs70 : w65.cell? ⟨gb1242, 1, none⟩ = some (.string a1_1) := (blk_cell BK1242.out 1).trans rfl
   have hfs70 := blk_frozen BK1242.out 1
   have hns70_0 := NB1241_1242.out
   have hms70_0 := NB1242_1241.out
   have hs71 : w65.cell? ⟨gb1242, 2, none⟩ = some (.string a1_2) := (blk_cell BK1242.out 2).trans rfl
   have hfs71 := blk_frozen BK1242.out 2
   have hns71_0 := NB1241_1242.out
   have hms71_0 := NB1242_1241.out
   refine skip_ (w1 := ?_) (by rfl) rfl ?_ ?_
   rotate_left
   ·go_simp
    rfl
   refine hK.out _ _ ?_
   clear hK K
   refine done_ (by kernel_rfl) ?_
   try go_wp2
   have n0_ : Aside0 (((((((w65.setCell ⟨gb1241, 0, none⟩ (.bool t1243)).setCell ⟨gb1241, 1, none⟩ (.string t1244)).setCell ⟨gb1241, 2, none⟩ (.string t1245)).setCell ⟨gb1242, 0, none⟩ (.bool t1246)).setCell ⟨gb1242, 1, none⟩ (.string t1247)).setCell ⟨gb1242, 2, none⟩ (.string t1248)).heap[gb1241]? = some (.cells #[.bool t1243, .string t1244, .string t1245] 24 (0, 0))) := ⟨bq BK1241.out⟩
   have n1_ : Aside0 (((((((w65.setCell ⟨gb1241, 0, none⟩ (.bool t1243)).setCell ⟨gb1241, 1, none⟩ (.string t1244)).setCell ⟨gb1241, 2, none⟩ (.string t1245)).setCell ⟨gb1242, 0, none⟩ (.bool t1246)).setCell ⟨gb1242, 1, none⟩ (.string t1247)).setCell ⟨gb1242, 2, none⟩ (.string t1248)).heap[gb1242]? = some (.cells #[.bool t1246, .string t1247, .string t1248] 24 (0, 0))) := ⟨bq BK1242.out⟩
   have n2_ : Aside0 (Below w.heap.size w ((((((w65.setCell ⟨gb1241, 0, none⟩ (.bool t1243)).setCell ⟨gb1241, 1, none⟩ (.string t1244)).setCell ⟨gb1241, 2, none⟩ (.string t1245)).setCell ⟨gb1242, 0, none⟩ (.bool t1246)).setCell ⟨gb1242, 1, none⟩ (.string t1247)).setCell ⟨gb1242, 2, none⟩ (.string t1248))) := ⟨bz HB.out⟩
   (try clear BK1241); (try clear BK1242); (try clear HB)
   generalize ((((((w65.setCell ⟨gb1241, 0, none⟩ (.bool t1243)).setCell ⟨gb1241, 1, none⟩ (.string t1244)).setCell ⟨gb1241, 2, none⟩ (.string t1245)).setCell ⟨gb1242, 0, none⟩ (.bool t1246)).setCell ⟨gb1242, 1, none⟩ (.string t1247)).setCell ⟨gb1242, 2, none⟩ (.string t1248)) = w72 at n0_ n1_ n2_ ⊢
   have BK1241 := n0_
   have BK1242 := n1_
   have HB := n2_
   clear n0_ n1_ n2_
   replace BK1241 := Aside0.mk (blk_drew BK1241.out)
   replace BK1242 := Aside0.mk (blk_drew BK1242.out)
   replace HB := Aside0.mk (below_drew1 HB.out)
   refine start_ (n := 6) (S := fun w' => w'.cell? ⟨gb1241, 0, none⟩ = some (.bool t1243) ∧ w'.cell? ⟨gb1241, 1, none⟩ = some (.string t1244) ∧ w'.cell? ⟨gb1241, 2, none⟩ = some (.string t1245) ∧ w'.cell? ⟨gb1242, 0, none⟩ = some (.bool t1246) ∧ w'.cell? ⟨gb1242, 1, none⟩ = some (.string t1247) ∧ w'.cell? ⟨gb1242, 2, none⟩ = some (.string t1248)) (ds := []) #[false, false, false, false, false, false] (by kernel_rfl) rfl rfl ⟨(blk_cell BK1241.out 0).trans rfl, (blk_cell BK1241.out 1).trans rfl, (blk_cell BK1241.out 2).trans rfl, (blk_cell BK1242.out 0).trans rfl, (blk_cell BK1242.out 1).trans rfl, (blk_cell BK1242.out 2).trans rfl⟩ (fun hHeld => ?_)
   generalize w72.drew = w73 at BK1241 BK1242 HB hHeld ⊢
   refine take_ (i := 0) (N := some 12) (v := ?_) (a' := ?_) #[true, false, false, false, false, false] rfl rfl (by kernel_rfl) (fun _ _ _ h => h) (Or.inl ⟨by rfl, ?_⟩) hHeld ?_ ?_
   rotate_left
   ·rintro w' ⟨s0, s1, s2, s3, s4, s5⟩
    go_simp
    with_reducible rfl
   rotate_left
   ·simp only [Act.put, List.setIfInBounds_toArray, List.set_cons_zero, List.set_cons_succ, i64_w, i32_w]
    rfl
   refine take_ (i := 2) (N := some 14) (v := ?_) (a' := ?_) #[true, false, true, false, false, false] rfl rfl (by kernel_rfl) (fun _ _ _ h => h) (Or.inl ⟨by rfl, ?_⟩) hHeld ?_ ?_
   rotate_left
   ·rintro w' ⟨s0, s1, s2, s3, s4, s5⟩
    go_simp
    with_reducible rfl
   rotate_left
   ·simp only [Act.put, List.setIfInBounds_toArray, List.set_cons_zero, List.set_cons_succ, i64_w, i32_w]
    rfl
   refine one_ (i := 1) (N := some 13) #[true, true, true, false, false, false] rfl rfl (by kernel_rfl) (by decide) (fun K hK => ?_)
   refine gs Tryz.func98 #[.agg #[.bool t1243, .string t1244, .string t1245]] ?_
   with_reducible refine (rational_signOf.calls t1243 t1244 t1245 t1249 _ A5.out).mono ?_
   rintro e w74 ⟨rfl, hb⟩
   refine ⟨_, rfl, ?_⟩
   replace BK1241 := Aside0.mk (bk0 BK1241.out hb)
   replace BK1242 := Aside0.mk (bk0 BK1242.out hb)
   replace HB := Aside0.mk (bs HB.out hb)
   (try clear hb)
   refine hK.out _ _ ⟨(blk_cell BK1241.out 0).trans rfl, (blk_cell BK1241.out 1).trans rfl, (blk_cell BK1241.out 2).trans rfl, (blk_cell BK1242.out 0).trans rfl, (blk_cell BK1242.out 1).trans rfl, (blk_cell BK1242.out 2).trans rfl⟩ (fun hHeld => ?_)
   clear hK K
   refine nm ?_
   refine one_ (i := 3) (N := some 15) #[true, true, true, true, false, false] rfl rfl (by kernel_rfl) (by decide) (fun K hK => ?_)
   refine gs Tryz.func98 #[.agg #[.bool t1246, .string t1247, .string t1248]] ?_
   with_reducible refine (rational_signOf.calls t1246 t1247 t1248 t1250 _ A6.out).mono ?_
   rintro e w75 ⟨rfl, hb⟩
   refine ⟨_, rfl, ?_⟩
   replace BK1241 := Aside0.mk (bk0 BK1241.out hb)
   replace BK1242 := Aside0.mk (bk0 BK1242.out hb)
   replace HB := Aside0.mk (bs HB.out hb)
   (try clear hb)
   refine hK.out _ _ ⟨(blk_cell BK1241.out 0).trans rfl, (blk_cell BK1241.out 1).trans rfl, (blk_cell BK1241.out 2).trans rfl, (blk_cell BK1242.out 0).trans rfl, (blk_cell BK1242.out 1).trans rfl, (blk_cell BK1242.out 2).trans rfl⟩ (fun hHeld => ?_)
   clear hK K
   refine nm ?_
   refine pure_ (i := 4) (N := some 5) (v := ?_) (a' := ?_) #[true, true, true, true, true, false] rfl rfl (by kernel_rfl) (fun _ _ _ h => h) (Or.inl ⟨by rfl, ?_⟩) ?_ ?_
   rotate_left
   ·intro w'
    go_simp
    with_reducible rfl
   rotate_left
   ·simp only [Act.put, List.setIfInBounds_toArray, List.set_cons_zero, List.set_cons_succ, i64_w, i32_w]
    rfl
   refine pure_ (i := 5) (N := some 6) (v := ?_) (a' := ?_) #[true, true, true, true, true, true] rfl rfl (by kernel_rfl) (fun _ _ _ h => h) (Or.inl ⟨by rfl, ?_⟩) ?_ ?_
   rotate_left
   ·intro w'
    go_simp
    with_reducible rfl
   rotate_left
   ·simp only [Act.put, List.setIfInBounds_toArray, List.set_cons_zero, List.set_cons_succ, i64_w, i32_w]
    rfl
   refine done_ (by kernel_rfl) ?_
   try go_wp2
   go_ret
   exact ⟨fe, bz HB.out⟩
  ·rw [if_neg c60] at H
   have c60b0 : decide (t1249 < t1250) = false := decide_eq_false c60
   clear c60
   obtain rfl := Option.some.inj H
   go_enter Tryz.func47, Tryz.ntmps47
   try go_wp2_with (first | ((with_reducible refine gd 2 rfl ?_); refine bx 2 (#[.bool a0_0, .string a0_1, .string a0_2]) 24 ?_; intro gb1241 hg w76 hbox hb; have BK1241 := Aside0.mk (hbox); have GW1241 := sg hg HB.out; have GE1241 := sg hg HB.out; replace HB := Aside0.mk (bs HB.out hb); clear hb hbox hg) | ((with_reducible refine gd 3 rfl ?_); refine bx 3 (#[.bool a1_0, .string a1_1, .string a1_2]) 24 ?_; intro gb1242 hg w77 hbox hb; have BK1242 := Aside0.mk (hbox); have GW1242 := sg hg HB.out; have GE1242 := sg hg HB.out; replace HB := Aside0.mk (bs HB.out hb); have NB1241_1242 := nl hg BK1241.out; have NB1242_1241 := nr hg BK1241.out; replace BK1241 := Aside0.mk (bk0 BK1241.out hb); clear hb hbox hg))
   replace BK1241 := Aside0.mk (blk_drew BK1241.out)
   replace BK1242 := Aside0.mk (blk_drew BK1242.out)
   replace HB := Aside0.mk (below_drew1 HB.out)
   refine start_ (n := 6) (S := fun w' => w'.cell? ⟨gb1241, 0, none⟩ = some (.bool a0_0) ∧ w'.cell? ⟨gb1241, 1, none⟩ = some (.string a0_1) ∧ w'.cell? ⟨gb1241, 2, none⟩ = some (.string a0_2) ∧ w'.cell? ⟨gb1242, 0, none⟩ = some (.bool a1_0) ∧ w'.cell? ⟨gb1242, 1, none⟩ = some (.string a1_1) ∧ w'.cell? ⟨gb1242, 2, none⟩ = some (.string a1_2)) (ds := [4, 5]) #[false, false, false, false, false, false] (by kernel_rfl) rfl rfl ⟨(blk_cell BK1241.out 0).trans rfl, (blk_cell BK1241.out 1).trans rfl, (blk_cell BK1241.out 2).trans rfl, (blk_cell BK1242.out 0).trans rfl, (blk_cell BK1242.out 1).trans rfl, (blk_cell BK1242.out 2).trans rfl⟩ (fun hHeld => ?_)
   generalize w77.drew = w78 at BK1241 BK1242 HB hHeld ⊢
   refine take_ (i := 0) (N := some 8) (v := ?_) (a' := ?_) #[true, false, false, false, false, false] rfl rfl (by kernel_rfl) (fun _ _ _ h => h) (Or.inl ⟨by rfl, ?_⟩) hHeld ?_ ?_
   rotate_left
   ·rintro w' ⟨s0, s1, s2, s3, s4, s5⟩
    go_simp
    with_reducible rfl
   rotate_left
   ·simp only [Act.put, List.setIfInBounds_toArray, List.set_cons_zero, List.set_cons_succ, i64_w, i32_w]
    rfl
   refine take_ (i := 2) (N := some 10) (v := ?_) (a' := ?_) #[true, false, true, false, false, false] rfl rfl (by kernel_rfl) (fun _ _ _ h => h) (Or.inl ⟨by rfl, ?_⟩) hHeld ?_ ?_
   rotate_left
   ·rintro w' ⟨s0, s1, s2, s3, s4, s5⟩
    go_simp
    with_reducible rfl
   rotate_left
   ·simp only [Act.put, List.setIfInBounds_toArray, List.set_cons_zero, List.set_cons_succ, i64_w, i32_w]
    rfl
   refine one_ (i := 1) (N := some 9) #[true, true, true, false, false, false] rfl rfl (by kernel_rfl) (by decide) (fun K hK => ?_)
   refine gs Tryz.func73 #[.agg #[.bool a0_0, .string a0_1, .string a0_2]] ?_
   with_reducible refine (rational_clean.calls k a0_0 a0_1 a0_2 t1243 t1244 t1245 _ A3.out).mono ?_
   rintro e w79 ⟨rfl, hb⟩
   refine ⟨_, rfl, ?_⟩
   replace BK1241 := Aside0.mk (bk0 BK1241.out hb)
   replace BK1242 := Aside0.mk (bk0 BK1242.out hb)
   replace HB := Aside0.mk (bs HB.out hb)
   (try clear hb)
   refine hK.out _ _ ⟨(blk_cell BK1241.out 0).trans rfl, (blk_cell BK1241.out 1).trans rfl, (blk_cell BK1241.out 2).trans rfl, (blk_cell BK1242.out 0).trans rfl, (blk_cell BK1242.out 1).trans rfl, (blk_cell BK1242.out 2).trans rfl⟩ (fun hHeld => ?_)
   clear hK K
   refine nm ?_
   refine one_ (i := 3) (N := some 11) #[true, true, true, true, false, false] rfl rfl (by kernel_rfl) (by decide) (fun K hK => ?_)
   refine gs Tryz.func73 #[.agg #[.bool a1_0, .string a1_1, .string a1_2]] ?_
   with_reducible refine (rational_clean.calls k a1_0 a1_1 a1_2 t1246 t1247 t1248 _ A4.out).mono ?_
   rintro e w80 ⟨rfl, hb⟩
   refine ⟨_, rfl, ?_⟩
   replace BK1241 := Aside0.mk (bk0 BK1241.out hb)
   replace BK1242 := Aside0.mk (bk0 BK1242.out hb)
   replace HB := Aside0.mk (bs HB.out hb)
   (try clear hb)
   refine hK.out _ _ ⟨(blk_cell BK1241.out 0).trans rfl, (blk_cell BK1241.out 1).trans rfl, (blk_cell BK1241.out 2).trans rfl, (blk_cell BK1242.out 0).trans rfl, (blk_cell BK1242.out 1).trans rfl, (blk_cell BK1242.out 2).trans rfl⟩ (fun hHeld => ?_)
   clear hK K
   refine nm ?_
   refine last_ (i := 4) (N := none) #[true, true, true, true, true, false] rfl rfl (by kernel_rfl) (by decide) (fun K hK => ?_)
   have hs81 : w80.cell? ⟨gb1241, 0, none⟩ = some (.bool a0_0) := (blk_cell BK1241.out 0).trans rfl
   have hfs81 := blk_frozen BK1241.out 0
   have hns81_1 := NB1242_1241.out
   have hms81_1 := NB1241_1242.out
   have hs82 : w80.cell? ⟨gb1241, 1, none⟩ = some (.string a0_1) := (blk_cell BK1241.out 1).trans rfl
   have hfs82 := blk_frozen BK1241.out 1
   have hns82_1 := NB1242_1241.out
   have hms82_1 := NB1241_1242.out
   have hs83 : w80.cell? ⟨gb1241, 2, none⟩ = some (.string a0_2) := (blk_cell BK1241.out 2).trans rfl
   have hfs83 := blk_frozen BK1241.out 2
   have hns83_1 := NB1242_1241.out
   have hms83_1 := NB1241_1242.out
   refine skip_ (w1 := ?_) (by rfl) rfl ?_ ?_
   rotate_left
   ·go_simp
    rfl
   refine hK.out _ _ ?_
   clear hK K
   refine last_ (i := 5) (N := none) #[true, true, true, true, true, true] rfl rfl (by kernel_rfl) (by decide) (fun K hK => ?_)
   have hs84 : w80.cell? ⟨gb1242, 0, none⟩ = some (.bool a1_0) := (blk_cell BK1242.out 0).trans rfl
   have hfs84 := blk_frozen BK1242.out 0
   have hns84_0 := NB1241_1242.out
   have hms84_0 := NB1242_1241.out
   have hs85 : w80.cell? ⟨gb1242, 1, none⟩ = some (.string a1_1) := (blk_cell BK1242.out 1).trans rfl
   have hfs85 := blk_frozen BK1242.out 1
   have hns85_0 := NB1241_1242.out
   have hms85_0 := NB1242_1241.out
   have hs86 : w80.cell? ⟨gb1242, 2, none⟩ = some (.string a1_2) := (blk_cell BK1242.out 2).trans rfl
   have hfs86 := blk_frozen BK1242.out 2
   have hns86_0 := NB1241_1242.out
   have hms86_0 := NB1242_1241.out
   refine skip_ (w1 := ?_) (by rfl) rfl ?_ ?_
   rotate_left
   ·go_simp
    rfl
   refine hK.out _ _ ?_
   clear hK K
   refine done_ (by kernel_rfl) ?_
   try go_wp2
   have n0_ : Aside0 (((((((w80.setCell ⟨gb1241, 0, none⟩ (.bool t1243)).setCell ⟨gb1241, 1, none⟩ (.string t1244)).setCell ⟨gb1241, 2, none⟩ (.string t1245)).setCell ⟨gb1242, 0, none⟩ (.bool t1246)).setCell ⟨gb1242, 1, none⟩ (.string t1247)).setCell ⟨gb1242, 2, none⟩ (.string t1248)).heap[gb1241]? = some (.cells #[.bool t1243, .string t1244, .string t1245] 24 (0, 0))) := ⟨bq BK1241.out⟩
   have n1_ : Aside0 (((((((w80.setCell ⟨gb1241, 0, none⟩ (.bool t1243)).setCell ⟨gb1241, 1, none⟩ (.string t1244)).setCell ⟨gb1241, 2, none⟩ (.string t1245)).setCell ⟨gb1242, 0, none⟩ (.bool t1246)).setCell ⟨gb1242, 1, none⟩ (.string t1247)).setCell ⟨gb1242, 2, none⟩ (.string t1248)).heap[gb1242]? = some (.cells #[.bool t1246, .string t1247, .string t1248] 24 (0, 0))) := ⟨bq BK1242.out⟩
   have n2_ : Aside0 (Below w.heap.size w ((((((w80.setCell ⟨gb1241, 0, none⟩ (.bool t1243)).setCell ⟨gb1241, 1, none⟩ (.string t1244)).setCell ⟨gb1241, 2, none⟩ (.string t1245)).setCell ⟨gb1242, 0, none⟩ (.bool t1246)).setCell ⟨gb1242, 1, none⟩ (.string t1247)).setCell ⟨gb1242, 2, none⟩ (.string t1248))) := ⟨bz HB.out⟩
   (try clear BK1241); (try clear BK1242); (try clear HB)
   generalize ((((((w80.setCell ⟨gb1241, 0, none⟩ (.bool t1243)).setCell ⟨gb1241, 1, none⟩ (.string t1244)).setCell ⟨gb1241, 2, none⟩ (.string t1245)).setCell ⟨gb1242, 0, none⟩ (.bool t1246)).setCell ⟨gb1242, 1, none⟩ (.string t1247)).setCell ⟨gb1242, 2, none⟩ (.string t1248)) = w87 at n0_ n1_ n2_ ⊢
   have BK1241 := n0_
   have BK1242 := n1_
   have HB := n2_
   clear n0_ n1_ n2_
   replace BK1241 := Aside0.mk (blk_drew BK1241.out)
   replace BK1242 := Aside0.mk (blk_drew BK1242.out)
   replace HB := Aside0.mk (below_drew1 HB.out)
   refine start_ (n := 6) (S := fun w' => w'.cell? ⟨gb1241, 0, none⟩ = some (.bool t1243) ∧ w'.cell? ⟨gb1241, 1, none⟩ = some (.string t1244) ∧ w'.cell? ⟨gb1241, 2, none⟩ = some (.string t1245) ∧ w'.cell? ⟨gb1242, 0, none⟩ = some (.bool t1246) ∧ w'.cell? ⟨gb1242, 1, none⟩ = some (.string t1247) ∧ w'.cell? ⟨gb1242, 2, none⟩ = some (.string t1248)) (ds := []) #[false, false, false, false, false, false] (by kernel_rfl) rfl rfl ⟨(blk_cell BK1241.out 0).trans rfl, (blk_cell BK1241.out 1).trans rfl, (blk_cell BK1241.out 2).trans rfl, (blk_cell BK1242.out 0).trans rfl, (blk_cell BK1242.out 1).trans rfl, (blk_cell BK1242.out 2).trans rfl⟩ (fun hHeld => ?_)
   generalize w87.drew = w88 at BK1241 BK1242 HB hHeld ⊢
   refine take_ (i := 0) (N := some 12) (v := ?_) (a' := ?_) #[true, false, false, false, false, false] rfl rfl (by kernel_rfl) (fun _ _ _ h => h) (Or.inl ⟨by rfl, ?_⟩) hHeld ?_ ?_
   rotate_left
   ·rintro w' ⟨s0, s1, s2, s3, s4, s5⟩
    go_simp
    with_reducible rfl
   rotate_left
   ·simp only [Act.put, List.setIfInBounds_toArray, List.set_cons_zero, List.set_cons_succ, i64_w, i32_w]
    rfl
   refine take_ (i := 2) (N := some 14) (v := ?_) (a' := ?_) #[true, false, true, false, false, false] rfl rfl (by kernel_rfl) (fun _ _ _ h => h) (Or.inl ⟨by rfl, ?_⟩) hHeld ?_ ?_
   rotate_left
   ·rintro w' ⟨s0, s1, s2, s3, s4, s5⟩
    go_simp
    with_reducible rfl
   rotate_left
   ·simp only [Act.put, List.setIfInBounds_toArray, List.set_cons_zero, List.set_cons_succ, i64_w, i32_w]
    rfl
   refine one_ (i := 1) (N := some 13) #[true, true, true, false, false, false] rfl rfl (by kernel_rfl) (by decide) (fun K hK => ?_)
   refine gs Tryz.func98 #[.agg #[.bool t1243, .string t1244, .string t1245]] ?_
   with_reducible refine (rational_signOf.calls t1243 t1244 t1245 t1249 _ A5.out).mono ?_
   rintro e w89 ⟨rfl, hb⟩
   refine ⟨_, rfl, ?_⟩
   replace BK1241 := Aside0.mk (bk0 BK1241.out hb)
   replace BK1242 := Aside0.mk (bk0 BK1242.out hb)
   replace HB := Aside0.mk (bs HB.out hb)
   (try clear hb)
   refine hK.out _ _ ⟨(blk_cell BK1241.out 0).trans rfl, (blk_cell BK1241.out 1).trans rfl, (blk_cell BK1241.out 2).trans rfl, (blk_cell BK1242.out 0).trans rfl, (blk_cell BK1242.out 1).trans rfl, (blk_cell BK1242.out 2).trans rfl⟩ (fun hHeld => ?_)
   clear hK K
   refine nm ?_
   refine one_ (i := 3) (N := some 15) #[true, true, true, true, false, false] rfl rfl (by kernel_rfl) (by decide) (fun K hK => ?_)
   refine gs Tryz.func98 #[.agg #[.bool t1246, .string t1247, .string t1248]] ?_
   with_reducible refine (rational_signOf.calls t1246 t1247 t1248 t1250 _ A6.out).mono ?_
   rintro e w90 ⟨rfl, hb⟩
   refine ⟨_, rfl, ?_⟩
   replace BK1241 := Aside0.mk (bk0 BK1241.out hb)
   replace BK1242 := Aside0.mk (bk0 BK1242.out hb)
   replace HB := Aside0.mk (bs HB.out hb)
   (try clear hb)
   refine hK.out _ _ ⟨(blk_cell BK1241.out 0).trans rfl, (blk_cell BK1241.out 1).trans rfl, (blk_cell BK1241.out 2).trans rfl, (blk_cell BK1242.out 0).trans rfl, (blk_cell BK1242.out 1).trans rfl, (blk_cell BK1242.out 2).trans rfl⟩ (fun hHeld => ?_)
   clear hK K
   refine nm ?_
   refine pure_ (i := 4) (N := some 5) (v := ?_) (a' := ?_) #[true, true, true, true, true, false] rfl rfl (by kernel_rfl) (fun _ _ _ h => h) (Or.inl ⟨by rfl, ?_⟩) ?_ ?_
   rotate_left
   ·intro w'
    go_simp
    with_reducible rfl
   rotate_left
   ·simp only [Act.put, List.setIfInBounds_toArray, List.set_cons_zero, List.set_cons_succ, i64_w, i32_w]
    rfl
   refine pure_ (i := 5) (N := some 6) (v := ?_) (a' := ?_) #[true, true, true, true, true, true] rfl rfl (by kernel_rfl) (fun _ _ _ h => h) (Or.inl ⟨by rfl, ?_⟩) ?_ ?_
   rotate_left
   ·intro w'
    go_simp
    with_reducible rfl
   rotate_left
   ·simp only [Act.put, List.setIfInBounds_toArray, List.set_cons_zero, List.set_cons_succ, i64_w, i32_w]
    rfl
   refine done_ (by kernel_rfl) ?_
   try go_wp2
   go_ret
   exact ⟨fe, bz HB.out⟩

/-! ### rational_Sign: function 48 -/
def rational_Sign.f (k : Nat) (a0_0 : Bool) (a0_1 : ByteArray) (a0_2 : ByteArray) : Option (Int) := (rational_clean.f k a0_0 a0_1 a0_2).bind fun bt1257 => ((rational_signOf.f bt1257.1 bt1257.2.1 bt1257.2.2).bind fun t1260 => (some t1260))
set_option maxHeartbeats 8000000 in
set_option maxRecDepth 100000 in
theorem rational_Sign.calls (k : Nat) (a0_0 : Bool) (a0_1 : ByteArray) (a0_2 : ByteArray) (r : Int) (w : World) (h : rational_Sign.f k a0_0 a0_1 a0_2 = some r) :
  Calls Tryz.prog 48 #[.agg #[.bool a0_0, .string a0_1, .string a0_2]] w fun e w' => e = .returned (.int .i64 r) ∧ Below w.heap.size w w' := by
 have hu24 := Tryz.underlying24
 have HB := Aside0.mk (Below.refl w.heap.size w)
 have H := h
 clear h
 unfold rational_Sign.f at H
 obtain ⟨⟨t1257, t1258, t1259⟩, A2, H⟩ := bs1 H; dsimp only at H
 obtain ⟨t1260, A3, H⟩ := bs1 H
 obtain rfl := Option.some.inj H
 go_enter Tryz.func48, Tryz.ntmps48
 go_wp2_with (first | ((with_reducible refine gd 1 rfl ?_); refine bx 1 (#[.bool a0_0, .string a0_1, .string a0_2]) 24 ?_; intro gb1256 hg w4 hbox hb; have BK1256 := Aside0.mk (hbox); have GW1256 := sg hg HB.out; have GE1256 := sg hg HB.out; replace HB := Aside0.mk (bs HB.out hb); clear hb hbox hg; obtain ⟨hcz5_0, hcz5_1, hcz5_2, hfz5_0, hfz5_1, hfz5_2⟩ := cz BK1256.out) | ((with_reducible refine gc 73 rfl ?_); refine gl (some 4) Tryz.func73 #[.agg #[.bool a0_0, .string a0_1, .string a0_2]] ?_; (with_reducible refine (rational_clean.calls k a0_0 a0_1 a0_2 t1257 t1258 t1259 _ A2.out).mono ?_); rintro e w6 ⟨rfl, hb⟩; refine ⟨_, rfl, ?_⟩; replace BK1256 := Aside0.mk (bk0 BK1256.out hb); replace HB := Aside0.mk (bs HB.out hb); (try clear hb)) | ((with_reducible refine gc 98 rfl ?_); refine gl (some 5) Tryz.func98 #[.agg #[.bool t1257, .string t1258, .string t1259]] ?_; (with_reducible refine (rational_signOf.calls t1257 t1258 t1259 t1260 _ A3.out).mono ?_); rintro e w7 ⟨rfl, hb⟩; refine ⟨_, rfl, ?_⟩; replace BK1256 := Aside0.mk (bk0 BK1256.out hb); replace HB := Aside0.mk (bs HB.out hb); (try clear hb)))
 go_ret
 exact ⟨fe, bz HB.out⟩

/-! ### insolvencylaw2_RationalTruncated: function 15 -/
def insolvencylaw2_RationalTruncated.l0 : Nat → Int → Int → Bool → ByteArray → ByteArray → Bool → ByteArray → ByteArray → Option (Bool)
 | 0, _, _, _, _, _, _, _, _ => none
 | k + 1, x5, x7, x1537000, x1537001, x1537002, x1546000, x1546001, x1546002 => if x7 < x5 then ((rational_Int.f k 10).bind fun bt1546 => ((rational_Divide.f k x1546000 x1546001 x1546002 bt1546.1 bt1546.2.1 bt1546.2.2).bind fun bt1549 => (insolvencylaw2_RationalTruncated.l0 k x5 (wrap64 (x7 + 1)) x1537000 x1537001 x1537002 bt1549.1 bt1549.2.1 bt1549.2.2.1))) else ((rational_Decimal.f k x1537000 x1537001 x1537002 x5).bind fun t1553 => ((rational_Parse.f k t1553).bind fun bt1554 => ((rational_Subtract.f k x1537000 x1537001 x1537002 bt1554.1 bt1554.2.1 bt1554.2.2.1).bind fun bt1559 => ((rational_Sign.f k x1537000 x1537001 x1537002).bind fun t1563 => (if t1563 < 0 then ((rational_Negate.f k bt1559.1 bt1559.2.1 bt1559.2.2).bind fun bt1564 => ((insolvencylaw2_awake.f k).bind fun t1567 => (if t1567 = true then (if bt1554.2.2.2 = 0 then ((rational_Sign.f k bt1564.1 bt1564.2.1 bt1564.2.2).bind fun t1568 => (if t1568 ≥ 0 then ((rational_Compare.f k bt1564.1 bt1564.2.1 bt1564.2.2 x1546000 x1546001 x1546002).bind fun t1569 => (some (decide (t1569 < 0)))) else (some false))) else (some false)) else (some false)))) else ((insolvencylaw2_awake.f k).bind fun t1570 => (if t1570 = true then (if bt1554.2.2.2 = 0 then ((rational_Sign.f k bt1559.1 bt1559.2.1 bt1559.2.2).bind fun t1571 => (if t1571 ≥ 0 then ((rational_Compare.f k bt1559.1 bt1559.2.1 bt1559.2.2 x1546000 x1546001 x1546002).bind fun t1572 => (some (decide (t1572 < 0)))) else (some false))) else (some false)) else (some false))))))))
def insolvencylaw2_RationalTruncated.f (k : Nat) (a0_0 : Bool) (a0_1 : ByteArray) (a0_2 : ByteArray) (a1 : Int) : Option (Bool) := (insolvencylaw2_few.f k (([(⟨a0_0, a0_1, a0_2⟩ : S24)] : List (S24)))).bind fun t1540 => (if t1540 = true then ((rational_Int.f k 1).bind fun bt1542 => (insolvencylaw2_RationalTruncated.l0 k (wrap64 (Int.tmod a1 21)) 0 a0_0 a0_1 a0_2 bt1542.1 bt1542.2.1 bt1542.2.2)) else ((insolvencylaw2_awake.f k).bind fun t1541 => (some t1541)))
set_option maxHeartbeats 8000000 in
set_option maxRecDepth 100000 in
theorem insolvencylaw2_RationalTruncated.calls (k : Nat) (a0_0 : Bool) (a0_1 : ByteArray) (a0_2 : ByteArray) (a1 : Int) (r : Bool) (w : World) (h : insolvencylaw2_RationalTruncated.f k a0_0 a0_1 a0_2 a1 = some r) (hr : r = true := by first | rfl | assumption) :
  Calls Tryz.prog 15 #[.agg #[.bool a0_0, .string a0_1, .string a0_2], .int .u8 a1] w fun e w' => e = .returned (.bool r) ∧ Below w.heap.size w w' := by
 have hu24 := Tryz.underlying24
 have HB := Aside0.mk (Below.refl w.heap.size w)
 have H := h
 clear h
 unfold insolvencylaw2_RationalTruncated.f at H
 obtain ⟨y1537, hy1537⟩ : ∃ y_ : List (S24), y_ = (([(⟨a0_0, a0_1, a0_2⟩ : S24)] : List (S24))) := ⟨_, rfl⟩
 (try first | rw [← hy1537] at H | (dsimp only at H; rw [← hy1537] at H)); (try rw [Option.bind_some] at H)
 have Ny1537 := Aside0.mk hy1537
 clear hy1537
 obtain ⟨t1540, A3, H⟩ := bs1 H
 by_cases c4 : t1540 = true
 ·subst c4
  have H1 : ((rational_Int.f k 1).bind fun bt1542 => (insolvencylaw2_RationalTruncated.l0 k (wrap64 (Int.tmod a1 21)) 0 a0_0 a0_1 a0_2 bt1542.1 bt1542.2.1 bt1542.2.2)) = some r := by rw [if_pos rfl] at H; exact H
  clear H
  have H := H1
  clear H1
  obtain ⟨⟨t1542, t1543, t1544⟩, A5, H⟩ := bs1 H; dsimp only at H
  have H' := Aside0.mk H
  clear H
  go_enter Tryz.func15, Tryz.ntmps15
  go_wp2_with (first | ((with_reducible refine gd 2 rfl ?_); refine bx 2 (#[.bool a0_0, .string a0_1, .string a0_2]) 24 ?_; intro gb1536 hg w6 hbox hb; have BK1536 := Aside0.mk (hbox); have GW1536 := sg hg HB.out; have GE1536 := sg hg HB.out; replace HB := Aside0.mk (bs HB.out hb); clear hb hbox hg; obtain ⟨hcz7_0, hcz7_1, hcz7_2, hfz7_0, hfz7_1, hfz7_2⟩ := cz BK1536.out) | ((with_reducible refine gd 12 rfl ?_); refine Kd.R_lit k24 _ 24 ?hg (N := 12) ?hd (xs := ([(⟨a0_0, a0_1, a0_2⟩ : S24)] : List (S24))) (inner := [.bool a0_0, .string a0_1, .string a0_2]) (ok := fun _ => True) (okp := fun _ => True) ?hr ?hp (fun _ hk => hk) trivial (Below.refl _ _) (Nat.le_refl _) (by simp) ?_; (case hd => rfl); (case hg => rfl); (case hr => first | (go_simp; done) | (go_simp; rfl)); (case hp => exact (Reps.c3 (show Kd.M k24 _ _ _ (⟨a0_0, a0_1, a0_2⟩ : S24) [.bool a0_0, .string a0_1, .string a0_2] from (k24_mkM _ _ _ (⟨a0_0, a0_1, a0_2⟩ : S24) )) (Reps.none _ _))); intro v1538 w8 ho9 hb hg_ hnew_; clear hg_ hnew_; (first | rw [← Ny1537.out] at ho9 | (simp only [Int.reduceToNat] at ho9; rw [← Ny1537.out] at ho9)); have HO1539 := Aside0.mk (Kd.R_lower (Kd.R_newB ho9 (g := gb1536) (o := .cells #[.bool a0_0, .string a0_1, .string a0_2] 24 (0, 0)) (bq BK1536.out)) (sz HB.out)); replace BK1536 := Aside0.mk (bk0 BK1536.out hb); replace HB := Aside0.mk (bs HB.out hb); clear hb ho9; obtain ⟨Ao10, co10, eo10⟩ := Kd.R_slice HO1539.out; subst eo10) | ((with_reducible refine gc 19 rfl ?_); refine gl (some 13) Tryz.func19 #[.slice Ao10 y1537.length co10] ?_; (with_reducible refine (insolvencylaw2_few.calls k _ _ y1537 true _ ?side1 ?side2 A3.out).mono ?_); (case side1 => exact vs (Kd.R_reads' HO1539.out).2.2); (case side2 => exact (Kd.R_reads' HO1539.out).2.1); rintro e w11 ⟨rfl, hb⟩; refine ⟨_, rfl, ?_⟩; replace HO1539 := Aside0.mk (rb HO1539.out hb); replace BK1536 := Aside0.mk (bk0 BK1536.out hb); replace HB := Aside0.mk (bs HB.out hb); (try clear hb)) | ((with_reducible refine gc 27 rfl ?_); refine gl (some 19) Tryz.func27 #[.int .i64 1] ?_; (with_reducible refine (rational_Int.calls k 1 t1542 t1543 t1544 _ A5.out).mono ?_); rintro e w12 ⟨rfl, hb⟩; refine ⟨_, rfl, ?_⟩; replace HO1539 := Aside0.mk (rb HO1539.out hb); replace BK1536 := Aside0.mk (bk0 BK1536.out hb); replace HB := Aside0.mk (bs HB.out hb); (try clear hb)) | ((with_reducible refine gd 6 rfl ?_); refine bx 6 (#[.bool false, .string (⟨#[]⟩ : ByteArray), .string (⟨#[]⟩ : ByteArray)]) 24 ?_; intro gb1545 hg w13 hbox hb; replace HO1539 := Aside0.mk (Kd.R_below (Kd.R_elderB (vs HO1539.out) gb1545 (Nat.le_of_eq hg.symm)) hb); have BK1545 := Aside0.mk (hbox); have GW1545 := sg hg HB.out; have GE1545 := sg hg HB.out; replace HB := Aside0.mk (bs HB.out hb); have NB1536_1545 := nl hg BK1536.out; have NB1545_1536 := nr hg BK1536.out; replace BK1536 := Aside0.mk (bk0 BK1536.out hb); clear hb hbox hg; have hnb14 := NB1545_1536.out; have hnc14 := NB1536_1545.out; obtain ⟨hcz15_0, hcz15_1, hcz15_2, hfz15_0, hfz15_1, hfz15_2⟩ := cz BK1545.out))
  go_loopg [7] k (fun kq v7 w' => ∃ (x7_1 : Int) (x1546000_1 : Bool) (x1546001_1 : ByteArray) (x1546002_1 : ByteArray), v7 = .int .i64 x7_1 ∧ Aside0 (insolvencylaw2_RationalTruncated.l0 kq (wrap64 (Int.tmod a1 21)) x7_1 a0_0 a0_1 a0_2 x1546000_1 x1546001_1 x1546002_1 = some r) ∧ Aside0 (kq ≤ k) ∧ Aside0 (w'.heap[gb1536]? = some (.cells #[.bool a0_0, .string a0_1, .string a0_2] 24 (0, 0))) ∧ Aside0 (w'.heap[gb1545]? = some (.cells #[.bool x1546000_1, .string x1546001_1, .string x1546002_1] 24 (0, 0))) ∧ Aside0 (Below w.heap.size w w'))
  case atStart => exact ⟨(0), (t1542), (t1543), (t1544), fs, H', ⟨Nat.le_refl _⟩, ⟨bq BK1536.out⟩, ⟨bq BK1545.out⟩, ⟨bz HB.out⟩⟩
  case round =>
   clear H'
   (try clear c3); (try clear c4); (try clear hcz15_0); (try clear hcz15_1); (try clear hcz15_2); (try clear hcz7_0); (try clear hcz7_1); (try clear hcz7_2); (try clear hfz15_0); (try clear hfz15_1); (try clear hfz15_2); (try clear hfz7_0); (try clear hfz7_1); (try clear hfz7_2)
   obtain ⟨x7_1, x1546000_1, x1546001_1, x1546002_1, rfl, HA, HK1, BK1536, BK1545, HB⟩ := hrel
   cases gk with
   | zero => exact absurd HA.out (by simp [insolvencylaw2_RationalTruncated.l0])
   | succ k1 =>
    have H := HA.out
    clear HA
    simp only [insolvencylaw2_RationalTruncated.l0] at H
    by_cases c16 : x7_1 < (wrap64 (Int.tmod a1 21))
    ·rw [if_pos c16] at H
     have c16b0 : decide (x7_1 < (wrap64 (Int.tmod a1 21))) = true := decide_eq_true c16
     clear c16
     obtain ⟨⟨t1546, t1547, t1548⟩, A17, H⟩ := bs1 H; dsimp only at H
     obtain ⟨⟨t1549, t1550, t1551, t1552⟩, A18, H⟩ := bs1 H; dsimp only at H
     have H' := Aside0.mk H
     clear H
     try go_wp2
     replace BK1536 := Aside0.mk (blk_drew BK1536.out)
     replace BK1545 := Aside0.mk (blk_drew BK1545.out)
     replace HB := Aside0.mk (below_drew1 HB.out)
     refine start_ (n := 7) (S := fun w' => w'.cell? ⟨gb1545, 0, none⟩ = some (.bool x1546000_1) ∧ w'.cell? ⟨gb1545, 1, none⟩ = some (.string x1546001_1) ∧ w'.cell? ⟨gb1545, 2, none⟩ = some (.string x1546002_1)) (ds := [6]) #[false, false, false, false, false, false, false] (by kernel_rfl) rfl rfl ⟨(blk_cell BK1545.out 0).trans rfl, (blk_cell BK1545.out 1).trans rfl, (blk_cell BK1545.out 2).trans rfl⟩ (fun hHeld => ?_)
     generalize wr.drew = w19 at BK1536 BK1545 HB hHeld ⊢
     refine take_ (i := 0) (N := some 26) (v := ?_) (a' := ?_) #[true, false, false, false, false, false, false] rfl rfl (by kernel_rfl) (fun _ _ _ h => h) (Or.inl ⟨by rfl, ?_⟩) hHeld ?_ ?_
     rotate_left
     ·rintro w' ⟨s0, s1, s2⟩
      go_simp
      with_reducible rfl
     rotate_left
     ·simp only [Act.put, List.setIfInBounds_toArray, List.set_cons_zero, List.set_cons_succ, i64_w, i32_w]
      rfl
     refine one_ (i := 1) (N := some 27) #[true, true, false, false, false, false, false] rfl rfl (by kernel_rfl) (by decide) (fun K hK => ?_)
     refine gs Tryz.func27 #[.int .i64 10] ?_
     with_reducible refine (rational_Int.calls k1 10 t1546 t1547 t1548 _ A17.out).mono ?_
     rintro e w20 ⟨rfl, hb⟩
     refine ⟨_, rfl, ?_⟩
     replace BK1536 := Aside0.mk (bk0 BK1536.out hb)
     replace BK1545 := Aside0.mk (bk0 BK1545.out hb)
     replace HB := Aside0.mk (bs HB.out hb)
     (try clear hb); (try clear hb2); (try clear hk); (try clear hi)
     refine hK.out _ _ ⟨(blk_cell BK1545.out 0).trans rfl, (blk_cell BK1545.out 1).trans rfl, (blk_cell BK1545.out 2).trans rfl⟩ (fun hHeld => ?_)
     clear hK K
     refine nm ?_
     refine one_ (i := 2) (N := some 28) #[true, true, true, false, false, false, false] rfl rfl (by kernel_rfl) (by decide) (fun K hK => ?_)
     refine gs Tryz.func29 #[.agg #[.bool x1546000_1, .string x1546001_1, .string x1546002_1], .agg #[.bool t1546, .string t1547, .string t1548]] ?_
     with_reducible refine (rational_Divide.calls k1 x1546000_1 x1546001_1 x1546002_1 t1546 t1547 t1548 t1549 t1550 t1551 t1552 _ A18.out).mono ?_
     rintro e w21 ⟨rfl, hb⟩
     refine ⟨_, rfl, ?_⟩
     replace BK1536 := Aside0.mk (bk0 BK1536.out hb)
     replace BK1545 := Aside0.mk (bk0 BK1545.out hb)
     replace HB := Aside0.mk (bs HB.out hb)
     (try clear hb); (try clear hb2); (try clear hk); (try clear hi)
     refine hK.out _ _ ⟨(blk_cell BK1545.out 0).trans rfl, (blk_cell BK1545.out 1).trans rfl, (blk_cell BK1545.out 2).trans rfl⟩ (fun hHeld => ?_)
     clear hK K
     refine nm ?_
     refine pure_ (i := 3) (N := some 25) (v := ?_) (a' := ?_) #[true, true, true, true, false, false, false] rfl rfl (by kernel_rfl) (fun _ _ _ h => h) (Or.inl ⟨by rfl, ?_⟩) ?_ ?_
     rotate_left
     ·intro w'
      go_simp
      with_reducible rfl
     rotate_left
     ·simp only [Act.put, List.setIfInBounds_toArray, List.set_cons_zero, List.set_cons_succ, i64_w, i32_w]
      rfl
     refine pure_ (i := 4) (N := some 29) (v := ?_) (a' := ?_) #[true, true, true, true, true, false, false] rfl rfl (by kernel_rfl) (fun _ _ _ h => h) (Or.inl ⟨by rfl, ?_⟩) ?_ ?_
     rotate_left
     ·intro w'
      go_simp
      with_reducible rfl
     rotate_left
     ·simp only [Act.put, List.setIfInBounds_toArray, List.set_cons_zero, List.set_cons_succ, i64_w, i32_w]
      rfl
     refine pure_ (i := 5) (N := some 30) (v := ?_) (a' := ?_) #[true, true, true, true, true, true, false] rfl rfl (by kernel_rfl) (fun _ _ _ h => h) (Or.inl ⟨by rfl, ?_⟩) ?_ ?_
     rotate_left
     ·intro w'
      go_simp
      with_reducible rfl
     rotate_left
     ·simp only [Act.put, List.setIfInBounds_toArray, List.set_cons_zero, List.set_cons_succ, i64_w, i32_w]
      rfl
     refine last_ (i := 6) (N := none) #[true, true, true, true, true, true, true] rfl rfl (by kernel_rfl) (by decide) (fun K hK => ?_)
     have hs22 : w21.cell? ⟨gb1545, 0, none⟩ = some (.bool x1546000_1) := (blk_cell BK1545.out 0).trans rfl
     have hfs22 := blk_frozen BK1545.out 0
     have hns22_0 := NB1536_1545.out
     have hms22_0 := NB1545_1536.out
     have hs23 : w21.cell? ⟨gb1545, 1, none⟩ = some (.string x1546001_1) := (blk_cell BK1545.out 1).trans rfl
     have hfs23 := blk_frozen BK1545.out 1
     have hns23_0 := NB1536_1545.out
     have hms23_0 := NB1545_1536.out
     have hs24 : w21.cell? ⟨gb1545, 2, none⟩ = some (.string x1546002_1) := (blk_cell BK1545.out 2).trans rfl
     have hfs24 := blk_frozen BK1545.out 2
     have hns24_0 := NB1536_1545.out
     have hms24_0 := NB1545_1536.out
     refine skip_ (w1 := ?_) (by rfl) rfl ?_ ?_
     rotate_left
     ·go_simp
      rfl
     refine hK.out _ _ ?_
     clear hK K
     refine done_ (by kernel_rfl) ?_
     try go_wp2
     go_roundg k1
     case measure => have := HK1.out; omega
     case rel => exact ⟨(wrap64 (x7_1 + 1)), (t1549), (t1550), (t1551), fs, H', ⟨by have := HK1.out; omega⟩, ⟨bq BK1536.out⟩, ⟨bq BK1545.out⟩, ⟨bz HB.out⟩⟩
    ·rw [if_neg c16] at H
     have c16b0 : decide (x7_1 < (wrap64 (Int.tmod a1 21))) = false := decide_eq_false c16
     clear c16
     obtain ⟨t1553, A25, H⟩ := bs1 H
     obtain ⟨⟨t1554, t1555, t1556, t1557⟩, A26, H⟩ := bs1 H; dsimp only at H
     obtain ⟨⟨t1559, t1560, t1561⟩, A27, H⟩ := bs1 H; dsimp only at H
     obtain ⟨t1563, A28, H⟩ := bs1 H
     by_cases c29 : t1563 < 0
     ·rw [if_pos c29] at H
      have c29b0 : decide (t1563 < 0) = true := decide_eq_true c29
      clear c29
      obtain ⟨⟨t1564, t1565, t1566⟩, A30, H⟩ := bs1 H; dsimp only at H
      obtain ⟨t1567, A31, H⟩ := bs1 H
      by_cases c32 : t1567 = true
      ·subst c32
       have H1 : (if t1557 = 0 then ((rational_Sign.f k1 t1564 t1565 t1566).bind fun t1568 => (if t1568 ≥ 0 then ((rational_Compare.f k1 t1564 t1565 t1566 x1546000_1 x1546001_1 x1546002_1).bind fun t1569 => (some (decide (t1569 < 0)))) else (some false))) else (some false)) = some r := by rw [if_pos rfl] at H; exact H
       clear H
       have H := H1
       clear H1
       by_cases c33 : t1557 = 0
       ·rw [if_pos c33] at H
        have c33b0 := beq_iff_eq.mpr c33
        have c33b1 := bne_eq_false_iff_eq.mpr c33
        clear c33
        obtain ⟨t1568, A34, H⟩ := bs1 H
        by_cases c35 : t1568 ≥ 0
        ·rw [if_pos c35] at H
         have c35b0 : decide (0 ≤ t1568) = true := decide_eq_true c35
         clear c35
         obtain ⟨t1569, A36, H⟩ := bs1 H
         obtain rfl := Option.some.inj H
         have hnb37 := NB1536_1545.out
         have hnc37 := NB1545_1536.out
         obtain ⟨hcz38_0, hcz38_1, hcz38_2, hfz38_0, hfz38_1, hfz38_2⟩ := cz BK1536.out
         go_wp2_with (first | ((with_reducible refine gc 23 rfl ?_); refine gl (some 34) Tryz.func23 #[.agg #[.bool a0_0, .string a0_1, .string a0_2], .int .i64 (wrap64 (Int.tmod a1 21))] ?_; (with_reducible refine (rational_Decimal.calls k1 a0_0 a0_1 a0_2 (wrap64 (Int.tmod a1 21)) t1553 _ A25.out).mono ?_); rintro e w39 ⟨rfl, hb⟩; refine ⟨_, rfl, ?_⟩; replace BK1536 := Aside0.mk (bk0 BK1536.out hb); replace BK1545 := Aside0.mk (bk0 BK1545.out hb); replace HB := Aside0.mk (bs HB.out hb); (try clear hb)) | ((with_reducible refine gc 17 rfl ?_); refine gl (some 35) Tryz.func17 #[.string t1553] ?_; (with_reducible refine (rational_Parse.calls k1 t1553 t1554 t1555 t1556 t1557 _ A26.out).mono ?_); rintro e w40 ⟨rfl, hb⟩; refine ⟨_, rfl, ?_⟩; replace BK1536 := Aside0.mk (bk0 BK1536.out hb); replace BK1545 := Aside0.mk (bk0 BK1545.out hb); replace HB := Aside0.mk (bs HB.out hb); (try clear hb)) | ((with_reducible refine gd 8 rfl ?_); refine bx 8 (#[.bool false, .string (⟨#[]⟩ : ByteArray), .string (⟨#[]⟩ : ByteArray)]) 24 ?_; intro gb1558 hg w41 hbox hb; have BK1558 := Aside0.mk (hbox); have GW1558 := sg hg HB.out; have GE1558 := sg hg HB.out; replace HB := Aside0.mk (bs HB.out hb); have NB1536_1558 := nl hg BK1536.out; have NB1558_1536 := nr hg BK1536.out; replace BK1536 := Aside0.mk (bk0 BK1536.out hb); have NB1545_1558 := nl hg BK1545.out; have NB1558_1545 := nr hg BK1545.out; replace BK1545 := Aside0.mk (bk0 BK1545.out hb); clear hb hbox hg; have hnb42 := NB1558_1536.out; have hnc42 := NB1536_1558.out; have hnb43 := NB1558_1545.out; have hnc43 := NB1545_1558.out; obtain ⟨hcz44_0, hcz44_1, hcz44_2, hfz44_0, hfz44_1, hfz44_2⟩ := cz BK1558.out; obtain ⟨hcz45_0, hcz45_1, hcz45_2, hfz45_0, hfz45_1, hfz45_2⟩ := cz BK1536.out) | ((with_reducible refine gc 41 rfl ?_); refine gl (some 40) Tryz.func41 #[.agg #[.bool a0_0, .string a0_1, .string a0_2], .agg #[.bool t1554, .string t1555, .string t1556]] ?_; (with_reducible refine (rational_Subtract.calls k1 a0_0 a0_1 a0_2 t1554 t1555 t1556 t1559 t1560 t1561 _ A27.out).mono ?_); rintro e w46 ⟨rfl, hb⟩; refine ⟨_, rfl, ?_⟩; replace BK1536 := Aside0.mk (bk0 BK1536.out hb); replace BK1545 := Aside0.mk (bk0 BK1545.out hb); replace BK1558 := Aside0.mk (bk BK1558.out hb (.cells #[.bool t1554, .string t1555, .string t1556] 24 (0, 0))); replace HB := Aside0.mk (bs HB.out hb); (try clear hb)) | ((with_reducible refine gd 10 rfl ?_); refine bx 10 (#[.bool false, .string (⟨#[]⟩ : ByteArray), .string (⟨#[]⟩ : ByteArray)]) 24 ?_; intro gb1562 hg w47 hbox hb; have BK1562 := Aside0.mk (hbox); have GW1562 := sg hg HB.out; have GE1562 := sg hg HB.out; replace HB := Aside0.mk (bs HB.out hb); have NB1536_1562 := nl hg BK1536.out; have NB1562_1536 := nr hg BK1536.out; replace BK1536 := Aside0.mk (bk0 BK1536.out hb); have NB1545_1562 := nl hg BK1545.out; have NB1562_1545 := nr hg BK1545.out; replace BK1545 := Aside0.mk (bk0 BK1545.out hb); have NB1558_1562 := nl hg BK1558.out; have NB1562_1558 := nr hg BK1558.out; replace BK1558 := Aside0.mk (bk0 BK1558.out hb); clear hb hbox hg; have hnb48 := NB1562_1536.out; have hnc48 := NB1536_1562.out; have hnb49 := NB1562_1545.out; have hnc49 := NB1545_1562.out; have hnb50 := NB1562_1558.out; have hnc50 := NB1558_1562.out; obtain ⟨hcz51_0, hcz51_1, hcz51_2, hfz51_0, hfz51_1, hfz51_2⟩ := cz BK1562.out; obtain ⟨hcz52_0, hcz52_1, hcz52_2, hfz52_0, hfz52_1, hfz52_2⟩ := cz BK1536.out) | ((with_reducible refine gc 48 rfl ?_); refine gl (some 42) Tryz.func48 #[.agg #[.bool a0_0, .string a0_1, .string a0_2]] ?_; (with_reducible refine (rational_Sign.calls k1 a0_0 a0_1 a0_2 t1563 _ A28.out).mono ?_); rintro e w53 ⟨rfl, hb⟩; refine ⟨_, rfl, ?_⟩; replace BK1536 := Aside0.mk (bk0 BK1536.out hb); replace BK1545 := Aside0.mk (bk0 BK1545.out hb); replace BK1558 := Aside0.mk (bk0 BK1558.out hb); replace BK1562 := Aside0.mk (bk BK1562.out hb (.cells #[.bool t1559, .string t1560, .string t1561] 24 (0, 0))); replace HB := Aside0.mk (bs HB.out hb); (try clear hb); obtain ⟨hcz54_0, hcz54_1, hcz54_2, hfz54_0, hfz54_1, hfz54_2⟩ := cz BK1562.out) | ((with_reducible refine gc 37 rfl ?_); refine gl (some 45) Tryz.func37 #[.agg #[.bool t1559, .string t1560, .string t1561]] ?_; (with_reducible refine (rational_Negate.calls k1 t1559 t1560 t1561 t1564 t1565 t1566 _ A30.out).mono ?_); rintro e w55 ⟨rfl, hb⟩; refine ⟨_, rfl, ?_⟩; replace BK1536 := Aside0.mk (bk0 BK1536.out hb); replace BK1545 := Aside0.mk (bk0 BK1545.out hb); replace BK1558 := Aside0.mk (bk0 BK1558.out hb); replace BK1562 := Aside0.mk (bk0 BK1562.out hb); replace HB := Aside0.mk (bs HB.out hb); (try clear hb); obtain ⟨hcz56_0, hcz56_1, hcz56_2, hfz56_0, hfz56_1, hfz56_2⟩ := cz BK1562.out) | ((with_reducible refine gc 16 rfl ?_); refine gl (some 46) Tryz.func16 #[] ?_; (with_reducible refine (insolvencylaw2_awake.calls k1  true _ A31.out).mono ?_); rintro e w57 ⟨rfl, hb⟩; refine ⟨_, rfl, ?_⟩; replace BK1536 := Aside0.mk (bk0 BK1536.out hb); replace BK1545 := Aside0.mk (bk0 BK1545.out hb); replace BK1558 := Aside0.mk (bk0 BK1558.out hb); replace BK1562 := Aside0.mk (bk BK1562.out hb (.cells #[.bool t1564, .string t1565, .string t1566] 24 (0, 0))); replace HB := Aside0.mk (bs HB.out hb); (try clear hb); obtain ⟨hcz58_0, hcz58_1, hcz58_2, hfz58_0, hfz58_1, hfz58_2⟩ := cz BK1562.out) | (go_at_call 48; (with_reducible refine (rational_Sign.calls k1 t1564 t1565 t1566 t1568 _ A34.out).mono ?_); rintro e w59 ⟨rfl, hb⟩; replace BK1536 := Aside0.mk (bk0 BK1536.out hb); replace BK1545 := Aside0.mk (bk0 BK1545.out hb); replace BK1558 := Aside0.mk (bk0 BK1558.out hb); replace BK1562 := Aside0.mk (bk0 BK1562.out hb); replace HB := Aside0.mk (bs HB.out hb); (try clear hb); obtain ⟨hcz60_0, hcz60_1, hcz60_2, hfz60_0, hfz60_1, hfz60_2⟩ := cz BK1562.out; obtain ⟨hcz61_0, hcz61_1, hcz61_2, hfz61_0, hfz61_1, hfz61_2⟩ := cz BK1545.out) | (go_at_call 47; (with_reducible refine (rational_Compare.calls k1 t1564 t1565 t1566 x1546000_1 x1546001_1 x1546002_1 t1569 _ A36.out).mono ?_); rintro e w62 ⟨rfl, hb⟩; replace BK1536 := Aside0.mk (bk0 BK1536.out hb); replace BK1545 := Aside0.mk (bk0 BK1545.out hb); replace BK1558 := Aside0.mk (bk0 BK1558.out hb); replace BK1562 := Aside0.mk (bk0 BK1562.out hb); replace HB := Aside0.mk (bs HB.out hb); (try clear hb)))
         go_ret
         exact ⟨fe, bz HB.out⟩
        ·rw [if_neg c35] at H
         exact nf hr H
       ·rw [if_neg c33] at H
        exact nf hr H
      ·replace c32 := Bool.eq_false_iff.mpr c32
       subst c32
       have H1 : (some false) = some r := by rw [if_neg (show ¬ (false = true) by decide)] at H; exact H
       clear H
       have H := H1
       clear H1
       exact nf hr H
     ·rw [if_neg c29] at H
      have c29b0 : decide (t1563 < 0) = false := decide_eq_false c29
      clear c29
      obtain ⟨t1570, A128, H⟩ := bs1 H
      by_cases c129 : t1570 = true
      ·subst c129
       have H1 : (if t1557 = 0 then ((rational_Sign.f k1 t1559 t1560 t1561).bind fun t1571 => (if t1571 ≥ 0 then ((rational_Compare.f k1 t1559 t1560 t1561 x1546000_1 x1546001_1 x1546002_1).bind fun t1572 => (some (decide (t1572 < 0)))) else (some false))) else (some false)) = some r := by rw [if_pos rfl] at H; exact H
       clear H
       have H := H1
       clear H1
       by_cases c130 : t1557 = 0
       ·rw [if_pos c130] at H
        have c130b0 := beq_iff_eq.mpr c130
        have c130b1 := bne_eq_false_iff_eq.mpr c130
        clear c130
        obtain ⟨t1571, A131, H⟩ := bs1 H
        by_cases c132 : t1571 ≥ 0
        ·rw [if_pos c132] at H
         have c132b0 : decide (0 ≤ t1571) = true := decide_eq_true c132
         clear c132
         obtain ⟨t1572, A133, H⟩ := bs1 H
         obtain rfl := Option.some.inj H
         have hnb134 := NB1536_1545.out
         have hnc134 := NB1545_1536.out
         obtain ⟨hcz135_0, hcz135_1, hcz135_2, hfz135_0, hfz135_1, hfz135_2⟩ := cz BK1536.out
         go_wp2_with (first | ((with_reducible refine gc 23 rfl ?_); refine gl (some 34) Tryz.func23 #[.agg #[.bool a0_0, .string a0_1, .string a0_2], .int .i64 (wrap64 (Int.tmod a1 21))] ?_; (with_reducible refine (rational_Decimal.calls k1 a0_0 a0_1 a0_2 (wrap64 (Int.tmod a1 21)) t1553 _ A25.out).mono ?_); rintro e w136 ⟨rfl, hb⟩; refine ⟨_, rfl, ?_⟩; replace BK1536 := Aside0.mk (bk0 BK1536.out hb); replace BK1545 := Aside0.mk (bk0 BK1545.out hb); replace HB := Aside0.mk (bs HB.out hb); (try clear hb)) | ((with_reducible refine gc 17 rfl ?_); refine gl (some 35) Tryz.func17 #[.string t1553] ?_; (with_reducible refine (rational_Parse.calls k1 t1553 t1554 t1555 t1556 t1557 _ A26.out).mono ?_); rintro e w137 ⟨rfl, hb⟩; refine ⟨_, rfl, ?_⟩; replace BK1536 := Aside0.mk (bk0 BK1536.out hb); replace BK1545 := Aside0.mk (bk0 BK1545.out hb); replace HB := Aside0.mk (bs HB.out hb); (try clear hb)) | ((with_reducible refine gd 8 rfl ?_); refine bx 8 (#[.bool false, .string (⟨#[]⟩ : ByteArray), .string (⟨#[]⟩ : ByteArray)]) 24 ?_; intro gb1558 hg w138 hbox hb; have BK1558 := Aside0.mk (hbox); have GW1558 := sg hg HB.out; have GE1558 := sg hg HB.out; replace HB := Aside0.mk (bs HB.out hb); have NB1536_1558 := nl hg BK1536.out; have NB1558_1536 := nr hg BK1536.out; replace BK1536 := Aside0.mk (bk0 BK1536.out hb); have NB1545_1558 := nl hg BK1545.out; have NB1558_1545 := nr hg BK1545.out; replace BK1545 := Aside0.mk (bk0 BK1545.out hb); clear hb hbox hg; have hnb139 := NB1558_1536.out; have hnc139 := NB1536_1558.out; have hnb140 := NB1558_1545.out; have hnc140 := NB1545_1558.out; obtain ⟨hcz141_0, hcz141_1, hcz141_2, hfz141_0, hfz141_1, hfz141_2⟩ := cz BK1558.out; obtain ⟨hcz142_0, hcz142_1, hcz142_2, hfz142_0, hfz142_1, hfz142_2⟩ := cz BK1536.out) | ((with_reducible refine gc 41 rfl ?_); refine gl (some 40) Tryz.func41 #[.agg #[.bool a0_0, .string a0_1, .string a0_2], .agg #[.bool t1554, .string t1555, .string t1556]] ?_; (with_reducible refine (rational_Subtract.calls k1 a0_0 a0_1 a0_2 t1554 t1555 t1556 t1559 t1560 t1561 _ A27.out).mono ?_); rintro e w143 ⟨rfl, hb⟩; refine ⟨_, rfl, ?_⟩; replace BK1536 := Aside0.mk (bk0 BK1536.out hb); replace BK1545 := Aside0.mk (bk0 BK1545.out hb); replace BK1558 := Aside0.mk (bk BK1558.out hb (.cells #[.bool t1554, .string t1555, .string t1556] 24 (0, 0))); replace HB := Aside0.mk (bs HB.out hb); (try clear hb)) | ((with_reducible refine gd 10 rfl ?_); refine bx 10 (#[.bool false, .string (⟨#[]⟩ : ByteArray), .string (⟨#[]⟩ : ByteArray)]) 24 ?_; intro gb1562 hg w144 hbox hb; have BK1562 := Aside0.mk (hbox); have GW1562 := sg hg HB.out; have GE1562 := sg hg HB.out; replace HB := Aside0.mk (bs HB.out hb); have NB1536_1562 := nl hg BK1536.out; have NB1562_1536 := nr hg BK1536.out; replace BK1536 := Aside0.mk (bk0 BK1536.out hb); have NB1545_1562 := nl hg BK1545.out; have NB1562_1545 := nr hg BK1545.out; replace BK1545 := Aside0.mk (bk0 BK1545.out hb); have NB1558_1562 := nl hg BK1558.out; have NB1562_1558 := nr hg BK1558.out; replace BK1558 := Aside0.mk (bk0 BK1558.out hb); clear hb hbox hg; have hnb145 := NB1562_1536.out; have hnc145 := NB1536_1562.out; have hnb146 := NB1562_1545.out; have hnc146 := NB1545_1562.out; have hnb147 := NB1562_1558.out; have hnc147 := NB1558_1562.out; obtain ⟨hcz148_0, hcz148_1, hcz148_2, hfz148_0, hfz148_1, hfz148_2⟩ := cz BK1562.out; obtain ⟨hcz149_0, hcz149_1, hcz149_2, hfz149_0, hfz149_1, hfz149_2⟩ := cz BK1536.out) | ((with_reducible refine gc 48 rfl ?_); refine gl (some 42) Tryz.func48 #[.agg #[.bool a0_0, .string a0_1, .string a0_2]] ?_; (with_reducible refine (rational_Sign.calls k1 a0_0 a0_1 a0_2 t1563 _ A28.out).mono ?_); rintro e w150 ⟨rfl, hb⟩; refine ⟨_, rfl, ?_⟩; replace BK1536 := Aside0.mk (bk0 BK1536.out hb); replace BK1545 := Aside0.mk (bk0 BK1545.out hb); replace BK1558 := Aside0.mk (bk0 BK1558.out hb); replace BK1562 := Aside0.mk (bk BK1562.out hb (.cells #[.bool t1559, .string t1560, .string t1561] 24 (0, 0))); replace HB := Aside0.mk (bs HB.out hb); (try clear hb)) | ((with_reducible refine gc 16 rfl ?_); refine gl (some 46) Tryz.func16 #[] ?_; (with_reducible refine (insolvencylaw2_awake.calls k1  true _ A128.out).mono ?_); rintro e w151 ⟨rfl, hb⟩; refine ⟨_, rfl, ?_⟩; replace BK1536 := Aside0.mk (bk0 BK1536.out hb); replace BK1545 := Aside0.mk (bk0 BK1545.out hb); replace BK1558 := Aside0.mk (bk0 BK1558.out hb); replace BK1562 := Aside0.mk (bk0 BK1562.out hb); replace HB := Aside0.mk (bs HB.out hb); (try clear hb); obtain ⟨hcz152_0, hcz152_1, hcz152_2, hfz152_0, hfz152_1, hfz152_2⟩ := cz BK1562.out) | (go_at_call 48; (with_reducible refine (rational_Sign.calls k1 t1559 t1560 t1561 t1571 _ A131.out).mono ?_); rintro e w153 ⟨rfl, hb⟩; replace BK1536 := Aside0.mk (bk0 BK1536.out hb); replace BK1545 := Aside0.mk (bk0 BK1545.out hb); replace BK1558 := Aside0.mk (bk0 BK1558.out hb); replace BK1562 := Aside0.mk (bk0 BK1562.out hb); replace HB := Aside0.mk (bs HB.out hb); (try clear hb); obtain ⟨hcz154_0, hcz154_1, hcz154_2, hfz154_0, hfz154_1, hfz154_2⟩ := cz BK1562.out; obtain ⟨hcz155_0, hcz155_1, hcz155_2, hfz155_0, hfz155_1, hfz155_2⟩ := cz BK1545.out) | (go_at_call 47; (with_reducible refine (rational_Compare.calls k1 t1559 t1560 t1561 x1546000_1 x1546001_1 x1546002_1 t1572 _ A133.out).mono ?_); rintro e w156 ⟨rfl, hb⟩; replace BK1536 := Aside0.mk (bk0 BK1536.out hb); replace BK1545 := Aside0.mk (bk0 BK1545.out hb); replace BK1558 := Aside0.mk (bk0 BK1558.out hb); replace BK1562 := Aside0.mk (bk0 BK1562.out hb); replace HB := Aside0.mk (bs HB.out hb); (try clear hb)))
         go_ret
         exact ⟨fe, bz HB.out⟩
        ·rw [if_neg c132] at H
         exact nf hr H
       ·rw [if_neg c130] at H
        exact nf hr H
      ·replace c129 := Bool.eq_false_iff.mpr c129
       subst c129
       have H1 : (some false) = some r := by rw [if_neg (show ¬ (false = true) by decide)] at H; exact H
       clear H
       have H := H1
       clear H1
       exact nf hr H
 ·replace c4 := Bool.eq_false_iff.mpr c4
  subst c4
  have H1 : ((insolvencylaw2_awake.f k).bind fun t1541 => (some t1541)) = some r := by rw [if_neg (show ¬ (false = true) by decide)] at H; exact H
  clear H
  have H := H1
  clear H1
  obtain ⟨t1541, A213, H⟩ := bs1 H
  obtain rfl := Option.some.inj H
  go_enter Tryz.func15, Tryz.ntmps15
  go_wp2_with (first | ((with_reducible refine gd 2 rfl ?_); refine bx 2 (#[.bool a0_0, .string a0_1, .string a0_2]) 24 ?_; intro gb1536 hg w214 hbox hb; have BK1536 := Aside0.mk (hbox); have GW1536 := sg hg HB.out; have GE1536 := sg hg HB.out; replace HB := Aside0.mk (bs HB.out hb); clear hb hbox hg; obtain ⟨hcz215_0, hcz215_1, hcz215_2, hfz215_0, hfz215_1, hfz215_2⟩ := cz BK1536.out) | ((with_reducible refine gd 12 rfl ?_); refine Kd.R_lit k24 _ 24 ?hg (N := 12) ?hd (xs := ([(⟨a0_0, a0_1, a0_2⟩ : S24)] : List (S24))) (inner := [.bool a0_0, .string a0_1, .string a0_2]) (ok := fun _ => True) (okp := fun _ => True) ?hr ?hp (fun _ hk => hk) trivial (Below.refl _ _) (Nat.le_refl _) (by simp) ?_; (case hd => rfl); (case hg => rfl); (case hr => first | (go_simp; done) | (go_simp; rfl)); (case hp => exact (Reps.c3 (show Kd.M k24 _ _ _ (⟨a0_0, a0_1, a0_2⟩ : S24) [.bool a0_0, .string a0_1, .string a0_2] from (k24_mkM _ _ _ (⟨a0_0, a0_1, a0_2⟩ : S24) )) (Reps.none _ _))); intro v1538 w216 ho217 hb hg_ hnew_; clear hg_ hnew_; (first | rw [← Ny1537.out] at ho217 | (simp only [Int.reduceToNat] at ho217; rw [← Ny1537.out] at ho217)); have HO1539 := Aside0.mk (Kd.R_lower (Kd.R_newB ho217 (g := gb1536) (o := .cells #[.bool a0_0, .string a0_1, .string a0_2] 24 (0, 0)) (bq BK1536.out)) (sz HB.out)); replace BK1536 := Aside0.mk (bk0 BK1536.out hb); replace HB := Aside0.mk (bs HB.out hb); clear hb ho217; obtain ⟨Ao218, co218, eo218⟩ := Kd.R_slice HO1539.out; subst eo218) | ((with_reducible refine gc 19 rfl ?_); refine gl (some 13) Tryz.func19 #[.slice Ao218 y1537.length co218] ?_; (with_reducible refine (insolvencylaw2_few.calls k _ _ y1537 false _ ?side1 ?side2 A3.out).mono ?_); (case side1 => exact vs (Kd.R_reads' HO1539.out).2.2); (case side2 => exact (Kd.R_reads' HO1539.out).2.1); rintro e w219 ⟨rfl, hb⟩; refine ⟨_, rfl, ?_⟩; replace HO1539 := Aside0.mk (rb HO1539.out hb); replace BK1536 := Aside0.mk (bk0 BK1536.out hb); replace HB := Aside0.mk (bs HB.out hb); (try clear hb)) | ((with_reducible refine gc 16 rfl ?_); refine gl (some 15) Tryz.func16 #[] ?_; (with_reducible refine (insolvencylaw2_awake.calls k  t1541 _ A213.out).mono ?_); rintro e w220 ⟨rfl, hb⟩; refine ⟨_, rfl, ?_⟩; replace HO1539 := Aside0.mk (rb HO1539.out hb); replace BK1536 := Aside0.mk (bk0 BK1536.out hb); replace HB := Aside0.mk (bs HB.out hb); (try clear hb)))
  go_ret
  exact ⟨fe, bz HB.out⟩
end Go.Proofs.YtgepdnoaemeofaaGreatDoor.A
