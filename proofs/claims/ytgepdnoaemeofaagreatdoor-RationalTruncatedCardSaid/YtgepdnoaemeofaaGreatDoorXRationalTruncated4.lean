/- Printed by a program of this session (wip/tools) out of the translation: plain functions and the proofs that the code comes to their answers. -/
import Derived.Test.YtgepdnoaemeofaaGreatDoorXRationalTruncated3
namespace Go.Proofs.YtgepdnoaemeofaaGreatDoor.A
open Go.RowKit Go.Proofs.YtgepdnoaemeofaaGreatDoorW.PrintWords Go.Proofs.YtgepdnoaemeofaaGreatDoorW.PrintLast Go.Proofs.YtgepdnoaemeofaaGreatDoorW.PrintMore Go.Proofs.YtgepdnoaemeofaaGreatDoorW.PK
attribute [local go_sem] max2_int min2_int max_two min_two max_three min_three max_four min_four   -- for this text's walks alone
set_option linter.unusedVariables false
set_option linter.unusedSimpArgs false

attribute [local go_sem high] eqA24
/-! ### rational_Divide: function 29 -/
def rational_Divide.f (k : Nat) (a0_0 : Bool) (a0_1 : ByteArray) (a0_2 : ByteArray) (a1_0 : Bool) (a1_1 : ByteArray) (a1_2 : ByteArray) : Option (Bool × ByteArray × ByteArray × Bool) := (rational_clean.f k a0_0 a0_1 a0_2).bind fun bt826 => ((rational_clean.f k a1_0 a1_1 a1_2).bind fun bt829 => ((rational_den.f bt829.1 bt829.2.1 bt829.2.2).bind fun t832 => ((natural_Multiply.f k bt826.2.1 t832).bind fun t833 => ((rational_den.f bt826.1 bt826.2.1 bt826.2.2).bind fun t834 => ((natural_Multiply.f k t834 bt829.2.1).bind fun t835 => ((rational_Make.f k (bt826.1 != bt829.1) t833 t835).bind fun bt836 => (some (bt836.1, bt836.2.1, bt836.2.2.1, bt836.2.2.2))))))))
def rational_Divide.T2 : Bool × List (List Nat × List Nat) := (true, [([], []), ([0], [0]), ([], []), ([2], [2]), ([1, 3], [1, 3]), ([], []), ([5], [5]), ([], []), ([7], [7]), ([6, 8, 8], [6, 8]), ([], []), ([10, 9], [10]), ([], []), ([12], [12]), ([11, 13, 11], [11, 13]), ([4, 9, 14, 14], [4, 9, 14]), ([15], [15]), ([15], [15]), ([16, 15, 0, 1, 2, 3, 4, 5, 6, 7, 8, 9, 10, 11, 12, 13, 14, 15, 16, 17], [16]), ([17, 18, 0, 1, 2, 3, 4, 5, 6, 7, 8, 9, 10, 11, 12, 13, 14, 15, 16, 17, 18], [17])])
def rational_Divide.B2 : List Nat := [0, 1, 0, 4, 15, 0, 32, 0, 128, 480, 0, 2016, 0, 4096, 16352, 32767, 65535, 65535, 262143, 524287]
theorem rational_Divide.tab2 : rtab .any (opsOf Tryz.f29 2) = rational_Divide.T2 := by kernel_rfl
theorem rational_Divide.bits2 : waitsOk rational_Divide.T2.2 rational_Divide.B2 = true := by kernel_rfl
set_option maxHeartbeats 8000000 in
set_option maxRecDepth 100000 in
theorem rational_Divide.calls (k : Nat) (a0_0 : Bool) (a0_1 : ByteArray) (a0_2 : ByteArray) (a1_0 : Bool) (a1_1 : ByteArray) (a1_2 : ByteArray) (r1 : Bool) (r2 : ByteArray) (r3 : ByteArray) (r4 : Bool) (w : World) (h : rational_Divide.f k a0_0 a0_1 a0_2 a1_0 a1_1 a1_2 = some (r1, r2, r3, r4)) :
  Calls Tryz.prog 29 #[.agg #[.bool a0_0, .string a0_1, .string a0_2], .agg #[.bool a1_0, .string a1_1, .string a1_2]] w fun e w' => e = .returned (.tuple #[.agg #[.bool r1, .string r2, .string r3], .bool r4]) ∧ Below w.heap.size w w' := by
 have hu24 := Tryz.underlying24
 have HB := Aside0.mk (Below.refl w.heap.size w)
 have H := h
 clear h
 unfold rational_Divide.f at H
 obtain ⟨⟨t826, t827, t828⟩, A3, H⟩ := bs1 H; dsimp only at H
 obtain ⟨⟨t829, t830, t831⟩, A4, H⟩ := bs1 H; dsimp only at H
 obtain ⟨t832, A5, H⟩ := bs1 H
 obtain ⟨t833, A6, H⟩ := bs1 H
 obtain ⟨t834, A7, H⟩ := bs1 H
 obtain ⟨t835, A8, H⟩ := bs1 H
 obtain ⟨⟨t836, t837, t838, t839⟩, A9, H⟩ := bs1 H; dsimp only at H
 simp only [Option.some.injEq, Prod.mk.injEq] at H
 obtain ⟨rfl, rfl, rfl, rfl⟩ := H
 go_enter Tryz.func29, Tryz.ntmps29
 try go_wp2_with (first | ((with_reducible refine gd 2 rfl ?_); refine bx 2 (#[.bool a0_0, .string a0_1, .string a0_2]) 24 ?_; intro gb823 hg w10 hbox hb; have BK823 := Aside0.mk (hbox); have GW823 := sg hg HB.out; have GE823 := sg hg HB.out; replace HB := Aside0.mk (bs HB.out hb); clear hb hbox hg) | ((with_reducible refine gd 3 rfl ?_); refine bx 3 (#[.bool a1_0, .string a1_1, .string a1_2]) 24 ?_; intro gb824 hg w11 hbox hb; have BK824 := Aside0.mk (hbox); have GW824 := sg hg HB.out; have GE824 := sg hg HB.out; replace HB := Aside0.mk (bs HB.out hb); have NB823_824 := nl hg BK823.out; have NB824_823 := nr hg BK823.out; replace BK823 := Aside0.mk (bk0 BK823.out hb); clear hb hbox hg) | ((with_reducible refine gd 4 rfl ?_); refine bx 4 (#[.bool false, .string (⟨#[]⟩ : ByteArray), .string (⟨#[]⟩ : ByteArray)]) 24 ?_; intro gb825 hg w12 hbox hb; have BK825 := Aside0.mk (hbox); have GW825 := sg hg HB.out; have GE825 := sg hg HB.out; replace HB := Aside0.mk (bs HB.out hb); have NB823_825 := nl hg BK823.out; have NB825_823 := nr hg BK823.out; replace BK823 := Aside0.mk (bk0 BK823.out hb); have NB824_825 := nl hg BK824.out; have NB825_824 := nr hg BK824.out; replace BK824 := Aside0.mk (bk0 BK824.out hb); clear hb hbox hg))
 replace BK823 := Aside0.mk (blk_drew BK823.out)
 replace BK824 := Aside0.mk (blk_drew BK824.out)
 replace BK825 := Aside0.mk (blk_drew BK825.out)
 replace HB := Aside0.mk (below_drew1 HB.out)
 refine start_ (n := 6) (S := fun w' => w'.cell? ⟨gb823, 0, none⟩ = some (.bool a0_0) ∧ w'.cell? ⟨gb823, 1, none⟩ = some (.string a0_1) ∧ w'.cell? ⟨gb823, 2, none⟩ = some (.string a0_2) ∧ w'.cell? ⟨gb824, 0, none⟩ = some (.bool a1_0) ∧ w'.cell? ⟨gb824, 1, none⟩ = some (.string a1_1) ∧ w'.cell? ⟨gb824, 2, none⟩ = some (.string a1_2)) (ds := [4, 5]) #[false, false, false, false, false, false] (by kernel_rfl) rfl rfl ⟨(blk_cell BK823.out 0).trans rfl, (blk_cell BK823.out 1).trans rfl, (blk_cell BK823.out 2).trans rfl, (blk_cell BK824.out 0).trans rfl, (blk_cell BK824.out 1).trans rfl, (blk_cell BK824.out 2).trans rfl⟩ (fun hHeld => ?_)
 generalize w12.drew = w13 at BK823 BK824 BK825 HB hHeld ⊢
 refine take_ (i := 0) (N := some 6) (v := ?_) (a' := ?_) #[true, false, false, false, false, false] rfl rfl (by kernel_rfl) (fun _ _ _ h => h) (Or.inl ⟨by rfl, ?_⟩) hHeld ?_ ?_
 rotate_left
 ·rintro w' ⟨s0, s1, s2, s3, s4, s5⟩
  go_simp
  with_reducible rfl
 rotate_left
 ·simp only [Act.put, List.setIfInBounds_toArray, List.set_cons_zero, List.set_cons_succ, i64_w, i32_w]
  rfl
 refine take_ (i := 2) (N := some 8) (v := ?_) (a' := ?_) #[true, false, true, false, false, false] rfl rfl (by kernel_rfl) (fun _ _ _ h => h) (Or.inl ⟨by rfl, ?_⟩) hHeld ?_ ?_
 rotate_left
 ·rintro w' ⟨s0, s1, s2, s3, s4, s5⟩
  go_simp
  with_reducible rfl
 rotate_left
 ·simp only [Act.put, List.setIfInBounds_toArray, List.set_cons_zero, List.set_cons_succ, i64_w, i32_w]
  rfl
 refine one_ (i := 1) (N := some 7) #[true, true, true, false, false, false] rfl rfl (by kernel_rfl) (by decide) (fun K hK => ?_)
 refine gs Tryz.func73 #[.agg #[.bool a0_0, .string a0_1, .string a0_2]] ?_
 with_reducible refine (rational_clean.calls k a0_0 a0_1 a0_2 t826 t827 t828 _ A3.out).mono ?_
 rintro e w14 ⟨rfl, hb⟩
 refine ⟨_, rfl, ?_⟩
 replace BK823 := Aside0.mk (bk0 BK823.out hb)
 replace BK824 := Aside0.mk (bk0 BK824.out hb)
 replace BK825 := Aside0.mk (bk0 BK825.out hb)
 replace HB := Aside0.mk (bs HB.out hb)
 (try clear hb)
 refine hK.out _ _ ⟨(blk_cell BK823.out 0).trans rfl, (blk_cell BK823.out 1).trans rfl, (blk_cell BK823.out 2).trans rfl, (blk_cell BK824.out 0).trans rfl, (blk_cell BK824.out 1).trans rfl, (blk_cell BK824.out 2).trans rfl⟩ (fun hHeld => ?_)
 clear hK K
 refine nm ?_
 refine one_ (i := 3) (N := some 9) #[true, true, true, true, false, false] rfl rfl (by kernel_rfl) (by decide) (fun K hK => ?_)
 refine gs Tryz.func73 #[.agg #[.bool a1_0, .string a1_1, .string a1_2]] ?_
 with_reducible refine (rational_clean.calls k a1_0 a1_1 a1_2 t829 t830 t831 _ A4.out).mono ?_
 rintro e w15 ⟨rfl, hb⟩
 refine ⟨_, rfl, ?_⟩
 replace BK823 := Aside0.mk (bk0 BK823.out hb)
 replace BK824 := Aside0.mk (bk0 BK824.out hb)
 replace BK825 := Aside0.mk (bk0 BK825.out hb)
 replace HB := Aside0.mk (bs HB.out hb)
 (try clear hb)
 refine hK.out _ _ ⟨(blk_cell BK823.out 0).trans rfl, (blk_cell BK823.out 1).trans rfl, (blk_cell BK823.out 2).trans rfl, (blk_cell BK824.out 0).trans rfl, (blk_cell BK824.out 1).trans rfl, (blk_cell BK824.out 2).trans rfl⟩ (fun hHeld => ?_)
 clear hK K
 refine nm ?_
 refine last_ (i := 4) (N := none) #[true, true, true, true, true, false] rfl rfl (by kernel_rfl) (by decide) (fun K hK => ?_)
 have hs16 : w15.cell? ⟨gb823, 0, none⟩ = some (.bool a0_0) := (blk_cell BK823.out 0).trans rfl
 have hfs16 := blk_frozen BK823.out 0
 have hns16_1 := NB824_823.out
 have hns16_2 := NB825_823.out
 have hms16_1 := NB823_824.out
 have hms16_2 := NB823_825.out
 have hs17 : w15.cell? ⟨gb823, 1, none⟩ = some (.string a0_1) := (blk_cell BK823.out 1).trans rfl
 have hfs17 := blk_frozen BK823.out 1
 have hns17_1 := NB824_823.out
 have hns17_2 := NB825_823.out
 have hms17_1 := NB823_824.out
 have hms17_2 := NB823_825.out
 have hs18 : w15.cell? ⟨gb823, 2, none⟩ = some (.string a0_2) := (blk_cell BK823.out 2).trans rfl
 have hfs18 := blk_frozen BK823.out 2
 have hns18_1 := NB824_823.out
 have hns18_2 := NB825_823.out
 have hms18_1 := NB823_824.out
 have hms18_2 := NB823_825.out
 refine skip_ (w1 := ?_) (by rfl) rfl ?_ ?_
 rotate_left
 ·go_simp
  rfl
 refine hK.out _ _ ?_
 clear hK K
 refine last_ (i := 5) (N := none) #[true, true, true, true, true, true] rfl rfl (by kernel_rfl) (by decide) (fun K hK => ?_)
 have hs19 : w15.cell? ⟨gb824, 0, none⟩ = some (.bool a1_0) := (blk_cell BK824.out 0).trans rfl
 have hfs19 := blk_frozen BK824.out 0
 have hns19_0 := NB823_824.out
 have hns19_2 := NB825_824.out
 have hms19_0 := NB824_823.out
 have hms19_2 := NB824_825.out
 have hs20 : w15.cell? ⟨gb824, 1, none⟩ = some (.string a1_1) := (blk_cell BK824.out 1).trans rfl
 have hfs20 := blk_frozen BK824.out 1
 have hns20_0 := NB823_824.out
 have hns20_2 := NB825_824.out
 have hms20_0 := NB824_823.out
 have hms20_2 := NB824_825.out
 have hs21 : w15.cell? ⟨gb824, 2, none⟩ = some (.string a1_2) := (blk_cell BK824.out 2).trans rfl
 have hfs21 := blk_frozen BK824.out 2
 have hns21_0 := NB823_824.out
 have hns21_2 := NB825_824.out
 have hms21_0 := NB824_823.out
 have hms21_2 := NB824_825.out
 refine skip_ (w1 := ?_) (by rfl) rfl ?_ ?_
 rotate_left
 ·go_simp
  rfl
 refine hK.out _ _ ?_
 clear hK K
 refine done_ (by kernel_rfl) ?_
 try go_wp2
 have n0_ : Aside0 (((((((w15.setCell ⟨gb823, 0, none⟩ (.bool t826)).setCell ⟨gb823, 1, none⟩ (.string t827)).setCell ⟨gb823, 2, none⟩ (.string t828)).setCell ⟨gb824, 0, none⟩ (.bool t829)).setCell ⟨gb824, 1, none⟩ (.string t830)).setCell ⟨gb824, 2, none⟩ (.string t831)).heap[gb823]? = some (.cells #[.bool t826, .string t827, .string t828] 24 (0, 0))) := ⟨bq BK823.out⟩
 have n1_ : Aside0 (((((((w15.setCell ⟨gb823, 0, none⟩ (.bool t826)).setCell ⟨gb823, 1, none⟩ (.string t827)).setCell ⟨gb823, 2, none⟩ (.string t828)).setCell ⟨gb824, 0, none⟩ (.bool t829)).setCell ⟨gb824, 1, none⟩ (.string t830)).setCell ⟨gb824, 2, none⟩ (.string t831)).heap[gb824]? = some (.cells #[.bool t829, .string t830, .string t831] 24 (0, 0))) := ⟨bq BK824.out⟩
 have n2_ : Aside0 (((((((w15.setCell ⟨gb823, 0, none⟩ (.bool t826)).setCell ⟨gb823, 1, none⟩ (.string t827)).setCell ⟨gb823, 2, none⟩ (.string t828)).setCell ⟨gb824, 0, none⟩ (.bool t829)).setCell ⟨gb824, 1, none⟩ (.string t830)).setCell ⟨gb824, 2, none⟩ (.string t831)).heap[gb825]? = some (.cells #[.bool false, .string (⟨#[]⟩ : ByteArray), .string (⟨#[]⟩ : ByteArray)] 24 (0, 0))) := ⟨bq BK825.out⟩
 have n3_ : Aside0 (Below w.heap.size w ((((((w15.setCell ⟨gb823, 0, none⟩ (.bool t826)).setCell ⟨gb823, 1, none⟩ (.string t827)).setCell ⟨gb823, 2, none⟩ (.string t828)).setCell ⟨gb824, 0, none⟩ (.bool t829)).setCell ⟨gb824, 1, none⟩ (.string t830)).setCell ⟨gb824, 2, none⟩ (.string t831))) := ⟨bz HB.out⟩
 (try clear BK823); (try clear BK824); (try clear BK825); (try clear HB)
 generalize ((((((w15.setCell ⟨gb823, 0, none⟩ (.bool t826)).setCell ⟨gb823, 1, none⟩ (.string t827)).setCell ⟨gb823, 2, none⟩ (.string t828)).setCell ⟨gb824, 0, none⟩ (.bool t829)).setCell ⟨gb824, 1, none⟩ (.string t830)).setCell ⟨gb824, 2, none⟩ (.string t831)) = w22 at n0_ n1_ n2_ n3_ ⊢
 have BK823 := n0_
 have BK824 := n1_
 have BK825 := n2_
 have HB := n3_
 clear n0_ n1_ n2_ n3_
 replace BK823 := Aside0.mk (blk_drew BK823.out)
 replace BK824 := Aside0.mk (blk_drew BK824.out)
 replace BK825 := Aside0.mk (blk_drew BK825.out)
 replace HB := Aside0.mk (below_drew1 HB.out)
 refine start_ (n := 20) (S := fun w' => w'.cell? ⟨gb823, 0, none⟩ = some (.bool t826) ∧ w'.cell? ⟨gb823, 1, none⟩ = some (.string t827) ∧ w'.cell? ⟨gb823, 2, none⟩ = some (.string t828) ∧ w'.cell? ⟨gb824, 0, none⟩ = some (.bool t829) ∧ w'.cell? ⟨gb824, 1, none⟩ = some (.string t830) ∧ w'.cell? ⟨gb824, 2, none⟩ = some (.string t831)) (ds := []) #[false, false, false, false, false, false, false, false, false, false, false, false, false, false, false, false, false, false, false, false] (by kernel_rfl) rfl rfl ⟨(blk_cell BK823.out 0).trans rfl, (blk_cell BK823.out 1).trans rfl, (blk_cell BK823.out 2).trans rfl, (blk_cell BK824.out 0).trans rfl, (blk_cell BK824.out 1).trans rfl, (blk_cell BK824.out 2).trans rfl⟩ (fun hHeld => ?_); refine with_tabW rational_Divide.tab2 rational_Divide.bits2 (fun HT_ HW_ => ?_)
 generalize w22.drew = w23 at BK823 BK824 BK825 HB hHeld ⊢
 refine py 0 (some 10) #[true, false, false, false, false, false, false, false, false, false, false, false, false, false, false, false, false, false, false, false] HT_ ?_
 refine py 2 (some 12) #[true, false, true, false, false, false, false, false, false, false, false, false, false, false, false, false, false, false, false, false] HT_ ?_
 refine py 5 (some 15) #[true, false, true, false, false, true, false, false, false, false, false, false, false, false, false, false, false, false, false, false] HT_ ?_
 refine py 12 (some 22) #[true, false, true, false, false, true, false, false, false, false, false, false, true, false, false, false, false, false, false, false] HT_ ?_
 refine take_ (i := 1) (N := some 11) (v := ?_) (a' := ?_) #[true, true, true, false, false, true, false, false, false, false, false, false, true, false, false, false, false, false, false, false] rfl rfl (take_ofW HT_.out HW_.out (by kernel_rfl)) (fun _ _ _ h => h) (Or.inl ⟨by rfl, ?_⟩) hHeld ?_ ?_
 rotate_left
 ·rintro w' ⟨s0, s1, s2, s3, s4, s5⟩
  go_simp
  with_reducible rfl
 rotate_left
 ·simp only [Act.put, List.setIfInBounds_toArray, List.set_cons_zero, List.set_cons_succ, i64_w, i32_w]
  rfl
 refine take_ (i := 3) (N := some 13) (v := ?_) (a' := ?_) #[true, true, true, true, false, true, false, false, false, false, false, false, true, false, false, false, false, false, false, false] rfl rfl (take_ofW HT_.out HW_.out (by kernel_rfl)) (fun _ _ _ h => h) (Or.inl ⟨by rfl, ?_⟩) hHeld ?_ ?_
 rotate_left
 ·rintro w' ⟨s0, s1, s2, s3, s4, s5⟩
  go_simp
  with_reducible rfl
 rotate_left
 ·simp only [Act.put, List.setIfInBounds_toArray, List.set_cons_zero, List.set_cons_succ, i64_w, i32_w]
  rfl
 refine py 4 (some 14) #[true, true, true, true, true, true, false, false, false, false, false, false, true, false, false, false, false, false, false, false] HT_ ?_
 refine take_ (i := 6) (N := some 16) (v := ?_) (a' := ?_) #[true, true, true, true, true, true, true, false, false, false, false, false, true, false, false, false, false, false, false, false] rfl rfl (take_ofW HT_.out HW_.out (by kernel_rfl)) (fun _ _ _ h => h) (Or.inl ⟨by rfl, ?_⟩) hHeld ?_ ?_
 rotate_left
 ·rintro w' ⟨s0, s1, s2, s3, s4, s5⟩
  go_simp
  with_reducible rfl
 rotate_left
 ·simp only [Act.put, List.setIfInBounds_toArray, List.set_cons_zero, List.set_cons_succ, i64_w, i32_w]
  rfl
 refine take_ (i := 7) (N := some 17) (v := ?_) (a' := ?_) #[true, true, true, true, true, true, true, true, false, false, false, false, true, false, false, false, false, false, false, false] rfl rfl (take_ofW HT_.out HW_.out (by kernel_rfl)) (fun _ _ _ h => h) (Or.inl ⟨by rfl, ?_⟩) hHeld ?_ ?_
 rotate_left
 ·rintro w' ⟨s0, s1, s2, s3, s4, s5⟩
  go_simp
  with_reducible rfl
 rotate_left
 ·simp only [Act.put, List.setIfInBounds_toArray, List.set_cons_zero, List.set_cons_succ, i64_w, i32_w]
  rfl
 refine take_ (i := 10) (N := some 20) (v := ?_) (a' := ?_) #[true, true, true, true, true, true, true, true, false, false, true, false, true, false, false, false, false, false, false, false] rfl rfl (take_ofW HT_.out HW_.out (by kernel_rfl)) (fun _ _ _ h => h) (Or.inl ⟨by rfl, ?_⟩) hHeld ?_ ?_
 rotate_left
 ·rintro w' ⟨s0, s1, s2, s3, s4, s5⟩
  go_simp
  with_reducible rfl
 rotate_left
 ·simp only [Act.put, List.setIfInBounds_toArray, List.set_cons_zero, List.set_cons_succ, i64_w, i32_w]
  rfl
 refine take_ (i := 13) (N := some 23) (v := ?_) (a' := ?_) #[true, true, true, true, true, true, true, true, false, false, true, false, true, true, false, false, false, false, false, false] rfl rfl (take_ofW HT_.out HW_.out (by kernel_rfl)) (fun _ _ _ h => h) (Or.inl ⟨by rfl, ?_⟩) hHeld ?_ ?_
 rotate_left
 ·rintro w' ⟨s0, s1, s2, s3, s4, s5⟩
  go_simp
  with_reducible rfl
 rotate_left
 ·simp only [Act.put, List.setIfInBounds_toArray, List.set_cons_zero, List.set_cons_succ, i64_w, i32_w]
  rfl
 refine one_ (i := 8) (N := some 18) #[true, true, true, true, true, true, true, true, true, false, true, false, true, true, false, false, false, false, false, false] rfl rfl (one_of HT_.out (by kernel_rfl)) (by decide) (fun K hK => ?_)
 refine gs Tryz.func77 #[.agg #[.bool t829, .string t830, .string t831]] ?_
 with_reducible refine (rational_den.calls t829 t830 t831 t832 _ A5.out).mono ?_
 rintro e w24 ⟨rfl, hb⟩
 refine ⟨_, rfl, ?_⟩
 replace BK823 := Aside0.mk (bk0 BK823.out hb)
 replace BK824 := Aside0.mk (bk0 BK824.out hb)
 replace BK825 := Aside0.mk (bk0 BK825.out hb)
 replace HB := Aside0.mk (bs HB.out hb)
 (try clear hb)
 refine hK.out _ _ ⟨(blk_cell BK823.out 0).trans rfl, (blk_cell BK823.out 1).trans rfl, (blk_cell BK823.out 2).trans rfl, (blk_cell BK824.out 0).trans rfl, (blk_cell BK824.out 1).trans rfl, (blk_cell BK824.out 2).trans rfl⟩ (fun hHeld => ?_)
 clear hK K
 refine nm ?_
 refine one_ (i := 9) (N := some 19) #[true, true, true, true, true, true, true, true, true, true, true, false, true, true, false, false, false, false, false, false] rfl rfl (one_of HT_.out (by kernel_rfl)) (by decide) (fun K hK => ?_)
 refine gs Tryz.func64 #[.string t827, .string t832] ?_
 with_reducible refine (natural_Multiply.calls k t827 t832 t833 _ A6.out).mono ?_
 rintro e w25 ⟨rfl, hb⟩
 refine ⟨_, rfl, ?_⟩
 replace BK823 := Aside0.mk (bk0 BK823.out hb)
 replace BK824 := Aside0.mk (bk0 BK824.out hb)
 replace BK825 := Aside0.mk (bk0 BK825.out hb)
 replace HB := Aside0.mk (bs HB.out hb)
 (try clear hb)
 refine hK.out _ _ ⟨(blk_cell BK823.out 0).trans rfl, (blk_cell BK823.out 1).trans rfl, (blk_cell BK823.out 2).trans rfl, (blk_cell BK824.out 0).trans rfl, (blk_cell BK824.out 1).trans rfl, (blk_cell BK824.out 2).trans rfl⟩ (fun hHeld => ?_)
 clear hK K
 refine nm ?_
 refine one_ (i := 11) (N := some 21) #[true, true, true, true, true, true, true, true, true, true, true, true, true, true, false, false, false, false, false, false] rfl rfl (one_of HT_.out (by kernel_rfl)) (by decide) (fun K hK => ?_)
 refine gs Tryz.func77 #[.agg #[.bool t826, .string t827, .string t828]] ?_
 with_reducible refine (rational_den.calls t826 t827 t828 t834 _ A7.out).mono ?_
 rintro e w26 ⟨rfl, hb⟩
 refine ⟨_, rfl, ?_⟩
 replace BK823 := Aside0.mk (bk0 BK823.out hb)
 replace BK824 := Aside0.mk (bk0 BK824.out hb)
 replace BK825 := Aside0.mk (bk0 BK825.out hb)
 replace HB := Aside0.mk (bs HB.out hb)
 (try clear hb)
 refine hK.out _ _ ⟨(blk_cell BK823.out 0).trans rfl, (blk_cell BK823.out 1).trans rfl, (blk_cell BK823.out 2).trans rfl, (blk_cell BK824.out 0).trans rfl, (blk_cell BK824.out 1).trans rfl, (blk_cell BK824.out 2).trans rfl⟩ (fun hHeld => ?_)
 clear hK K
 refine nm ?_
 refine one_ (i := 14) (N := some 24) #[true, true, true, true, true, true, true, true, true, true, true, true, true, true, true, false, false, false, false, false] rfl rfl (one_of HT_.out (by kernel_rfl)) (by decide) (fun K hK => ?_)
 refine gs Tryz.func64 #[.string t834, .string t830] ?_
 with_reducible refine (natural_Multiply.calls k t834 t830 t835 _ A8.out).mono ?_
 rintro e w27 ⟨rfl, hb⟩
 refine ⟨_, rfl, ?_⟩
 replace BK823 := Aside0.mk (bk0 BK823.out hb)
 replace BK824 := Aside0.mk (bk0 BK824.out hb)
 replace BK825 := Aside0.mk (bk0 BK825.out hb)
 replace HB := Aside0.mk (bs HB.out hb)
 (try clear hb)
 refine hK.out _ _ ⟨(blk_cell BK823.out 0).trans rfl, (blk_cell BK823.out 1).trans rfl, (blk_cell BK823.out 2).trans rfl, (blk_cell BK824.out 0).trans rfl, (blk_cell BK824.out 1).trans rfl, (blk_cell BK824.out 2).trans rfl⟩ (fun hHeld => ?_)
 clear hK K
 refine nm ?_
 refine one_ (i := 15) (N := some 25) #[true, true, true, true, true, true, true, true, true, true, true, true, true, true, true, true, false, false, false, false] rfl rfl (one_of HT_.out (by kernel_rfl)) (by decide) (fun K hK => ?_)
 refine gs Tryz.func83 #[.bool (t826 != t829), .string t833, .string t835] ?_
 with_reducible refine (rational_Make.calls k (t826 != t829) t833 t835 t836 t837 t838 t839 _ A9.out).mono ?_
 rintro e w28 ⟨rfl, hb⟩
 refine ⟨_, rfl, ?_⟩
 replace BK823 := Aside0.mk (bk0 BK823.out hb)
 replace BK824 := Aside0.mk (bk0 BK824.out hb)
 replace BK825 := Aside0.mk (bk0 BK825.out hb)
 replace HB := Aside0.mk (bs HB.out hb)
 (try clear hb)
 refine hK.out _ _ ⟨(blk_cell BK823.out 0).trans rfl, (blk_cell BK823.out 1).trans rfl, (blk_cell BK823.out 2).trans rfl, (blk_cell BK824.out 0).trans rfl, (blk_cell BK824.out 1).trans rfl, (blk_cell BK824.out 2).trans rfl⟩ (fun hHeld => ?_)
 clear hK K
 refine nm ?_
 refine py 16 (some 26) #[true, true, true, true, true, true, true, true, true, true, true, true, true, true, true, true, true, false, false, false] HT_ ?_
 refine py 17 (some 27) #[true, true, true, true, true, true, true, true, true, true, true, true, true, true, true, true, true, true, false, false] HT_ ?_
 refine one_ (i := 18) (N := none) #[true, true, true, true, true, true, true, true, true, true, true, true, true, true, true, true, true, true, true, false] rfl rfl (one_of HT_.out (by kernel_rfl)) (by decide) (fun K hK => ?_)
 have hs29 : w28.cell? ⟨gb825, 0, none⟩ = some (.bool false) := (blk_cell BK825.out 0).trans rfl
 have hfs29 := blk_frozen BK825.out 0
 have hns29_0 := NB823_825.out
 have hns29_1 := NB824_825.out
 have hms29_0 := NB825_823.out
 have hms29_1 := NB825_824.out
 have hs30 : w28.cell? ⟨gb825, 1, none⟩ = some (.string (⟨#[]⟩ : ByteArray)) := (blk_cell BK825.out 1).trans rfl
 have hfs30 := blk_frozen BK825.out 1
 have hns30_0 := NB823_825.out
 have hns30_1 := NB824_825.out
 have hms30_0 := NB825_823.out
 have hms30_1 := NB825_824.out
 have hs31 : w28.cell? ⟨gb825, 2, none⟩ = some (.string (⟨#[]⟩ : ByteArray)) := (blk_cell BK825.out 2).trans rfl
 have hfs31 := blk_frozen BK825.out 2
 have hns31_0 := NB823_825.out
 have hns31_1 := NB824_825.out
 have hms31_0 := NB825_823.out
 have hms31_1 := NB825_824.out
 refine skip_ (w1 := ?_) (by rfl) rfl ?_ ?_
 rotate_left
 ·go_simp
  rfl
 refine hK.out _ _ ⟨((cell_far (p := ⟨gb825, _, none⟩) NB823_825.out _).trans (((cell_far (p := ⟨gb825, _, none⟩) NB823_825.out _).trans (((cell_far (p := ⟨gb825, _, none⟩) NB823_825.out _).trans (hHeld.1)))))), ((cell_far (p := ⟨gb825, _, none⟩) NB823_825.out _).trans (((cell_far (p := ⟨gb825, _, none⟩) NB823_825.out _).trans (((cell_far (p := ⟨gb825, _, none⟩) NB823_825.out _).trans (hHeld.2.1)))))), ((cell_far (p := ⟨gb825, _, none⟩) NB823_825.out _).trans (((cell_far (p := ⟨gb825, _, none⟩) NB823_825.out _).trans (((cell_far (p := ⟨gb825, _, none⟩) NB823_825.out _).trans (hHeld.2.2.1)))))), ((cell_far (p := ⟨gb825, _, none⟩) NB824_825.out _).trans (((cell_far (p := ⟨gb825, _, none⟩) NB824_825.out _).trans (((cell_far (p := ⟨gb825, _, none⟩) NB824_825.out _).trans (hHeld.2.2.2.1)))))), ((cell_far (p := ⟨gb825, _, none⟩) NB824_825.out _).trans (((cell_far (p := ⟨gb825, _, none⟩) NB824_825.out _).trans (((cell_far (p := ⟨gb825, _, none⟩) NB824_825.out _).trans (hHeld.2.2.2.2.1)))))), ((cell_far (p := ⟨gb825, _, none⟩) NB824_825.out _).trans (((cell_far (p := ⟨gb825, _, none⟩) NB824_825.out _).trans (((cell_far (p := ⟨gb825, _, none⟩) NB824_825.out _).trans (hHeld.2.2.2.2.2))))))⟩ (fun hHeld => ?_)
 clear hK K
 refine py 19 (some 5) #[true, true, true, true, true, true, true, true, true, true, true, true, true, true, true, true, true, true, true, true] HT_ ?_
 refine done_ (done_of HT_.out (by kernel_rfl)) ?_
 try go_wp2
 refine bodyPost_ret (results_ct rfl _ _ gb825 24 #[.bool t836, .string t837, .string t838] (0, 0) _ rfl (bq BK825.out) Tryz.underlying24 rfl (by kernel_rfl)) rfl ?_
 exact ⟨fe, bz HB.out⟩

/-! ### natural_subtract: function 154 -/
def natural_subtract.l0 : Nat → List Int → List Int → List Int → Int → Int → Int → Option (List Int)
 | 0, _, _, _, _, _, _ => none
 | k + 1, x0, x1, x5, x6, x13, x14 => if x14 < x13 then (if x14 < (x1.length : Int) then (if 0 ≤ x14 then (if x14 < (x0.length : Int) then ((bits_Sub32.f (rd x0 x14) (rd x1 x14) x6).bind fun bt929 => (if x14 < (x5.length : Int) then (natural_subtract.l0 k x0 x1 (x5.set (x14 : Int).toNat bt929.1) bt929.2 x13 (wrap64 (x14 + 1))) else (none))) else (none)) else (none)) else (if 0 ≤ x14 then (if x14 < (x0.length : Int) then ((bits_Sub32.f (rd x0 x14) 0 x6).bind fun bt933 => (if x14 < (x5.length : Int) then (natural_subtract.l0 k x0 x1 (x5.set (x14 : Int).toNat bt933.1) bt933.2 x13 (wrap64 (x14 + 1))) else (none))) else (none)) else (none))) else ((natural_limbs_trim.f k x5).bind fun t936 => (some t936))
def natural_subtract.f (k : Nat) (l0 : List Int) (l1 : List Int) : Option (List Int) := if 0 ≤ (l0.length : Int) then (if ((l0.length : Int) : Int).toNat ≤ 70368744177664 then (natural_subtract.l0 k l0 l1 (List.replicate ((l0.length : Int) : Int).toNat 0) 0 (l0.length : Int) 0) else (none)) else (none)
set_option maxHeartbeats 8000000 in
set_option maxRecDepth 100000 in
theorem natural_subtract.calls (k : Nat) (A0 : Option Addr) (c0 : Nat) (l0 : List Int) (A1 : Option Addr) (c1 : Nat) (l1 : List Int) (r : List Int) (w : World) (hr0 : Kd.C (Kd.int .u32) w A0 l0.length l0) (hc0 : l0.length ≤ c0) (hr1 : Kd.C (Kd.int .u32) w A1 l1.length l1) (hc1 : l1.length ≤ c1) (h : natural_subtract.f k l0 l1 = some r) :
  Calls Tryz.prog 154 #[.slice A0 l0.length c0, .slice A1 l1.length c1] w fun e w' => ∃ v0_ : Value, e = .returned (v0_) ∧ Kd.V (Kd.int .u32) 52 w' w.heap.size (fun k_ => (w.heap.size ≤ k_)) v0_ r ∧ Below w.heap.size w w' := by
 have HR0 := Aside0.mk hr0
 have HC0 := Aside0.mk hc0
 clear hr0 hc0
 have HR1 := Aside0.mk hr1
 have HC1 := Aside0.mk hc1
 clear hr1 hc1
 have HB := Aside0.mk (Below.refl w.heap.size w)
 have H := h
 clear h
 unfold natural_subtract.f at H
 obtain ⟨c3, H⟩ := iN H
 have c3b0 := eq_true c3
 have c3b1 : decide (0 ≤ (l0.length : Int)) = true := decide_eq_true c3
 clear c3
 obtain ⟨c4, H⟩ := iN H
 have c4b0 := eq_true c4
 have c4b1 : decide (((l0.length : Int) : Int).toNat ≤ 70368744177664) = true := decide_eq_true c4
 clear c4
 obtain ⟨y924, hy924⟩ : ∃ y_ : List Int, y_ = (List.replicate ((l0.length : Int) : Int).toNat 0) := ⟨_, rfl⟩
 (try first | rw [← hy924] at H | (dsimp only at H; rw [← hy924] at H)); (try rw [Option.bind_some] at H)
 have Ny924 := Aside0.mk hy924
 clear hy924
 have H' := Aside0.mk H
 clear H
 go_enter Tryz.func154, Tryz.ntmps154
 go_wp2_with (first | ((with_reducible refine gd 11 rfl ?_); refine Kd.R_make (Kd.int .u32) _ 52 rfl (N := 11) rfl 88 _ _ rfl (l0.length : Int) rfl rfl Tryz.underlying88 (.int .u32 0) 4 info52 rfl (by decide) (by omega) 0 (ok := fun _ => True) (okp := fun _ => True) rfl (fun _ hk => hk) trivial oa (Nat.le_trans (Nat.mul_le_mul_right _ (oa : (l0.length : Int).toNat ≤ 70368744177664)) (by omega)) (Below.refl _ _) (Nat.le_refl _) ?_; intro v925 w5 ho6 hb hg_ hnew_; clear hg_ hnew_; (first | rw [← Ny924.out] at ho6 | (simp only [Int.reduceToNat] at ho6; rw [← Ny924.out] at ho6)); have HO926 := Aside0.mk (Kd.R_lower (Kd.R_newM (M := fun k_ => (w.heap.size ≤ k_)) ho6 (sz HB.out) (fun k_ h_ => h_)) (sz HB.out)); replace HB := Aside0.mk (bs HB.out hb); clear hb ho6))
 go_loopg [6, 14] k (fun kq v6 v14 w' => ∃ (x5_1 : List Int) (x6_1 : Int) (x14_1 : Int), v6 = .int .u32 x6_1 ∧ v14 = .int .i64 x14_1 ∧ Aside0 (natural_subtract.l0 kq l0 l1 x5_1 x6_1 (l0.length : Int) x14_1 = some r) ∧ Aside0 (kq ≤ k) ∧ Aside0 (Kd.R (Kd.int .u32) 52 w' w.heap.size (fun k_ => (w.heap.size ≤ k_)) v925 x5_1) ∧ Aside0 (Below w.heap.size w w'))
 case atStart => exact ⟨(y924), (0), (0), fs, fs, H', ⟨Nat.le_refl _⟩, ⟨rm HO926.out (fun _ hk => hk.1)⟩, ⟨bz HB.out⟩⟩
 case round =>
  clear H'
  (try clear c1); (try clear c3b0); (try clear c3b1); (try clear c4b0); (try clear c4b1)
  obtain ⟨x5_1, x6_1, x14_1, rfl, rfl, HA, HK1, HO_5, HB⟩ := hrel
  cases gk with
  | zero => exact absurd HA.out (by simp [natural_subtract.l0])
  | succ k1 =>
   have H := HA.out
   clear HA
   simp only [natural_subtract.l0] at H
   by_cases c7 : x14_1 < (l0.length : Int)
   ·rw [if_pos c7] at H
    have c7b0 : decide (x14_1 < (l0.length : Int)) = true := decide_eq_true c7
    clear c7
    by_cases c8 : x14_1 < (l1.length : Int)
    ·rw [if_pos c8] at H
     have c8b0 : decide (x14_1 < (l1.length : Int)) = true := decide_eq_true c8
     clear c8
     obtain ⟨c9, H⟩ := iN H
     have c9b0 : decide (0 ≤ x14_1) = true := decide_eq_true c9
     clear c9
     obtain ⟨c10, H⟩ := iN H
     have c10b0 : decide (x14_1 < (l0.length : Int)) = true := decide_eq_true c10
     clear c10
     obtain ⟨⟨t929, t930⟩, A11, H⟩ := bs1 H; dsimp only at H
     obtain ⟨c12, H⟩ := iN H
     have c12b0 : decide (x14_1 < (x5_1.length : Int)) = true := decide_eq_true c12
     clear c12
     obtain ⟨y931, hy931⟩ : ∃ y_ : List Int, y_ = (x5_1.set (x14_1 : Int).toNat t929) := ⟨_, rfl⟩
     (try first | rw [← hy931] at H | (dsimp only at H; rw [← hy931] at H)); (try rw [Option.bind_some] at H)
     have Ny931 := Aside0.mk hy931
     clear hy931
     have H' := Aside0.mk H
     clear H
     have p927 : 0 ≤ (x14_1 : Int) := oa
     have q927 : x14_1 < (l1.length : Int) := oa
     obtain ⟨ad927, e927, hx927_0⟩ := Kd.at_int HR1.out x14_1 p927 q927
     cases e927
     try replace hx927_0 := (HB.out.cell (World.block_lt_of_cell? w _ hx927_0)).trans hx927_0
     replace p927 := eq_true p927
     replace q927 := eq_true q927
     have p928 : 0 ≤ (x14_1 : Int) := oa
     have q928 : x14_1 < (l0.length : Int) := oa
     obtain ⟨ad928, e928, hx928_0⟩ := Kd.at_int HR0.out x14_1 p928 q928
     cases e928
     try replace hx928_0 := (HB.out.cell (World.block_lt_of_cell? w _ hx928_0)).trans hx928_0
     replace p928 := eq_true p928
     replace q928 := eq_true q928
     go_wp2_with (first | ((with_reducible refine gc 167 rfl ?_); refine gl (some 34) Tryz.func167 #[.int .u32 (rd l0 x14_1), .int .u32 (rd l1 x14_1), .int .u32 x6_1] ?_; (with_reducible refine (bits_Sub32.calls (rd l0 x14_1) (rd l1 x14_1) x6_1 t929 t930 _ A11.out).mono ?_); rintro e w' ⟨rfl, ⟨nd, rfl⟩⟩; refine ⟨_, rfl, ?_⟩; (try (rw [drewN_self wr]; generalize hq_ : World.drewN wr _ = wr; have n0_ : Aside0 (Kd.R (Kd.int .u32) 52 wr w.heap.size (fun k_ => (w.heap.size ≤ k_)) v925 x5_1) := ⟨by rw [← hq_]; exact (vs HO_5.out)⟩; have n1_ : Aside0 (Below w.heap.size w wr) := ⟨by rw [← hq_]; exact (bz HB.out)⟩; clear HO_5 HB hq_; have HO_5 := n0_; have HB := n1_; clear n0_ n1_)); have p13 : 0 ≤ (x14_1 : Int) := oa; have q13 : (x14_1 : Int) < ((x5_1.length : Int) : Int) := oa; obtain ⟨go13, co13, eo13, gb13, gl13, cl13, HG13⟩ := Kd.R_form HO_5.out (by omega); (first | cases eo13 | (injection eo13 with ea_ en_ ec_; (first | subst ea_ | (injection ea_ with ea_; subst ea_)); subst ec_; clear en_)); have GB13 := Aside0.mk gb13; have GG13 := Aside0.mk HG13; clear gb13 gl13 HG13; obtain ⟨hx13_0, hf13_0⟩ := Kd.R_celln 0 HO_5.out (x14_1 : Int) p13 q13; replace p13 := eq_true p13; replace q13 := eq_true q13; obtain ⟨hy14_, hz14_⟩ := Kd.R_celln 0 HO_5.out (x14_1 : Int) oa oa; have HP14 := Kd.R_putg HO_5.out (x14_1 : Int) t929) | ((with_reducible refine gate_store (t := 52) (p := 37) rfl ?_); refine se 52 37 (w1 := (wr.setCell ⟨go13, (x14_1 : Int).toNat, none⟩ (.int .u32 t929))) ?_; intro w15 hw; have hg : wr.grownBy w15 (some go13) := (by rw [hw]; exact HP14.2); have hp_ : Kd.R (Kd.int .u32) 52 w15 w.heap.size (fun k_ => (w.heap.size ≤ k_)) (.slice (some ⟨go13, 0, none⟩) x5_1.length co13) y931 := (by rw [hw, Ny931.out]; exact HP14.1); clear HP14; replace HO_5 := Aside0.mk (hp_); replace HB := Aside0.mk ((by rw [hw]; exact below_set (HB.out) GB13.out : Below w.heap.size w w15)); clear hg hw hp_))
     go_roundg k1
     case measure => have := HK1.out; omega
     case rel => exact ⟨(y931), (t930), (wrap64 (x14_1 + 1)), fs, fs, H', ⟨by have := HK1.out; omega⟩, ⟨vs HO_5.out⟩, ⟨bz HB.out⟩⟩
    ·rw [if_neg c8] at H
     have c8b0 : decide (x14_1 < (l1.length : Int)) = false := decide_eq_false c8
     clear c8
     obtain ⟨c16, H⟩ := iN H
     have c16b0 : decide (0 ≤ x14_1) = true := decide_eq_true c16
     clear c16
     obtain ⟨c17, H⟩ := iN H
     have c17b0 : decide (x14_1 < (l0.length : Int)) = true := decide_eq_true c17
     clear c17
     obtain ⟨⟨t933, t934⟩, A18, H⟩ := bs1 H; dsimp only at H
     obtain ⟨c19, H⟩ := iN H
     have c19b0 : decide (x14_1 < (x5_1.length : Int)) = true := decide_eq_true c19
     clear c19
     obtain ⟨y935, hy935⟩ : ∃ y_ : List Int, y_ = (x5_1.set (x14_1 : Int).toNat t933) := ⟨_, rfl⟩
     (try first | rw [← hy935] at H | (dsimp only at H; rw [← hy935] at H)); (try rw [Option.bind_some] at H)
     have Ny935 := Aside0.mk hy935
     clear hy935
     have H' := Aside0.mk H
     clear H
     have p932 : 0 ≤ (x14_1 : Int) := oa
     have q932 : x14_1 < (l0.length : Int) := oa
     obtain ⟨ad932, e932, hx932_0⟩ := Kd.at_int HR0.out x14_1 p932 q932
     cases e932
     try replace hx932_0 := (HB.out.cell (World.block_lt_of_cell? w _ hx932_0)).trans hx932_0
     replace p932 := eq_true p932
     replace q932 := eq_true q932
     go_wp2_with (first | ((with_reducible refine gc 167 rfl ?_); refine gl (some 34) Tryz.func167 #[.int .u32 (rd l0 x14_1), .int .u32 0, .int .u32 x6_1] ?_; (with_reducible refine (bits_Sub32.calls (rd l0 x14_1) 0 x6_1 t933 t934 _ A18.out).mono ?_); rintro e w' ⟨rfl, ⟨nd, rfl⟩⟩; refine ⟨_, rfl, ?_⟩; (try (rw [drewN_self wr]; generalize hq_ : World.drewN wr _ = wr; have n0_ : Aside0 (Kd.R (Kd.int .u32) 52 wr w.heap.size (fun k_ => (w.heap.size ≤ k_)) v925 x5_1) := ⟨by rw [← hq_]; exact (vs HO_5.out)⟩; have n1_ : Aside0 (Below w.heap.size w wr) := ⟨by rw [← hq_]; exact (bz HB.out)⟩; clear HO_5 HB hq_; have HO_5 := n0_; have HB := n1_; clear n0_ n1_)); have p20 : 0 ≤ (x14_1 : Int) := oa; have q20 : (x14_1 : Int) < ((x5_1.length : Int) : Int) := oa; obtain ⟨go20, co20, eo20, gb20, gl20, cl20, HG20⟩ := Kd.R_form HO_5.out (by omega); (first | cases eo20 | (injection eo20 with ea_ en_ ec_; (first | subst ea_ | (injection ea_ with ea_; subst ea_)); subst ec_; clear en_)); have GB20 := Aside0.mk gb20; have GG20 := Aside0.mk HG20; clear gb20 gl20 HG20; obtain ⟨hx20_0, hf20_0⟩ := Kd.R_celln 0 HO_5.out (x14_1 : Int) p20 q20; replace p20 := eq_true p20; replace q20 := eq_true q20; obtain ⟨hy21_, hz21_⟩ := Kd.R_celln 0 HO_5.out (x14_1 : Int) oa oa; have HP21 := Kd.R_putg HO_5.out (x14_1 : Int) t933) | ((with_reducible refine gate_store (t := 52) (p := 37) rfl ?_); refine se 52 37 (w1 := (wr.setCell ⟨go20, (x14_1 : Int).toNat, none⟩ (.int .u32 t933))) ?_; intro w22 hw; have hg : wr.grownBy w22 (some go20) := (by rw [hw]; exact HP21.2); have hp_ : Kd.R (Kd.int .u32) 52 w22 w.heap.size (fun k_ => (w.heap.size ≤ k_)) (.slice (some ⟨go20, 0, none⟩) x5_1.length co20) y935 := (by rw [hw, Ny935.out]; exact HP21.1); clear HP21; replace HO_5 := Aside0.mk (hp_); replace HB := Aside0.mk ((by rw [hw]; exact below_set (HB.out) GB20.out : Below w.heap.size w w22)); clear hg hw hp_))
     go_roundg k1
     case measure => have := HK1.out; omega
     case rel => exact ⟨(y935), (t934), (wrap64 (x14_1 + 1)), fs, fs, H', ⟨by have := HK1.out; omega⟩, ⟨vs HO_5.out⟩, ⟨bz HB.out⟩⟩
   ·rw [if_neg c7] at H
    have c7b0 : decide (x14_1 < (l0.length : Int)) = false := decide_eq_false c7
    clear c7
    obtain ⟨t936, A23, H⟩ := bs1 H
    obtain rfl := Option.some.inj H
    obtain ⟨Ao24, co24, eo24⟩ := Kd.R_slice HO_5.out
    subst eo24
    go_wp2_with (first | ((with_reducible refine gc 137 rfl ?_); refine gl (some 40) Tryz.func137 #[.slice Ao24 x5_1.length co24] ?_; (with_reducible refine (natural_limbs_trim.calls k1 (fun k_ => some k_ = (.slice Ao24 x5_1.length co24 : Value).ownBlock) _ _ x5_1 t936 _ ?side1 A23.out).mono ?_); (case side1 => exact Kd.R_V (Kd.R_tight rfl (HO_5.out))); rintro e w25 ⟨v937, rfl, ho0, hb⟩; refine ⟨_, rfl, ?_⟩; have HO938 := Aside0.mk (Kd.V_lower (Kd.V_mono (ok' := fun k_ => (w.heap.size ≤ k_)) ho0 (fun k_ hk_ => Or.elim hk_ (fun hs_ => ((HO_5.out).1 k_ hs_.symm)) (fun hn_ => (Nat.le_trans (sz HB.out) hn_)))) (sz HB.out)); replace HO_5 := Aside0.mk (rb HO_5.out hb); replace HB := Aside0.mk (bs HB.out hb); (try clear hb ho0)))
    go_ret
    exact ⟨_, fe, vs HO938.out, bz HB.out⟩

/-! ### natural_Subtract: function 130 -/
def natural_Subtract.f (k : Nat) (a0 : ByteArray) (a1 : ByteArray) : Option (ByteArray × Bool) := (natural_parse.f k a0).bind fun t939 => ((natural_parse.f k a1).bind fun t942 => ((natural_compare.f k t939 t942).bind fun t945 => (if t945 < 0 then (some ((⟨#[]⟩ : ByteArray), false)) else ((natural_subtract.f k t939 t942).bind fun t946 => ((natural_limbs_text.f k t946).bind fun t949 => (some (t949, true)))))))
set_option maxHeartbeats 8000000 in
set_option maxRecDepth 100000 in
theorem natural_Subtract.calls (k : Nat) (a0 : ByteArray) (a1 : ByteArray) (r1 : ByteArray) (r2 : Bool) (w : World) (h : natural_Subtract.f k a0 a1 = some (r1, r2)) :
  Calls Tryz.prog 130 #[.string a0, .string a1] w fun e w' => e = .returned (.tuple #[.string r1, .bool r2]) ∧ Below w.heap.size w w' := by
 have HB := Aside0.mk (Below.refl w.heap.size w)
 have H := h
 clear h
 unfold natural_Subtract.f at H
 obtain ⟨t939, A3, H⟩ := bs1 H
 obtain ⟨t942, A4, H⟩ := bs1 H
 obtain ⟨t945, A5, H⟩ := bs1 H
 by_cases c6 : t945 < 0
 ·rw [if_pos c6] at H
  have c6b0 : decide (t945 < 0) = true := decide_eq_true c6
  clear c6
  simp only [Option.some.injEq, Prod.mk.injEq] at H
  obtain ⟨rfl, rfl⟩ := H
  go_enter Tryz.func130, Tryz.ntmps130
  go_wp2_with (first | ((with_reducible refine gc 109 rfl ?_); refine gl (some 9) Tryz.func109 #[.string a0] ?_; (with_reducible refine (natural_parse.calls k a0 t939 _ A3.out).mono ?_); rintro e w7 ⟨v940, rfl, ho0, hb⟩; refine ⟨_, rfl, ?_⟩; have HO941 := Aside0.mk (Kd.V_lower (Kd.V_mono (ok' := fun k_ => True) ho0 (fun k_ hk_ => trivial)) (sz HB.out)); replace HB := Aside0.mk (bs HB.out hb); (try clear hb ho0)) | ((with_reducible refine gc 109 rfl ?_); refine gl (some 11) Tryz.func109 #[.string a1] ?_; (with_reducible refine (natural_parse.calls k a1 t942 _ A4.out).mono ?_); rintro e w8 ⟨v943, rfl, ho0, hb⟩; refine ⟨_, rfl, ?_⟩; replace HO941 := Aside0.mk (vb HO941.out hb); have HO944 := Aside0.mk (Kd.V_lower (Kd.V_mono (ok' := fun k_ => True) ho0 (fun k_ hk_ => trivial)) (sz HB.out)); replace HB := Aside0.mk (bs HB.out hb); (try clear hb ho0); obtain ⟨Ao9, co9, rfl⟩ := Kd.V_slice HO941.out; obtain ⟨Ao10, co10, rfl⟩ := Kd.V_slice HO944.out) | ((with_reducible refine gc 144 rfl ?_); refine gl (some 14) Tryz.func144 #[.slice Ao9 t939.length co9, .slice Ao10 t942.length co10] ?_; (with_reducible refine (natural_compare.calls k _ _ t939 _ _ t942 t945 _ ?side1 ?side2 ?side3 ?side4 A5.out).mono ?_); (case side1 => exact vs (Kd.V_reads' HO941.out).2.2); (case side2 => exact (Kd.V_reads' HO941.out).2.1); (case side3 => exact vs (Kd.V_reads' HO944.out).2.2); (case side4 => exact (Kd.V_reads' HO944.out).2.1); rintro e w' ⟨rfl, ⟨nd, rfl⟩⟩; refine ⟨_, rfl, ?_⟩))
  go_ret2
  exact ⟨fe, bz HB.out⟩
 ·rw [if_neg c6] at H
  have c6b0 : decide (t945 < 0) = false := decide_eq_false c6
  clear c6
  obtain ⟨t946, A11, H⟩ := bs1 H
  obtain ⟨t949, A12, H⟩ := bs1 H
  simp only [Option.some.injEq, Prod.mk.injEq] at H
  obtain ⟨rfl, rfl⟩ := H
  go_enter Tryz.func130, Tryz.ntmps130
  go_wp2_with (first | ((with_reducible refine gc 109 rfl ?_); refine gl (some 9) Tryz.func109 #[.string a0] ?_; (with_reducible refine (natural_parse.calls k a0 t939 _ A3.out).mono ?_); rintro e w13 ⟨v940, rfl, ho0, hb⟩; refine ⟨_, rfl, ?_⟩; have HO941 := Aside0.mk (Kd.V_lower (Kd.V_mono (ok' := fun k_ => True) ho0 (fun k_ hk_ => trivial)) (sz HB.out)); replace HB := Aside0.mk (bs HB.out hb); (try clear hb ho0)) | ((with_reducible refine gc 109 rfl ?_); refine gl (some 11) Tryz.func109 #[.string a1] ?_; (with_reducible refine (natural_parse.calls k a1 t942 _ A4.out).mono ?_); rintro e w14 ⟨v943, rfl, ho0, hb⟩; refine ⟨_, rfl, ?_⟩; replace HO941 := Aside0.mk (vb HO941.out hb); have HO944 := Aside0.mk (Kd.V_lower (Kd.V_mono (ok' := fun k_ => True) ho0 (fun k_ hk_ => trivial)) (sz HB.out)); replace HB := Aside0.mk (bs HB.out hb); (try clear hb ho0); obtain ⟨Ao15, co15, rfl⟩ := Kd.V_slice HO941.out; obtain ⟨Ao16, co16, rfl⟩ := Kd.V_slice HO944.out) | ((with_reducible refine gc 144 rfl ?_); refine gl (some 14) Tryz.func144 #[.slice Ao15 t939.length co15, .slice Ao16 t942.length co16] ?_; (with_reducible refine (natural_compare.calls k _ _ t939 _ _ t942 t945 _ ?side1 ?side2 ?side3 ?side4 A5.out).mono ?_); (case side1 => exact vs (Kd.V_reads' HO941.out).2.2); (case side2 => exact (Kd.V_reads' HO941.out).2.1); (case side3 => exact vs (Kd.V_reads' HO944.out).2.2); (case side4 => exact (Kd.V_reads' HO944.out).2.1); rintro e w' ⟨rfl, ⟨nd, rfl⟩⟩; refine ⟨_, rfl, ?_⟩) | ((with_reducible refine gc 154 rfl ?_); refine gl (some 18) Tryz.func154 #[.slice Ao15 t939.length co15, .slice Ao16 t942.length co16] ?_; (with_reducible refine (natural_subtract.calls k _ _ t939 _ _ t942 t946 _ ?side1 ?side2 ?side3 ?side4 A11.out).mono ?_); (case side1 => exact vs (Kd.V_reads' HO941.out).2.2); (case side2 => exact (Kd.V_reads' HO941.out).2.1); (case side3 => exact vs (Kd.V_reads' HO944.out).2.2); (case side4 => exact (Kd.V_reads' HO944.out).2.1); rintro e w17 ⟨v947, rfl, ho0, hb⟩; refine ⟨_, rfl, ?_⟩; replace HO941 := Aside0.mk (vb HO941.out hb); replace HO944 := Aside0.mk (vb HO944.out hb); have HO948 := Aside0.mk (Kd.V_lower (Kd.V_mono (ok' := fun k_ => True) ho0 (fun k_ hk_ => trivial)) (sz HB.out)); replace HB := Aside0.mk (bs HB.out hb); (try clear hb ho0); obtain ⟨Ao18, co18, rfl⟩ := Kd.V_slice HO948.out) | ((with_reducible refine gc 111 rfl ?_); refine gl (some 19) Tryz.func111 #[.slice Ao18 t946.length co18] ?_; (with_reducible refine (natural_limbs_text.calls k _ _ t946 t949 _ ?side1 ?side2 A12.out).mono ?_); (case side1 => exact vs (Kd.V_reads' HO948.out).2.2); (case side2 => exact (Kd.V_reads' HO948.out).2.1); rintro e w19 ⟨rfl, hb⟩; refine ⟨_, rfl, ?_⟩; replace HO941 := Aside0.mk (vb HO941.out hb); replace HO944 := Aside0.mk (vb HO944.out hb); replace HO948 := Aside0.mk (vb HO948.out hb); replace HB := Aside0.mk (bs HB.out hb); (try clear hb)))
  go_ret2
  exact ⟨fe, bz HB.out⟩

/-! ### rational_add: function 91 -/
def rational_add.j0 : Nat → ByteArray → ByteArray → ByteArray → Bool → ByteArray → ByteArray → Bool → ByteArray → ByteArray → Option (Bool × ByteArray × ByteArray)
 | 0, _, _, _, _, _, _, _, _, _ => none
 | k + 1, x5, x6, x7, x951000, x951001, x951002, x952000, x952001, x952002 => if (x951000 == x952000) = true then ((natural_Add.f k x5 x6).bind fun t961 => ((rational_reduced.f k x951000 t961 x7).bind fun bt962 => (some (bt962.1, bt962.2.1, bt962.2.2)))) else ((natural_Subtract.f k x5 x6).bind fun bt965 => (if bt965.2 = true then ((rational_reduced.f k x951000 bt965.1 x7).bind fun bt967 => (some (bt967.1, bt967.2.1, bt967.2.2))) else ((natural_Subtract.f k x6 x5).bind fun bt970 => ((rational_reduced.f k x952000 bt970.1 x7).bind fun bt972 => (some (bt972.1, bt972.2.1, bt972.2.2))))))
def rational_add.f (k : Nat) (a0_0 : Bool) (a0_1 : ByteArray) (a0_2 : ByteArray) (a1_0 : Bool) (a1_1 : ByteArray) (a1_2 : ByteArray) : Option (Bool × ByteArray × ByteArray) := if a0_2.toList = a1_2.toList then ((rational_den.f a0_0 a0_1 a0_2).bind fun t953 => (rational_add.j0 k a0_1 a1_1 t953 a0_0 a0_1 a0_2 a1_0 a1_1 a1_2)) else ((rational_den.f a1_0 a1_1 a1_2).bind fun t954 => ((natural_Multiply.f k a0_1 t954).bind fun t955 => ((rational_den.f a0_0 a0_1 a0_2).bind fun t956 => ((natural_Multiply.f k a1_1 t956).bind fun t957 => ((rational_den.f a0_0 a0_1 a0_2).bind fun t958 => ((rational_den.f a1_0 a1_1 a1_2).bind fun t959 => ((natural_Multiply.f k t958 t959).bind fun t960 => (rational_add.j0 k t955 t957 t960 a0_0 a0_1 a0_2 a1_0 a1_1 a1_2))))))))
def rational_add.T3 : Bool × List (List Nat × List Nat) := (true, [([], []), ([], []), ([1], [1]), ([0, 2, 2], [0, 2]), ([], []), ([], []), ([5, 3], [5]), ([4, 6, 6], [4, 6]), ([3, 7, 0, 1, 2, 3], [0, 3]), ([7, 8, 0, 1, 2, 3, 4, 5, 6, 7, 8], [4, 7])])
def rational_add.B3 : List Nat := [0, 0, 2, 7, 0, 0, 47, 127, 255, 511]
theorem rational_add.tab3 : rtab .any (opsOf Tryz.f91 3) = rational_add.T3 := by kernel_rfl
theorem rational_add.bits3 : waitsOk rational_add.T3.2 rational_add.B3 = true := by kernel_rfl
def rational_add.T7 : Bool × List (List Nat × List Nat) := (true, [([], []), ([0], [0]), ([], []), ([], []), ([2, 3], [2, 3]), ([], []), ([1, 4, 5, 4], [1, 4, 5]), ([6, 6, 0, 1, 2, 3, 4, 5, 6], [6])])
def rational_add.B7 : List Nat := [0, 1, 0, 0, 12, 0, 63, 127]
theorem rational_add.tab7 : rtab .any (opsOf Tryz.f91 7) = rational_add.T7 := by kernel_rfl
theorem rational_add.bits7 : waitsOk rational_add.T7.2 rational_add.B7 = true := by kernel_rfl
set_option maxHeartbeats 8000000 in
set_option maxRecDepth 100000 in
theorem rational_add.calls (k : Nat) (a0_0 : Bool) (a0_1 : ByteArray) (a0_2 : ByteArray) (a1_0 : Bool) (a1_1 : ByteArray) (a1_2 : ByteArray) (r1 : Bool) (r2 : ByteArray) (r3 : ByteArray) (w : World) (h : rational_add.f k a0_0 a0_1 a0_2 a1_0 a1_1 a1_2 = some (r1, r2, r3)) :
  Calls Tryz.prog 91 #[.agg #[.bool a0_0, .string a0_1, .string a0_2], .agg #[.bool a1_0, .string a1_1, .string a1_2]] w fun e w' => e = .returned (.agg #[.bool r1, .string r2, .string r3]) ∧ Below w.heap.size w w' := by
 have hu24 := Tryz.underlying24
 have HB := Aside0.mk (Below.refl w.heap.size w)
 have H := h
 clear h
 unfold rational_add.f at H
 have HC3 := Aside0.mk H
 clear H
 go_enter Tryz.func91, Tryz.ntmps91
 try go_wp2_with (first | ((with_reducible refine gd 2 rfl ?_); refine bx 2 (#[.bool a0_0, .string a0_1, .string a0_2]) 24 ?_; intro gb950 hg w4 hbox hb; have BK950 := Aside0.mk (hbox); have GW950 := sg hg HB.out; have GE950 := sg hg HB.out; replace HB := Aside0.mk (bs HB.out hb); clear hb hbox hg) | ((with_reducible refine gd 3 rfl ?_); refine bx 3 (#[.bool a1_0, .string a1_1, .string a1_2]) 24 ?_; intro gb951 hg w5 hbox hb; have BK951 := Aside0.mk (hbox); have GW951 := sg hg HB.out; have GE951 := sg hg HB.out; replace HB := Aside0.mk (bs HB.out hb); have NB950_951 := nl hg BK950.out; have NB951_950 := nr hg BK950.out; replace BK950 := Aside0.mk (bk0 BK950.out hb); clear hb hbox hg) | ((with_reducible refine gd 4 rfl ?_); refine bx 4 (#[.bool false, .string (⟨#[]⟩ : ByteArray), .string (⟨#[]⟩ : ByteArray)]) 24 ?_; intro gb952 hg w6 hbox hb; have BK952 := Aside0.mk (hbox); have GW952 := sg hg HB.out; have GE952 := sg hg HB.out; replace HB := Aside0.mk (bs HB.out hb); have NB950_952 := nl hg BK950.out; have NB952_950 := nr hg BK950.out; replace BK950 := Aside0.mk (bk0 BK950.out hb); have NB951_952 := nl hg BK951.out; have NB952_951 := nr hg BK951.out; replace BK951 := Aside0.mk (bk0 BK951.out hb); clear hb hbox hg))
 replace BK950 := Aside0.mk (blk_drew BK950.out)
 replace BK951 := Aside0.mk (blk_drew BK951.out)
 replace BK952 := Aside0.mk (blk_drew BK952.out)
 replace HB := Aside0.mk (below_drew1 HB.out)
 refine start_ (n := 7) (S := fun w' => w'.cell? ⟨gb950, 0, none⟩ = some (.bool a0_0) ∧ w'.cell? ⟨gb950, 1, none⟩ = some (.string a0_1) ∧ w'.cell? ⟨gb950, 2, none⟩ = some (.string a0_2) ∧ w'.cell? ⟨gb951, 0, none⟩ = some (.bool a1_0) ∧ w'.cell? ⟨gb951, 1, none⟩ = some (.string a1_1) ∧ w'.cell? ⟨gb951, 2, none⟩ = some (.string a1_2)) (ds := []) #[false, false, false, false, false, false, false] (by kernel_rfl) rfl rfl ⟨(blk_cell BK950.out 0).trans rfl, (blk_cell BK950.out 1).trans rfl, (blk_cell BK950.out 2).trans rfl, (blk_cell BK951.out 0).trans rfl, (blk_cell BK951.out 1).trans rfl, (blk_cell BK951.out 2).trans rfl⟩ (fun hHeld => ?_)
 generalize w6.drew = w7 at BK950 BK951 BK952 HB hHeld ⊢
 refine pure_ (i := 0) (N := some 12) (v := ?_) (a' := ?_) #[true, false, false, false, false, false, false] rfl rfl (by kernel_rfl) (fun _ _ _ h => h) (Or.inl ⟨by rfl, ?_⟩) ?_ ?_
 rotate_left
 ·intro w'
  go_simp
  with_reducible rfl
 rotate_left
 ·simp only [Act.put, List.setIfInBounds_toArray, List.set_cons_zero, List.set_cons_succ, i64_w, i32_w]
  rfl
 refine pure_ (i := 2) (N := some 14) (v := ?_) (a' := ?_) #[true, false, true, false, false, false, false] rfl rfl (by kernel_rfl) (fun _ _ _ h => h) (Or.inl ⟨by rfl, ?_⟩) ?_ ?_
 rotate_left
 ·intro w'
  go_simp
  with_reducible rfl
 rotate_left
 ·simp only [Act.put, List.setIfInBounds_toArray, List.set_cons_zero, List.set_cons_succ, i64_w, i32_w]
  rfl
 refine take_ (i := 1) (N := some 13) (v := ?_) (a' := ?_) #[true, true, true, false, false, false, false] rfl rfl (by kernel_rfl) (fun _ _ _ h => h) (Or.inl ⟨by rfl, ?_⟩) hHeld ?_ ?_
 rotate_left
 ·rintro w' ⟨s0, s1, s2, s3, s4, s5⟩
  go_simp
  with_reducible rfl
 rotate_left
 ·simp only [Act.put, List.setIfInBounds_toArray, List.set_cons_zero, List.set_cons_succ, i64_w, i32_w]
  rfl
 refine pure_ (i := 4) (N := some 5) (v := ?_) (a' := ?_) #[true, true, true, false, true, false, false] rfl rfl (by kernel_rfl) (fun _ _ _ h => h) (Or.inl ⟨by rfl, ?_⟩) ?_ ?_
 rotate_left
 ·intro w'
  go_simp
  with_reducible rfl
 rotate_left
 ·simp only [Act.put, List.setIfInBounds_toArray, List.set_cons_zero, List.set_cons_succ, i64_w, i32_w]
  rfl
 refine take_ (i := 3) (N := some 15) (v := ?_) (a' := ?_) #[true, true, true, true, true, false, false] rfl rfl (by kernel_rfl) (fun _ _ _ h => h) (Or.inl ⟨by rfl, ?_⟩) hHeld ?_ ?_
 rotate_left
 ·rintro w' ⟨s0, s1, s2, s3, s4, s5⟩
  go_simp
  with_reducible rfl
 rotate_left
 ·simp only [Act.put, List.setIfInBounds_toArray, List.set_cons_zero, List.set_cons_succ, i64_w, i32_w]
  rfl
 refine pure_ (i := 5) (N := some 6) (v := ?_) (a' := ?_) #[true, true, true, true, true, true, false] rfl rfl (by kernel_rfl) (fun _ _ _ h => h) (Or.inl ⟨by rfl, ?_⟩) ?_ ?_
 rotate_left
 ·intro w'
  go_simp
  with_reducible rfl
 rotate_left
 ·simp only [Act.put, List.setIfInBounds_toArray, List.set_cons_zero, List.set_cons_succ, i64_w, i32_w]
  rfl
 refine pure_ (i := 6) (N := some 7) (v := ?_) (a' := ?_) #[true, true, true, true, true, true, true] rfl rfl (by kernel_rfl) (fun _ _ _ h => h) (Or.inl ⟨by rfl, ?_⟩) ?_ ?_
 rotate_left
 ·intro w'
  go_simp
  with_reducible rfl
 rotate_left
 ·simp only [Act.put, List.setIfInBounds_toArray, List.set_cons_zero, List.set_cons_succ, i64_w, i32_w]
  rfl
 refine done_ (by kernel_rfl) ?_
 have hnb8 := NB950_951.out
 have hnc8 := NB951_950.out
 have hnb9 := NB950_952.out
 have hnc9 := NB952_950.out
 obtain ⟨hcz10_0, hcz10_1, hcz10_2, hfz10_0, hfz10_1, hfz10_2⟩ := cz BK950.out
 have hnb11 := NB951_952.out
 have hnc11 := NB952_951.out
 obtain ⟨hcz12_0, hcz12_1, hcz12_2, hfz12_0, hfz12_1, hfz12_2⟩ := cz BK951.out
 (try (simp only [Exit.then]; refine (by assumption : ∀ (a : Act) (w : World), Code.wp _ _ _ a w → _) _ _ ?_))
 go_upto_if 20 with (fail)
 go_cut [5, 6, 7] (fun v5 v6 v7 wc => ∃ (kq : Nat) (x5_2 : ByteArray) (x6_2 : ByteArray) (x7_2 : ByteArray), v5 = .string x5_2 ∧ v6 = .string x6_2 ∧ v7 = .string x7_2 ∧ Aside0 (rational_add.j0 kq x5_2 x6_2 x7_2 a0_0 a0_1 a0_2 a1_0 a1_1 a1_2 = some (r1, r2, r3)) ∧ Aside0 (kq ≤ k) ∧ Aside0 (wc.heap[gb950]? = some (.cells #[.bool a0_0, .string a0_1, .string a0_2] 24 (0, 0))) ∧ Aside0 (wc.heap[gb951]? = some (.cells #[.bool a1_0, .string a1_1, .string a1_2] 24 (0, 0))) ∧ Aside0 (wc.heap[gb952]? = some (.cells #[.bool false, .string (⟨#[]⟩ : ByteArray), .string (⟨#[]⟩ : ByteArray)] 24 (0, 0))) ∧ Aside0 (Below w.heap.size w wc))
 case first =>
  have H := HC3.out
  clear HC3
  by_cases c13 : a0_2.toList = a1_2.toList
  ·rw [if_pos c13] at H
   have c13b0 := beq_iff_eq.mpr c13
   have c13b1 := bne_eq_false_iff_eq.mpr c13
   clear c13
   (first | rw [c13b0] | (simp only [i64_w, i32_w]; rw [c13b0]) | skip)
   obtain ⟨t953, A14, H⟩ := bs1 H
   have H' := Aside0.mk H
   clear H
   have hnb15 := NB950_951.out
   have hnc15 := NB951_950.out
   have hnb16 := NB950_952.out
   have hnc16 := NB952_950.out
   obtain ⟨hcz17_0, hcz17_1, hcz17_2, hfz17_0, hfz17_1, hfz17_2⟩ := cz BK950.out
   go_wp2_with (first | ((with_reducible refine gc 77 rfl ?_); refine gl (some 35) Tryz.func77 #[.agg #[.bool a0_0, .string a0_1, .string a0_2]] ?_; (with_reducible refine (rational_den.calls a0_0 a0_1 a0_2 t953 _ A14.out).mono ?_); rintro e w18 ⟨rfl, hb⟩; refine ⟨_, rfl, ?_⟩; replace BK950 := Aside0.mk (bk0 BK950.out hb); replace BK951 := Aside0.mk (bk0 BK951.out hb); replace BK952 := Aside0.mk (bk0 BK952.out hb); replace HB := Aside0.mk (bs HB.out hb); (try clear hb)))
   go_meet
   case rel => exact ⟨_, (a0_1), (a1_1), (t953), fs, fs, fs, H', ⟨by first | omega | exact Nat.le_refl _⟩, ⟨bq BK950.out⟩, ⟨bq BK951.out⟩, ⟨bq BK952.out⟩, ⟨bz HB.out⟩⟩
  ·rw [if_neg c13] at H
   have c13b0 := beq_eq_false_iff_ne.mpr c13
   have c13b1 := bne_iff_ne.mpr c13
   (first | rw [c13b0] | (simp only [i64_w, i32_w]; rw [c13b0]) | skip)
   obtain ⟨t954, A19, H⟩ := bs1 H
   obtain ⟨t955, A20, H⟩ := bs1 H
   obtain ⟨t956, A21, H⟩ := bs1 H
   obtain ⟨t957, A22, H⟩ := bs1 H
   obtain ⟨t958, A23, H⟩ := bs1 H
   obtain ⟨t959, A24, H⟩ := bs1 H
   obtain ⟨t960, A25, H⟩ := bs1 H
   have H' := Aside0.mk H
   clear H
   try go_wp2
   replace BK950 := Aside0.mk (blk_drew BK950.out)
   replace BK951 := Aside0.mk (blk_drew BK951.out)
   replace BK952 := Aside0.mk (blk_drew BK952.out)
   replace HB := Aside0.mk (below_drew1 HB.out)
   refine start_ (n := 10) (S := fun w' => w'.cell? ⟨gb951, 0, none⟩ = some (.bool a1_0) ∧ w'.cell? ⟨gb951, 1, none⟩ = some (.string a1_1) ∧ w'.cell? ⟨gb951, 2, none⟩ = some (.string a1_2) ∧ w'.cell? ⟨gb950, 0, none⟩ = some (.bool a0_0) ∧ w'.cell? ⟨gb950, 1, none⟩ = some (.string a0_1) ∧ w'.cell? ⟨gb950, 2, none⟩ = some (.string a0_2)) (ds := []) #[false, false, false, false, false, false, false, false, false, false] (by kernel_rfl) rfl rfl ⟨(blk_cell BK951.out 0).trans rfl, (blk_cell BK951.out 1).trans rfl, (blk_cell BK951.out 2).trans rfl, (blk_cell BK950.out 0).trans rfl, (blk_cell BK950.out 1).trans rfl, (blk_cell BK950.out 2).trans rfl⟩ (fun hHeld => ?_); refine with_tabW rational_add.tab3 rational_add.bits3 (fun HT_ HW_ => ?_)
   generalize w7.drew = w26 at BK950 BK951 BK952 HB hHeld ⊢
   refine py 0 (some 21) #[true, false, false, false, false, false, false, false, false, false] HT_ ?_
   refine py 4 (some 25) #[true, false, false, false, true, false, false, false, false, false] HT_ ?_
   refine take_ (i := 1) (N := some 22) (v := ?_) (a' := ?_) #[true, true, false, false, true, false, false, false, false, false] rfl rfl (take_ofW HT_.out HW_.out (by kernel_rfl)) (fun _ _ _ h => h) (Or.inl ⟨by rfl, ?_⟩) hHeld ?_ ?_
   rotate_left
   ·rintro w' ⟨s0, s1, s2, s3, s4, s5⟩
    go_simp
    with_reducible rfl
   rotate_left
   ·simp only [Act.put, List.setIfInBounds_toArray, List.set_cons_zero, List.set_cons_succ, i64_w, i32_w]
    rfl
   refine take_ (i := 5) (N := some 26) (v := ?_) (a' := ?_) #[true, true, false, false, true, true, false, false, false, false] rfl rfl (take_ofW HT_.out HW_.out (by kernel_rfl)) (fun _ _ _ h => h) (Or.inl ⟨by rfl, ?_⟩) hHeld ?_ ?_
   rotate_left
   ·rintro w' ⟨s0, s1, s2, s3, s4, s5⟩
    go_simp
    with_reducible rfl
   rotate_left
   ·simp only [Act.put, List.setIfInBounds_toArray, List.set_cons_zero, List.set_cons_succ, i64_w, i32_w]
    rfl
   refine one_ (i := 2) (N := some 23) #[true, true, true, false, true, true, false, false, false, false] rfl rfl (one_of HT_.out (by kernel_rfl)) (by decide) (fun K hK => ?_)
   refine gs Tryz.func77 #[.agg #[.bool a1_0, .string a1_1, .string a1_2]] ?_
   with_reducible refine (rational_den.calls a1_0 a1_1 a1_2 t954 _ A19.out).mono ?_
   rintro e w27 ⟨rfl, hb⟩
   refine ⟨_, rfl, ?_⟩
   replace BK950 := Aside0.mk (bk0 BK950.out hb)
   replace BK951 := Aside0.mk (bk0 BK951.out hb)
   replace BK952 := Aside0.mk (bk0 BK952.out hb)
   replace HB := Aside0.mk (bs HB.out hb)
   (try clear hb); (try clear hb2); (try clear hk); (try clear hi)
   refine hK.out _ _ ⟨(blk_cell BK951.out 0).trans rfl, (blk_cell BK951.out 1).trans rfl, (blk_cell BK951.out 2).trans rfl, (blk_cell BK950.out 0).trans rfl, (blk_cell BK950.out 1).trans rfl, (blk_cell BK950.out 2).trans rfl⟩ (fun hHeld => ?_)
   clear hK K
   refine nm ?_
   refine one_ (i := 3) (N := some 24) #[true, true, true, true, true, true, false, false, false, false] rfl rfl (one_of HT_.out (by kernel_rfl)) (by decide) (fun K hK => ?_)
   refine gs Tryz.func64 #[.string a0_1, .string t954] ?_
   with_reducible refine (natural_Multiply.calls k a0_1 t954 t955 _ A20.out).mono ?_
   rintro e w28 ⟨rfl, hb⟩
   refine ⟨_, rfl, ?_⟩
   replace BK950 := Aside0.mk (bk0 BK950.out hb)
   replace BK951 := Aside0.mk (bk0 BK951.out hb)
   replace BK952 := Aside0.mk (bk0 BK952.out hb)
   replace HB := Aside0.mk (bs HB.out hb)
   (try clear hb); (try clear hb2); (try clear hk); (try clear hi)
   refine hK.out _ _ ⟨(blk_cell BK951.out 0).trans rfl, (blk_cell BK951.out 1).trans rfl, (blk_cell BK951.out 2).trans rfl, (blk_cell BK950.out 0).trans rfl, (blk_cell BK950.out 1).trans rfl, (blk_cell BK950.out 2).trans rfl⟩ (fun hHeld => ?_)
   clear hK K
   refine nm ?_
   refine one_ (i := 6) (N := some 27) #[true, true, true, true, true, true, true, false, false, false] rfl rfl (one_of HT_.out (by kernel_rfl)) (by decide) (fun K hK => ?_)
   refine gs Tryz.func77 #[.agg #[.bool a0_0, .string a0_1, .string a0_2]] ?_
   with_reducible refine (rational_den.calls a0_0 a0_1 a0_2 t956 _ A21.out).mono ?_
   rintro e w29 ⟨rfl, hb⟩
   refine ⟨_, rfl, ?_⟩
   replace BK950 := Aside0.mk (bk0 BK950.out hb)
   replace BK951 := Aside0.mk (bk0 BK951.out hb)
   replace BK952 := Aside0.mk (bk0 BK952.out hb)
   replace HB := Aside0.mk (bs HB.out hb)
   (try clear hb); (try clear hb2); (try clear hk); (try clear hi)
   refine hK.out _ _ ⟨(blk_cell BK951.out 0).trans rfl, (blk_cell BK951.out 1).trans rfl, (blk_cell BK951.out 2).trans rfl, (blk_cell BK950.out 0).trans rfl, (blk_cell BK950.out 1).trans rfl, (blk_cell BK950.out 2).trans rfl⟩ (fun hHeld => ?_)
   clear hK K
   refine nm ?_
   refine one_ (i := 7) (N := some 28) #[true, true, true, true, true, true, true, true, false, false] rfl rfl (one_of HT_.out (by kernel_rfl)) (by decide) (fun K hK => ?_)
   refine gs Tryz.func64 #[.string a1_1, .string t956] ?_
   with_reducible refine (natural_Multiply.calls k a1_1 t956 t957 _ A22.out).mono ?_
   rintro e w30 ⟨rfl, hb⟩
   refine ⟨_, rfl, ?_⟩
   replace BK950 := Aside0.mk (bk0 BK950.out hb)
   replace BK951 := Aside0.mk (bk0 BK951.out hb)
   replace BK952 := Aside0.mk (bk0 BK952.out hb)
   replace HB := Aside0.mk (bs HB.out hb)
   (try clear hb); (try clear hb2); (try clear hk); (try clear hi)
   refine hK.out _ _ ⟨(blk_cell BK951.out 0).trans rfl, (blk_cell BK951.out 1).trans rfl, (blk_cell BK951.out 2).trans rfl, (blk_cell BK950.out 0).trans rfl, (blk_cell BK950.out 1).trans rfl, (blk_cell BK950.out 2).trans rfl⟩ (fun hHeld => ?_)
   clear hK K
   refine nm ?_
   refine py 8 (some 5) #[true, true, true, true, true, true, true, true, true, false] HT_ ?_
   refine py 9 (some 6) #[true, true, true, true, true, true, true, true, true, true] HT_ ?_
   refine done_ (done_of HT_.out (by kernel_rfl)) ?_
   try go_wp2
   replace BK950 := Aside0.mk (blk_drew BK950.out)
   replace BK951 := Aside0.mk (blk_drew BK951.out)
   replace BK952 := Aside0.mk (blk_drew BK952.out)
   replace HB := Aside0.mk (below_drew1 HB.out)
   refine start_ (n := 6) (S := fun w' => w'.cell? ⟨gb950, 0, none⟩ = some (.bool a0_0) ∧ w'.cell? ⟨gb950, 1, none⟩ = some (.string a0_1) ∧ w'.cell? ⟨gb950, 2, none⟩ = some (.string a0_2) ∧ w'.cell? ⟨gb951, 0, none⟩ = some (.bool a1_0) ∧ w'.cell? ⟨gb951, 1, none⟩ = some (.string a1_1) ∧ w'.cell? ⟨gb951, 2, none⟩ = some (.string a1_2)) (ds := []) #[false, false, false, false, false, false] (by kernel_rfl) rfl rfl ⟨(blk_cell BK950.out 0).trans rfl, (blk_cell BK950.out 1).trans rfl, (blk_cell BK950.out 2).trans rfl, (blk_cell BK951.out 0).trans rfl, (blk_cell BK951.out 1).trans rfl, (blk_cell BK951.out 2).trans rfl⟩ (fun hHeld => ?_)
   generalize w30.drew = w31 at BK950 BK951 BK952 HB hHeld ⊢
   refine take_ (i := 0) (N := some 29) (v := ?_) (a' := ?_) #[true, false, false, false, false, false] rfl rfl (by kernel_rfl) (fun _ _ _ h => h) (Or.inl ⟨by rfl, ?_⟩) hHeld ?_ ?_
   rotate_left
   ·rintro w' ⟨s0, s1, s2, s3, s4, s5⟩
    go_simp
    with_reducible rfl
   rotate_left
   ·simp only [Act.put, List.setIfInBounds_toArray, List.set_cons_zero, List.set_cons_succ, i64_w, i32_w]
    rfl
   refine take_ (i := 2) (N := some 31) (v := ?_) (a' := ?_) #[true, false, true, false, false, false] rfl rfl (by kernel_rfl) (fun _ _ _ h => h) (Or.inl ⟨by rfl, ?_⟩) hHeld ?_ ?_
   rotate_left
   ·rintro w' ⟨s0, s1, s2, s3, s4, s5⟩
    go_simp
    with_reducible rfl
   rotate_left
   ·simp only [Act.put, List.setIfInBounds_toArray, List.set_cons_zero, List.set_cons_succ, i64_w, i32_w]
    rfl
   refine one_ (i := 1) (N := some 30) #[true, true, true, false, false, false] rfl rfl (by kernel_rfl) (by decide) (fun K hK => ?_)
   refine gs Tryz.func77 #[.agg #[.bool a0_0, .string a0_1, .string a0_2]] ?_
   with_reducible refine (rational_den.calls a0_0 a0_1 a0_2 t958 _ A23.out).mono ?_
   rintro e w32 ⟨rfl, hb⟩
   refine ⟨_, rfl, ?_⟩
   replace BK950 := Aside0.mk (bk0 BK950.out hb)
   replace BK951 := Aside0.mk (bk0 BK951.out hb)
   replace BK952 := Aside0.mk (bk0 BK952.out hb)
   replace HB := Aside0.mk (bs HB.out hb)
   (try clear hb); (try clear hb2); (try clear hk); (try clear hi)
   refine hK.out _ _ ⟨(blk_cell BK950.out 0).trans rfl, (blk_cell BK950.out 1).trans rfl, (blk_cell BK950.out 2).trans rfl, (blk_cell BK951.out 0).trans rfl, (blk_cell BK951.out 1).trans rfl, (blk_cell BK951.out 2).trans rfl⟩ (fun hHeld => ?_)
   clear hK K
   refine nm ?_
   refine one_ (i := 3) (N := some 32) #[true, true, true, true, false, false] rfl rfl (by kernel_rfl) (by decide) (fun K hK => ?_)
   refine gs Tryz.func77 #[.agg #[.bool a1_0, .string a1_1, .string a1_2]] ?_
   with_reducible refine (rational_den.calls a1_0 a1_1 a1_2 t959 _ A24.out).mono ?_
   rintro e w33 ⟨rfl, hb⟩
   refine ⟨_, rfl, ?_⟩
   replace BK950 := Aside0.mk (bk0 BK950.out hb)
   replace BK951 := Aside0.mk (bk0 BK951.out hb)
   replace BK952 := Aside0.mk (bk0 BK952.out hb)
   replace HB := Aside0.mk (bs HB.out hb)
   (try clear hb); (try clear hb2); (try clear hk); (try clear hi)
   refine hK.out _ _ ⟨(blk_cell BK950.out 0).trans rfl, (blk_cell BK950.out 1).trans rfl, (blk_cell BK950.out 2).trans rfl, (blk_cell BK951.out 0).trans rfl, (blk_cell BK951.out 1).trans rfl, (blk_cell BK951.out 2).trans rfl⟩ (fun hHeld => ?_)
   clear hK K
   refine nm ?_
   refine one_ (i := 4) (N := some 33) #[true, true, true, true, true, false] rfl rfl (by kernel_rfl) (by decide) (fun K hK => ?_)
   refine gs Tryz.func64 #[.string t958, .string t959] ?_
   with_reducible refine (natural_Multiply.calls k t958 t959 t960 _ A25.out).mono ?_
   rintro e w34 ⟨rfl, hb⟩
   refine ⟨_, rfl, ?_⟩
   replace BK950 := Aside0.mk (bk0 BK950.out hb)
   replace BK951 := Aside0.mk (bk0 BK951.out hb)
   replace BK952 := Aside0.mk (bk0 BK952.out hb)
   replace HB := Aside0.mk (bs HB.out hb)
   (try clear hb); (try clear hb2); (try clear hk); (try clear hi)
   refine hK.out _ _ ⟨(blk_cell BK950.out 0).trans rfl, (blk_cell BK950.out 1).trans rfl, (blk_cell BK950.out 2).trans rfl, (blk_cell BK951.out 0).trans rfl, (blk_cell BK951.out 1).trans rfl, (blk_cell BK951.out 2).trans rfl⟩ (fun hHeld => ?_)
   clear hK K
   refine nm ?_
   refine pure_ (i := 5) (N := some 7) (v := ?_) (a' := ?_) #[true, true, true, true, true, true] rfl rfl (by kernel_rfl) (fun _ _ _ h => h) (Or.inl ⟨by rfl, ?_⟩) ?_ ?_
   rotate_left
   ·intro w'
    go_simp
    with_reducible rfl
   rotate_left
   ·simp only [Act.put, List.setIfInBounds_toArray, List.set_cons_zero, List.set_cons_succ, i64_w, i32_w]
    rfl
   refine done_ (by kernel_rfl) ?_
   try go_wp2
   go_meet
   case rel => exact ⟨_, (t955), (t957), (t960), fs, fs, fs, H', ⟨by first | omega | exact Nat.le_refl _⟩, ⟨bq BK950.out⟩, ⟨bq BK951.out⟩, ⟨bq BK952.out⟩, ⟨bz HB.out⟩⟩
 case rest =>
  clear HC3
  (try clear c13b0); (try clear c13b1); (try clear hcz10_0); (try clear hcz10_1); (try clear hcz10_2); (try clear hcz12_0); (try clear hcz12_1); (try clear hcz12_2); (try clear hcz17_0); (try clear hcz17_1); (try clear hcz17_2); (try clear hfz10_0); (try clear hfz10_1); (try clear hfz10_2); (try clear hfz12_0); (try clear hfz12_1); (try clear hfz12_2); (try clear hfz17_0); (try clear hfz17_1); (try clear hfz17_2)
  obtain ⟨kq, x5_2, x6_2, x7_2, rfl, rfl, rfl, HA, HJ2, BK950, BK951, BK952, HB⟩ := hcut
  cases kq with
  | zero => exact absurd HA.out (by simp [rational_add.j0])
  | succ kj2 =>
   have H := HA.out
   clear HA
   simp only [rational_add.j0] at H
   by_cases c35 : (a0_0 == a1_0) = true
   ·rw [if_pos c35] at H
    have c35b0 : (a0_0 == a1_0) = true := c35
    (try (have c35b1 : decide (a0_0 = a1_0) = true := by simpa using c35))
    (try (have c35b2 : (a0_0 == a1_0) = true := by simpa using c35))
    clear c35
    obtain ⟨t961, A36, H⟩ := bs1 H
    obtain ⟨⟨t962, t963, t964⟩, A37, H⟩ := bs1 H; dsimp only at H
    simp only [Option.some.injEq, Prod.mk.injEq] at H
    obtain ⟨rfl, rfl, rfl⟩ := H
    have hnb38 := NB950_951.out
    have hnc38 := NB951_950.out
    have hnb39 := NB950_952.out
    have hnc39 := NB952_950.out
    obtain ⟨hcz40_0, hcz40_1, hcz40_2, hfz40_0, hfz40_1, hfz40_2⟩ := cz BK950.out
    have hnb41 := NB951_952.out
    have hnc41 := NB952_951.out
    obtain ⟨hcz42_0, hcz42_1, hcz42_2, hfz42_0, hfz42_1, hfz42_2⟩ := cz BK951.out
    try go_wp2
    replace BK950 := Aside0.mk (blk_drew BK950.out)
    replace BK951 := Aside0.mk (blk_drew BK951.out)
    replace BK952 := Aside0.mk (blk_drew BK952.out)
    replace HB := Aside0.mk (below_drew1 HB.out)
    refine start_ (n := 8) (S := fun w' => w'.cell? ⟨gb950, 0, none⟩ = some (.bool a0_0) ∧ w'.cell? ⟨gb950, 1, none⟩ = some (.string a0_1) ∧ w'.cell? ⟨gb950, 2, none⟩ = some (.string a0_2)) (ds := []) #[false, false, false, false, false, false, false, false] (by kernel_rfl) rfl rfl ⟨(blk_cell BK950.out 0).trans rfl, (blk_cell BK950.out 1).trans rfl, (blk_cell BK950.out 2).trans rfl⟩ (fun hHeld => ?_); refine with_tabW rational_add.tab7 rational_add.bits7 (fun HT_ HW_ => ?_)
    generalize wc.drew = w43 at BK950 BK951 BK952 HB hHeld ⊢
    refine py 0 (some 41) #[true, false, false, false, false, false, false, false] HT_ ?_
    refine py 2 (some 43) #[true, false, true, false, false, false, false, false] HT_ ?_
    refine py 3 (some 44) #[true, false, true, true, false, false, false, false] HT_ ?_
    refine py 5 (some 46) #[true, false, true, true, false, true, false, false] HT_ ?_
    refine take_ (i := 1) (N := some 42) (v := ?_) (a' := ?_) #[true, true, true, true, false, true, false, false] rfl rfl (take_ofW HT_.out HW_.out (by kernel_rfl)) (fun _ _ _ h => h) (Or.inl ⟨by rfl, ?_⟩) hHeld ?_ ?_
    rotate_left
    ·rintro w' ⟨s0, s1, s2⟩
     go_simp
     with_reducible rfl
    rotate_left
    ·simp only [Act.put, List.setIfInBounds_toArray, List.set_cons_zero, List.set_cons_succ, i64_w, i32_w]
     rfl
    refine one_ (i := 4) (N := some 45) #[true, true, true, true, true, true, false, false] rfl rfl (one_of HT_.out (by kernel_rfl)) (by decide) (fun K hK => ?_)
    refine gs Tryz.func63 #[.string x5_2, .string x6_2] ?_
    with_reducible refine (natural_Add.calls kj2 x5_2 x6_2 t961 _ A36.out).mono ?_
    rintro e w44 ⟨rfl, hb⟩
    refine ⟨_, rfl, ?_⟩
    replace BK950 := Aside0.mk (bk0 BK950.out hb)
    replace BK951 := Aside0.mk (bk0 BK951.out hb)
    replace BK952 := Aside0.mk (bk0 BK952.out hb)
    replace HB := Aside0.mk (bs HB.out hb)
    (try clear hb); (try clear hb2); (try clear hk); (try clear hi)
    refine hK.out _ _ ⟨(blk_cell BK950.out 0).trans rfl, (blk_cell BK950.out 1).trans rfl, (blk_cell BK950.out 2).trans rfl⟩ (fun hHeld => ?_)
    clear hK K
    refine nm ?_
    refine one_ (i := 6) (N := some 47) #[true, true, true, true, true, true, true, false] rfl rfl (one_of HT_.out (by kernel_rfl)) (by decide) (fun K hK => ?_)
    refine gs Tryz.func62 #[.bool a0_0, .string t961, .string x7_2] ?_
    with_reducible refine (rational_reduced.calls kj2 a0_0 t961 x7_2 t962 t963 t964 _ A37.out).mono ?_
    rintro e w45 ⟨rfl, hb⟩
    refine ⟨_, rfl, ?_⟩
    replace BK950 := Aside0.mk (bk0 BK950.out hb)
    replace BK951 := Aside0.mk (bk0 BK951.out hb)
    replace BK952 := Aside0.mk (bk0 BK952.out hb)
    replace HB := Aside0.mk (bs HB.out hb)
    (try clear hb); (try clear hb2); (try clear hk); (try clear hi)
    refine hK.out _ _ ⟨(blk_cell BK950.out 0).trans rfl, (blk_cell BK950.out 1).trans rfl, (blk_cell BK950.out 2).trans rfl⟩ (fun hHeld => ?_)
    clear hK K
    refine nm ?_
    refine one_ (i := 7) (N := none) #[true, true, true, true, true, true, true, true] rfl rfl (one_of HT_.out (by kernel_rfl)) (by decide) (fun K hK => ?_)
    have hs46 : w45.cell? ⟨gb952, 0, none⟩ = some (.bool false) := (blk_cell BK952.out 0).trans rfl
    have hfs46 := blk_frozen BK952.out 0
    have hns46_0 := NB950_952.out
    have hns46_1 := NB951_952.out
    have hms46_0 := NB952_950.out
    have hms46_1 := NB952_951.out
    have hs47 : w45.cell? ⟨gb952, 1, none⟩ = some (.string (⟨#[]⟩ : ByteArray)) := (blk_cell BK952.out 1).trans rfl
    have hfs47 := blk_frozen BK952.out 1
    have hns47_0 := NB950_952.out
    have hns47_1 := NB951_952.out
    have hms47_0 := NB952_950.out
    have hms47_1 := NB952_951.out
    have hs48 : w45.cell? ⟨gb952, 2, none⟩ = some (.string (⟨#[]⟩ : ByteArray)) := (blk_cell BK952.out 2).trans rfl
    have hfs48 := blk_frozen BK952.out 2
    have hns48_0 := NB950_952.out
    have hns48_1 := NB951_952.out
    have hms48_0 := NB952_950.out
    have hms48_1 := NB952_951.out
    refine skip_ (w1 := ?_) (by rfl) rfl ?_ ?_
    rotate_left
    ·go_simp
     rfl
    refine hK.out _ _ ⟨((cell_far (p := ⟨gb952, _, none⟩) NB950_952.out _).trans (((cell_far (p := ⟨gb952, _, none⟩) NB950_952.out _).trans (((cell_far (p := ⟨gb952, _, none⟩) NB950_952.out _).trans (hHeld.1)))))), ((cell_far (p := ⟨gb952, _, none⟩) NB950_952.out _).trans (((cell_far (p := ⟨gb952, _, none⟩) NB950_952.out _).trans (((cell_far (p := ⟨gb952, _, none⟩) NB950_952.out _).trans (hHeld.2.1)))))), ((cell_far (p := ⟨gb952, _, none⟩) NB950_952.out _).trans (((cell_far (p := ⟨gb952, _, none⟩) NB950_952.out _).trans (((cell_far (p := ⟨gb952, _, none⟩) NB950_952.out _).trans (hHeld.2.2))))))⟩ (fun hHeld => ?_)
    clear hK K
    refine done_ (done_of HT_.out (by kernel_rfl)) ?_
    try go_wp2
    refine bodyPost_ret (results_cell_row rfl _ _ gb952 24 #[.bool t962, .string t963, .string t964] (0, 0) _ rfl (bq BK952.out) Tryz.underlying24 rfl (by kernel_rfl)) rfl ?_
    exact ⟨fe, bz HB.out⟩
   ·rw [if_neg c35] at H
    have c35b0 : (a0_0 == a1_0) = false := by simpa using c35
    (try (have c35b1 : decide (a0_0 = a1_0) = false := by simpa using c35))
    (try (have c35b2 : (a0_0 == a1_0) = false := by simpa using c35))
    (try (have c35b3 : ¬ (a0_0 = a1_0) := by simpa using c35))
    clear c35
    obtain ⟨⟨t965, t966⟩, A49, H⟩ := bs1 H; dsimp only at H
    by_cases c50 : t966 = true
    ·subst c50
     have H1 : ((rational_reduced.f kj2 a0_0 t965 x7_2).bind fun bt967 => (some (bt967.1, bt967.2.1, bt967.2.2))) = some (r1, r2, r3) := by rw [if_pos rfl] at H; exact H
     clear H
     have H := H1
     clear H1
     obtain ⟨⟨t967, t968, t969⟩, A51, H⟩ := bs1 H; dsimp only at H
     simp only [Option.some.injEq, Prod.mk.injEq] at H
     obtain ⟨rfl, rfl, rfl⟩ := H
     have hnb52 := NB950_951.out
     have hnc52 := NB951_950.out
     have hnb53 := NB950_952.out
     have hnc53 := NB952_950.out
     obtain ⟨hcz54_0, hcz54_1, hcz54_2, hfz54_0, hfz54_1, hfz54_2⟩ := cz BK950.out
     have hnb55 := NB951_952.out
     have hnc55 := NB952_951.out
     obtain ⟨hcz56_0, hcz56_1, hcz56_2, hfz56_0, hfz56_1, hfz56_2⟩ := cz BK951.out
     go_wp2_with (first | ((with_reducible refine gc 130 rfl ?_); refine gl (some 51) Tryz.func130 #[.string x5_2, .string x6_2] ?_; (with_reducible refine (natural_Subtract.calls kj2 x5_2 x6_2 t965 true _ A49.out).mono ?_); rintro e w57 ⟨rfl, hb⟩; refine ⟨_, rfl, ?_⟩; replace BK950 := Aside0.mk (bk0 BK950.out hb); replace BK951 := Aside0.mk (bk0 BK951.out hb); replace BK952 := Aside0.mk (bk0 BK952.out hb); replace HB := Aside0.mk (bs HB.out hb); (try clear hb); obtain ⟨hcz58_0, hcz58_1, hcz58_2, hfz58_0, hfz58_1, hfz58_2⟩ := cz BK950.out) | ((with_reducible refine gc 62 rfl ?_); refine gl (some 59) Tryz.func62 #[.bool a0_0, .string t965, .string x7_2] ?_; (with_reducible refine (rational_reduced.calls kj2 a0_0 t965 x7_2 t967 t968 t969 _ A51.out).mono ?_); rintro e w59 ⟨rfl, hb⟩; refine ⟨_, rfl, ?_⟩; replace BK950 := Aside0.mk (bk0 BK950.out hb); replace BK951 := Aside0.mk (bk0 BK951.out hb); replace BK952 := Aside0.mk (bk0 BK952.out hb); replace HB := Aside0.mk (bs HB.out hb); (try clear hb); obtain ⟨hcz60_0, hcz60_1, hcz60_2, hfz60_0, hfz60_1, hfz60_2⟩ := cz BK952.out))
     refine bodyPost_ret (results_cell_row rfl _ _ gb952 24 #[.bool t967, .string t968, .string t969] (0, 0) _ rfl (bq BK952.out) Tryz.underlying24 rfl (by kernel_rfl)) rfl ?_
     exact ⟨fe, bz HB.out⟩
    ·replace c50 := Bool.eq_false_iff.mpr c50
     subst c50
     have H1 : ((natural_Subtract.f kj2 x6_2 x5_2).bind fun bt970 => ((rational_reduced.f kj2 a1_0 bt970.1 x7_2).bind fun bt972 => (some (bt972.1, bt972.2.1, bt972.2.2)))) = some (r1, r2, r3) := by rw [if_neg (show ¬ (false = true) by decide)] at H; exact H
     clear H
     have H := H1
     clear H1
     obtain ⟨⟨t970, t971⟩, A61, H⟩ := bs1 H; dsimp only at H
     obtain ⟨⟨t972, t973, t974⟩, A62, H⟩ := bs1 H; dsimp only at H
     simp only [Option.some.injEq, Prod.mk.injEq] at H
     obtain ⟨rfl, rfl, rfl⟩ := H
     have hnb63 := NB950_951.out
     have hnc63 := NB951_950.out
     have hnb64 := NB950_952.out
     have hnc64 := NB952_950.out
     obtain ⟨hcz65_0, hcz65_1, hcz65_2, hfz65_0, hfz65_1, hfz65_2⟩ := cz BK950.out
     have hnb66 := NB951_952.out
     have hnc66 := NB952_951.out
     obtain ⟨hcz67_0, hcz67_1, hcz67_2, hfz67_0, hfz67_1, hfz67_2⟩ := cz BK951.out
     go_wp2_with (first | ((with_reducible refine gc 130 rfl ?_); refine gl (some 51) Tryz.func130 #[.string x5_2, .string x6_2] ?_; (with_reducible refine (natural_Subtract.calls kj2 x5_2 x6_2 t965 false _ A49.out).mono ?_); rintro e w68 ⟨rfl, hb⟩; refine ⟨_, rfl, ?_⟩; replace BK950 := Aside0.mk (bk0 BK950.out hb); replace BK951 := Aside0.mk (bk0 BK951.out hb); replace BK952 := Aside0.mk (bk0 BK952.out hb); replace HB := Aside0.mk (bs HB.out hb); (try clear hb)) | ((with_reducible refine gc 130 rfl ?_); refine gl (some 63) Tryz.func130 #[.string x6_2, .string x5_2] ?_; (with_reducible refine (natural_Subtract.calls kj2 x6_2 x5_2 t970 t971 _ A61.out).mono ?_); rintro e w69 ⟨rfl, hb⟩; refine ⟨_, rfl, ?_⟩; replace BK950 := Aside0.mk (bk0 BK950.out hb); replace BK951 := Aside0.mk (bk0 BK951.out hb); replace BK952 := Aside0.mk (bk0 BK952.out hb); replace HB := Aside0.mk (bs HB.out hb); (try clear hb); obtain ⟨hcz70_0, hcz70_1, hcz70_2, hfz70_0, hfz70_1, hfz70_2⟩ := cz BK951.out) | ((with_reducible refine gc 62 rfl ?_); refine gl (some 70) Tryz.func62 #[.bool a1_0, .string t970, .string x7_2] ?_; (with_reducible refine (rational_reduced.calls kj2 a1_0 t970 x7_2 t972 t973 t974 _ A62.out).mono ?_); rintro e w71 ⟨rfl, hb⟩; refine ⟨_, rfl, ?_⟩; replace BK950 := Aside0.mk (bk0 BK950.out hb); replace BK951 := Aside0.mk (bk0 BK951.out hb); replace BK952 := Aside0.mk (bk0 BK952.out hb); replace HB := Aside0.mk (bs HB.out hb); (try clear hb); obtain ⟨hcz72_0, hcz72_1, hcz72_2, hfz72_0, hfz72_1, hfz72_2⟩ := cz BK952.out))
     refine bodyPost_ret (results_cell_row rfl _ _ gb952 24 #[.bool t972, .string t973, .string t974] (0, 0) _ rfl (bq BK952.out) Tryz.underlying24 rfl (by kernel_rfl)) rfl ?_
     exact ⟨fe, bz HB.out⟩

/-! ### rational_negate: function 93 -/
def rational_negate.f (a0_0 : Bool) (a0_1 : ByteArray) (a0_2 : ByteArray) : Option (Bool × ByteArray × ByteArray) := if a0_0 = true then (some (false, a0_1, a0_2)) else (some ((a0_1.toList != ([] : List UInt8)), a0_1, a0_2))
set_option maxHeartbeats 8000000 in
set_option maxRecDepth 100000 in
theorem rational_negate.calls (a0_0 : Bool) (a0_1 : ByteArray) (a0_2 : ByteArray) (r1 : Bool) (r2 : ByteArray) (r3 : ByteArray) (w : World) (h : rational_negate.f a0_0 a0_1 a0_2 = some (r1, r2, r3)) :
  Calls Tryz.prog 93 #[.agg #[.bool a0_0, .string a0_1, .string a0_2]] w fun e w' => e = .returned (.agg #[.bool r1, .string r2, .string r3]) ∧ Below w.heap.size w w' := by
 have hu24 := Tryz.underlying24
 have HB := Aside0.mk (Below.refl w.heap.size w)
 have H := h
 clear h
 unfold rational_negate.f at H
 by_cases c2 : a0_0 = true
 ·subst c2
  have H1 : (some (false, a0_1, a0_2)) = some (r1, r2, r3) := by rw [if_pos rfl] at H; exact H
  clear H
  have H := H1
  clear H1
  simp only [Option.some.injEq, Prod.mk.injEq] at H
  obtain ⟨rfl, rfl, rfl⟩ := H
  go_enter Tryz.func93, Tryz.ntmps93
  go_wp2_with (first | ((with_reducible refine gd 1 rfl ?_); refine bx 1 (#[.bool true, .string a0_1, .string a0_2]) 24 ?_; intro gb1072 hg w3 hbox hb; have BK1072 := Aside0.mk (hbox); have GW1072 := sg hg HB.out; have GE1072 := sg hg HB.out; replace HB := Aside0.mk (bs HB.out hb); clear hb hbox hg) | ((with_reducible refine gd 2 rfl ?_); refine bx 2 (#[.bool false, .string (⟨#[]⟩ : ByteArray), .string (⟨#[]⟩ : ByteArray)]) 24 ?_; intro gb1073 hg w4 hbox hb; have BK1073 := Aside0.mk (hbox); have GW1073 := sg hg HB.out; have GE1073 := sg hg HB.out; replace HB := Aside0.mk (bs HB.out hb); have NB1072_1073 := nl hg BK1072.out; have NB1073_1072 := nr hg BK1072.out; replace BK1072 := Aside0.mk (bk0 BK1072.out hb); clear hb hbox hg; have hnb5 := NB1072_1073.out; have hnc5 := NB1073_1072.out; obtain ⟨hcz6_0, hcz6_1, hcz6_2, hfz6_0, hfz6_1, hfz6_2⟩ := cz BK1072.out; obtain ⟨hcz7_0, hcz7_1, hcz7_2, hfz7_0, hfz7_1, hfz7_2⟩ := cz BK1073.out))
  refine bodyPost_ret (results_cell_row rfl _ _ gb1073 24 #[.bool false, .string a0_1, .string a0_2] (0, 0) _ rfl (bq BK1073.out) Tryz.underlying24 rfl (by kernel_rfl)) rfl ?_
  exact ⟨fe, bz HB.out⟩
 ·replace c2 := Bool.eq_false_iff.mpr c2
  subst c2
  have H1 : (some ((a0_1.toList != ([] : List UInt8)), a0_1, a0_2)) = some (r1, r2, r3) := by rw [if_neg (show ¬ (false = true) by decide)] at H; exact H
  clear H
  have H := H1
  clear H1
  simp only [Option.some.injEq, Prod.mk.injEq] at H
  obtain ⟨rfl, rfl, rfl⟩ := H
  go_enter Tryz.func93, Tryz.ntmps93
  go_wp2_with (first | ((with_reducible refine gd 1 rfl ?_); refine bx 1 (#[.bool false, .string a0_1, .string a0_2]) 24 ?_; intro gb1072 hg w8 hbox hb; have BK1072 := Aside0.mk (hbox); have GW1072 := sg hg HB.out; have GE1072 := sg hg HB.out; replace HB := Aside0.mk (bs HB.out hb); clear hb hbox hg) | ((with_reducible refine gd 2 rfl ?_); refine bx 2 (#[.bool false, .string (⟨#[]⟩ : ByteArray), .string (⟨#[]⟩ : ByteArray)]) 24 ?_; intro gb1073 hg w9 hbox hb; have BK1073 := Aside0.mk (hbox); have GW1073 := sg hg HB.out; have GE1073 := sg hg HB.out; replace HB := Aside0.mk (bs HB.out hb); have NB1072_1073 := nl hg BK1072.out; have NB1073_1072 := nr hg BK1072.out; replace BK1072 := Aside0.mk (bk0 BK1072.out hb); clear hb hbox hg; have hnb10 := NB1072_1073.out; have hnc10 := NB1073_1072.out; obtain ⟨hcz11_0, hcz11_1, hcz11_2, hfz11_0, hfz11_1, hfz11_2⟩ := cz BK1072.out; obtain ⟨hcz12_0, hcz12_1, hcz12_2, hfz12_0, hfz12_1, hfz12_2⟩ := cz BK1073.out))
  refine bodyPost_ret (results_cell_row rfl _ _ gb1073 24 #[.bool (a0_1.toList != ([] : List UInt8)), .string a0_1, .string a0_2] (0, 0) _ rfl (bq BK1073.out) Tryz.underlying24 rfl (by kernel_rfl)) rfl ?_
  exact ⟨fe, bz HB.out⟩

/-! ### rational_Negate: function 37 -/
def rational_Negate.f (k : Nat) (a0_0 : Bool) (a0_1 : ByteArray) (a0_2 : ByteArray) : Option (Bool × ByteArray × ByteArray) := (rational_clean.f k a0_0 a0_1 a0_2).bind fun bt1076 => ((rational_negate.f bt1076.1 bt1076.2.1 bt1076.2.2).bind fun bt1079 => (some (bt1079.1, bt1079.2.1, bt1079.2.2)))
set_option maxHeartbeats 8000000 in
set_option maxRecDepth 100000 in
theorem rational_Negate.calls (k : Nat) (a0_0 : Bool) (a0_1 : ByteArray) (a0_2 : ByteArray) (r1 : Bool) (r2 : ByteArray) (r3 : ByteArray) (w : World) (h : rational_Negate.f k a0_0 a0_1 a0_2 = some (r1, r2, r3)) :
  Calls Tryz.prog 37 #[.agg #[.bool a0_0, .string a0_1, .string a0_2]] w fun e w' => e = .returned (.agg #[.bool r1, .string r2, .string r3]) ∧ Below w.heap.size w w' := by
 have hu24 := Tryz.underlying24
 have HB := Aside0.mk (Below.refl w.heap.size w)
 have H := h
 clear h
 unfold rational_Negate.f at H
 obtain ⟨⟨t1076, t1077, t1078⟩, A2, H⟩ := bs1 H; dsimp only at H
 obtain ⟨⟨t1079, t1080, t1081⟩, A3, H⟩ := bs1 H; dsimp only at H
 simp only [Option.some.injEq, Prod.mk.injEq] at H
 obtain ⟨rfl, rfl, rfl⟩ := H
 go_enter Tryz.func37, Tryz.ntmps37
 go_wp2_with (first | ((with_reducible refine gd 1 rfl ?_); refine bx 1 (#[.bool a0_0, .string a0_1, .string a0_2]) 24 ?_; intro gb1074 hg w4 hbox hb; have BK1074 := Aside0.mk (hbox); have GW1074 := sg hg HB.out; have GE1074 := sg hg HB.out; replace HB := Aside0.mk (bs HB.out hb); clear hb hbox hg) | ((with_reducible refine gd 2 rfl ?_); refine bx 2 (#[.bool false, .string (⟨#[]⟩ : ByteArray), .string (⟨#[]⟩ : ByteArray)]) 24 ?_; intro gb1075 hg w5 hbox hb; have BK1075 := Aside0.mk (hbox); have GW1075 := sg hg HB.out; have GE1075 := sg hg HB.out; replace HB := Aside0.mk (bs HB.out hb); have NB1074_1075 := nl hg BK1074.out; have NB1075_1074 := nr hg BK1074.out; replace BK1074 := Aside0.mk (bk0 BK1074.out hb); clear hb hbox hg; have hnb6 := NB1074_1075.out; have hnc6 := NB1075_1074.out; obtain ⟨hcz7_0, hcz7_1, hcz7_2, hfz7_0, hfz7_1, hfz7_2⟩ := cz BK1074.out) | ((with_reducible refine gc 73 rfl ?_); refine gl (some 4) Tryz.func73 #[.agg #[.bool a0_0, .string a0_1, .string a0_2]] ?_; (with_reducible refine (rational_clean.calls k a0_0 a0_1 a0_2 t1076 t1077 t1078 _ A2.out).mono ?_); rintro e w8 ⟨rfl, hb⟩; refine ⟨_, rfl, ?_⟩; replace BK1074 := Aside0.mk (bk0 BK1074.out hb); replace BK1075 := Aside0.mk (bk0 BK1075.out hb); replace HB := Aside0.mk (bs HB.out hb); (try clear hb)) | ((with_reducible refine gc 93 rfl ?_); refine gl (some 5) Tryz.func93 #[.agg #[.bool t1076, .string t1077, .string t1078]] ?_; (with_reducible refine (rational_negate.calls t1076 t1077 t1078 t1079 t1080 t1081 _ A3.out).mono ?_); rintro e w9 ⟨rfl, hb⟩; refine ⟨_, rfl, ?_⟩; replace BK1074 := Aside0.mk (bk0 BK1074.out hb); replace BK1075 := Aside0.mk (bk0 BK1075.out hb); replace HB := Aside0.mk (bs HB.out hb); (try clear hb); obtain ⟨hcz10_0, hcz10_1, hcz10_2, hfz10_0, hfz10_1, hfz10_2⟩ := cz BK1075.out))
 refine bodyPost_ret (results_cell_row rfl _ _ gb1075 24 #[.bool t1079, .string t1080, .string t1081] (0, 0) _ rfl (bq BK1075.out) Tryz.underlying24 rfl (by kernel_rfl)) rfl ?_
 exact ⟨fe, bz HB.out⟩

/-! ### rational_Subtract: function 41 -/
def rational_Subtract.f (k : Nat) (a0_0 : Bool) (a0_1 : ByteArray) (a0_2 : ByteArray) (a1_0 : Bool) (a1_1 : ByteArray) (a1_2 : ByteArray) : Option (Bool × ByteArray × ByteArray) := (rational_clean.f k a0_0 a0_1 a0_2).bind fun bt1119 => ((rational_clean.f k a1_0 a1_1 a1_2).bind fun bt1122 => ((rational_negate.f bt1122.1 bt1122.2.1 bt1122.2.2).bind fun bt1125 => ((rational_add.f k bt1119.1 bt1119.2.1 bt1119.2.2 bt1125.1 bt1125.2.1 bt1125.2.2).bind fun bt1128 => (some (bt1128.1, bt1128.2.1, bt1128.2.2)))))
set_option maxHeartbeats 8000000 in
set_option maxRecDepth 100000 in
theorem rational_Subtract.calls (k : Nat) (a0_0 : Bool) (a0_1 : ByteArray) (a0_2 : ByteArray) (a1_0 : Bool) (a1_1 : ByteArray) (a1_2 : ByteArray) (r1 : Bool) (r2 : ByteArray) (r3 : ByteArray) (w : World) (h : rational_Subtract.f k a0_0 a0_1 a0_2 a1_0 a1_1 a1_2 = some (r1, r2, r3)) :
  Calls Tryz.prog 41 #[.agg #[.bool a0_0, .string a0_1, .string a0_2], .agg #[.bool a1_0, .string a1_1, .string a1_2]] w fun e w' => e = .returned (.agg #[.bool r1, .string r2, .string r3]) ∧ Below w.heap.size w w' := by
 have hu24 := Tryz.underlying24
 have HB := Aside0.mk (Below.refl w.heap.size w)
 have H := h
 clear h
 unfold rational_Subtract.f at H
 obtain ⟨⟨t1119, t1120, t1121⟩, A3, H⟩ := bs1 H; dsimp only at H
 obtain ⟨⟨t1122, t1123, t1124⟩, A4, H⟩ := bs1 H; dsimp only at H
 obtain ⟨⟨t1125, t1126, t1127⟩, A5, H⟩ := bs1 H; dsimp only at H
 obtain ⟨⟨t1128, t1129, t1130⟩, A6, H⟩ := bs1 H; dsimp only at H
 simp only [Option.some.injEq, Prod.mk.injEq] at H
 obtain ⟨rfl, rfl, rfl⟩ := H
 go_enter Tryz.func41, Tryz.ntmps41
 try go_wp2_with (first | ((with_reducible refine gd 2 rfl ?_); refine bx 2 (#[.bool a0_0, .string a0_1, .string a0_2]) 24 ?_; intro gb1116 hg w7 hbox hb; have BK1116 := Aside0.mk (hbox); have GW1116 := sg hg HB.out; have GE1116 := sg hg HB.out; replace HB := Aside0.mk (bs HB.out hb); clear hb hbox hg) | ((with_reducible refine gd 3 rfl ?_); refine bx 3 (#[.bool a1_0, .string a1_1, .string a1_2]) 24 ?_; intro gb1117 hg w8 hbox hb; have BK1117 := Aside0.mk (hbox); have GW1117 := sg hg HB.out; have GE1117 := sg hg HB.out; replace HB := Aside0.mk (bs HB.out hb); have NB1116_1117 := nl hg BK1116.out; have NB1117_1116 := nr hg BK1116.out; replace BK1116 := Aside0.mk (bk0 BK1116.out hb); clear hb hbox hg) | ((with_reducible refine gd 4 rfl ?_); refine bx 4 (#[.bool false, .string (⟨#[]⟩ : ByteArray), .string (⟨#[]⟩ : ByteArray)]) 24 ?_; intro gb1118 hg w9 hbox hb; have BK1118 := Aside0.mk (hbox); have GW1118 := sg hg HB.out; have GE1118 := sg hg HB.out; replace HB := Aside0.mk (bs HB.out hb); have NB1116_1118 := nl hg BK1116.out; have NB1118_1116 := nr hg BK1116.out; replace BK1116 := Aside0.mk (bk0 BK1116.out hb); have NB1117_1118 := nl hg BK1117.out; have NB1118_1117 := nr hg BK1117.out; replace BK1117 := Aside0.mk (bk0 BK1117.out hb); clear hb hbox hg))
 replace BK1116 := Aside0.mk (blk_drew BK1116.out)
 replace BK1117 := Aside0.mk (blk_drew BK1117.out)
 replace BK1118 := Aside0.mk (blk_drew BK1118.out)
 replace HB := Aside0.mk (below_drew1 HB.out)
 refine start_ (n := 7) (S := fun w' => w'.cell? ⟨gb1116, 0, none⟩ = some (.bool a0_0) ∧ w'.cell? ⟨gb1116, 1, none⟩ = some (.string a0_1) ∧ w'.cell? ⟨gb1116, 2, none⟩ = some (.string a0_2) ∧ w'.cell? ⟨gb1117, 0, none⟩ = some (.bool a1_0) ∧ w'.cell? ⟨gb1117, 1, none⟩ = some (.string a1_1) ∧ w'.cell? ⟨gb1117, 2, none⟩ = some (.string a1_2)) (ds := []) #[false, false, false, false, false, false, false] (by kernel_rfl) rfl rfl ⟨(blk_cell BK1116.out 0).trans rfl, (blk_cell BK1116.out 1).trans rfl, (blk_cell BK1116.out 2).trans rfl, (blk_cell BK1117.out 0).trans rfl, (blk_cell BK1117.out 1).trans rfl, (blk_cell BK1117.out 2).trans rfl⟩ (fun hHeld => ?_)
 generalize w9.drew = w10 at BK1116 BK1117 BK1118 HB hHeld ⊢
 refine take_ (i := 0) (N := some 5) (v := ?_) (a' := ?_) #[true, false, false, false, false, false, false] rfl rfl (by kernel_rfl) (fun _ _ _ h => h) (Or.inl ⟨by rfl, ?_⟩) hHeld ?_ ?_
 rotate_left
 ·rintro w' ⟨s0, s1, s2, s3, s4, s5⟩
  go_simp
  with_reducible rfl
 rotate_left
 ·simp only [Act.put, List.setIfInBounds_toArray, List.set_cons_zero, List.set_cons_succ, i64_w, i32_w]
  rfl
 refine take_ (i := 2) (N := some 7) (v := ?_) (a' := ?_) #[true, false, true, false, false, false, false] rfl rfl (by kernel_rfl) (fun _ _ _ h => h) (Or.inl ⟨by rfl, ?_⟩) hHeld ?_ ?_
 rotate_left
 ·rintro w' ⟨s0, s1, s2, s3, s4, s5⟩
  go_simp
  with_reducible rfl
 rotate_left
 ·simp only [Act.put, List.setIfInBounds_toArray, List.set_cons_zero, List.set_cons_succ, i64_w, i32_w]
  rfl
 refine one_ (i := 1) (N := some 6) #[true, true, true, false, false, false, false] rfl rfl (by kernel_rfl) (by decide) (fun K hK => ?_)
 refine gs Tryz.func73 #[.agg #[.bool a0_0, .string a0_1, .string a0_2]] ?_
 with_reducible refine (rational_clean.calls k a0_0 a0_1 a0_2 t1119 t1120 t1121 _ A3.out).mono ?_
 rintro e w11 ⟨rfl, hb⟩
 refine ⟨_, rfl, ?_⟩
 replace BK1116 := Aside0.mk (bk0 BK1116.out hb)
 replace BK1117 := Aside0.mk (bk0 BK1117.out hb)
 replace BK1118 := Aside0.mk (bk0 BK1118.out hb)
 replace HB := Aside0.mk (bs HB.out hb)
 (try clear hb)
 refine hK.out _ _ ⟨(blk_cell BK1116.out 0).trans rfl, (blk_cell BK1116.out 1).trans rfl, (blk_cell BK1116.out 2).trans rfl, (blk_cell BK1117.out 0).trans rfl, (blk_cell BK1117.out 1).trans rfl, (blk_cell BK1117.out 2).trans rfl⟩ (fun hHeld => ?_)
 clear hK K
 refine nm ?_
 refine one_ (i := 3) (N := some 8) #[true, true, true, true, false, false, false] rfl rfl (by kernel_rfl) (by decide) (fun K hK => ?_)
 refine gs Tryz.func73 #[.agg #[.bool a1_0, .string a1_1, .string a1_2]] ?_
 with_reducible refine (rational_clean.calls k a1_0 a1_1 a1_2 t1122 t1123 t1124 _ A4.out).mono ?_
 rintro e w12 ⟨rfl, hb⟩
 refine ⟨_, rfl, ?_⟩
 replace BK1116 := Aside0.mk (bk0 BK1116.out hb)
 replace BK1117 := Aside0.mk (bk0 BK1117.out hb)
 replace BK1118 := Aside0.mk (bk0 BK1118.out hb)
 replace HB := Aside0.mk (bs HB.out hb)
 (try clear hb)
 refine hK.out _ _ ⟨(blk_cell BK1116.out 0).trans rfl, (blk_cell BK1116.out 1).trans rfl, (blk_cell BK1116.out 2).trans rfl, (blk_cell BK1117.out 0).trans rfl, (blk_cell BK1117.out 1).trans rfl, (blk_cell BK1117.out 2).trans rfl⟩ (fun hHeld => ?_)
 clear hK K
 refine nm ?_
 refine one_ (i := 4) (N := some 9) #[true, true, true, true, true, false, false] rfl rfl (by kernel_rfl) (by decide) (fun K hK => ?_)
 refine gs Tryz.func93 #[.agg #[.bool t1122, .string t1123, .string t1124]] ?_
 with_reducible refine (rational_negate.calls t1122 t1123 t1124 t1125 t1126 t1127 _ A5.out).mono ?_
 rintro e w13 ⟨rfl, hb⟩
 refine ⟨_, rfl, ?_⟩
 replace BK1116 := Aside0.mk (bk0 BK1116.out hb)
 replace BK1117 := Aside0.mk (bk0 BK1117.out hb)
 replace BK1118 := Aside0.mk (bk0 BK1118.out hb)
 replace HB := Aside0.mk (bs HB.out hb)
 (try clear hb)
 refine hK.out _ _ ⟨(blk_cell BK1116.out 0).trans rfl, (blk_cell BK1116.out 1).trans rfl, (blk_cell BK1116.out 2).trans rfl, (blk_cell BK1117.out 0).trans rfl, (blk_cell BK1117.out 1).trans rfl, (blk_cell BK1117.out 2).trans rfl⟩ (fun hHeld => ?_)
 clear hK K
 refine nm ?_
 refine one_ (i := 5) (N := some 10) #[true, true, true, true, true, true, false] rfl rfl (by kernel_rfl) (by decide) (fun K hK => ?_)
 refine gs Tryz.func91 #[.agg #[.bool t1119, .string t1120, .string t1121], .agg #[.bool t1125, .string t1126, .string t1127]] ?_
 with_reducible refine (rational_add.calls k t1119 t1120 t1121 t1125 t1126 t1127 t1128 t1129 t1130 _ A6.out).mono ?_
 rintro e w14 ⟨rfl, hb⟩
 refine ⟨_, rfl, ?_⟩
 replace BK1116 := Aside0.mk (bk0 BK1116.out hb)
 replace BK1117 := Aside0.mk (bk0 BK1117.out hb)
 replace BK1118 := Aside0.mk (bk0 BK1118.out hb)
 replace HB := Aside0.mk (bs HB.out hb)
 (try clear hb)
 refine hK.out _ _ ⟨(blk_cell BK1116.out 0).trans rfl, (blk_cell BK1116.out 1).trans rfl, (blk_cell BK1116.out 2).trans rfl, (blk_cell BK1117.out 0).trans rfl, (blk_cell BK1117.out 1).trans rfl, (blk_cell BK1117.out 2).trans rfl⟩ (fun hHeld => ?_)
 clear hK K
 refine nm ?_
 refine one_ (i := 6) (N := none) #[true, true, true, true, true, true, true] rfl rfl (by kernel_rfl) (by decide) (fun K hK => ?_)
 have hs15 : w14.cell? ⟨gb1118, 0, none⟩ = some (.bool false) := (blk_cell BK1118.out 0).trans rfl
 have hfs15 := blk_frozen BK1118.out 0
 have hns15_0 := NB1116_1118.out
 have hns15_1 := NB1117_1118.out
 have hms15_0 := NB1118_1116.out
 have hms15_1 := NB1118_1117.out
 have hs16 : w14.cell? ⟨gb1118, 1, none⟩ = some (.string (⟨#[]⟩ : ByteArray)) := (blk_cell BK1118.out 1).trans rfl
 have hfs16 := blk_frozen BK1118.out 1
 have hns16_0 := NB1116_1118.out
 have hns16_1 := NB1117_1118.out
 have hms16_0 := NB1118_1116.out
 have hms16_1 := NB1118_1117.out
 have hs17 : w14.cell? ⟨gb1118, 2, none⟩ = some (.string (⟨#[]⟩ : ByteArray)) := (blk_cell BK1118.out 2).trans rfl
 have hfs17 := blk_frozen BK1118.out 2
 have hns17_0 := NB1116_1118.out
 have hns17_1 := NB1117_1118.out
 have hms17_0 := NB1118_1116.out
 have hms17_1 := NB1118_1117.out
 refine skip_ (w1 := ?_) (by rfl) rfl ?_ ?_
 rotate_left
 ·go_simp
  rfl
 refine hK.out _ _ ⟨((cell_far (p := ⟨gb1118, _, none⟩) NB1116_1118.out _).trans (((cell_far (p := ⟨gb1118, _, none⟩) NB1116_1118.out _).trans (((cell_far (p := ⟨gb1118, _, none⟩) NB1116_1118.out _).trans (hHeld.1)))))), ((cell_far (p := ⟨gb1118, _, none⟩) NB1116_1118.out _).trans (((cell_far (p := ⟨gb1118, _, none⟩) NB1116_1118.out _).trans (((cell_far (p := ⟨gb1118, _, none⟩) NB1116_1118.out _).trans (hHeld.2.1)))))), ((cell_far (p := ⟨gb1118, _, none⟩) NB1116_1118.out _).trans (((cell_far (p := ⟨gb1118, _, none⟩) NB1116_1118.out _).trans (((cell_far (p := ⟨gb1118, _, none⟩) NB1116_1118.out _).trans (hHeld.2.2.1)))))), ((cell_far (p := ⟨gb1118, _, none⟩) NB1117_1118.out _).trans (((cell_far (p := ⟨gb1118, _, none⟩) NB1117_1118.out _).trans (((cell_far (p := ⟨gb1118, _, none⟩) NB1117_1118.out _).trans (hHeld.2.2.2.1)))))), ((cell_far (p := ⟨gb1118, _, none⟩) NB1117_1118.out _).trans (((cell_far (p := ⟨gb1118, _, none⟩) NB1117_1118.out _).trans (((cell_far (p := ⟨gb1118, _, none⟩) NB1117_1118.out _).trans (hHeld.2.2.2.2.1)))))), ((cell_far (p := ⟨gb1118, _, none⟩) NB1117_1118.out _).trans (((cell_far (p := ⟨gb1118, _, none⟩) NB1117_1118.out _).trans (((cell_far (p := ⟨gb1118, _, none⟩) NB1117_1118.out _).trans (hHeld.2.2.2.2.2))))))⟩ (fun hHeld => ?_)
 clear hK K
 refine done_ (by kernel_rfl) ?_
 try go_wp2
 refine bodyPost_ret (results_cell_row rfl _ _ gb1118 24 #[.bool t1128, .string t1129, .string t1130] (0, 0) _ rfl (bq BK1118.out) Tryz.underlying24 rfl (by kernel_rfl)) rfl ?_
 exact ⟨fe, bz HB.out⟩

/-! ### rational_signOf: function 98 -/
def rational_signOf.f (a0_0 : Bool) (a0_1 : ByteArray) (a0_2 : ByteArray) : Option (Int) := if a0_1.toList = ([] : List UInt8) then (some 0) else (if a0_0 = true then (some (-1)) else (some 1))
set_option maxHeartbeats 8000000 in
set_option maxRecDepth 100000 in
theorem rational_signOf.calls (a0_0 : Bool) (a0_1 : ByteArray) (a0_2 : ByteArray) (r : Int) (w : World) (h : rational_signOf.f a0_0 a0_1 a0_2 = some r) :
  Calls Tryz.prog 98 #[.agg #[.bool a0_0, .string a0_1, .string a0_2]] w fun e w' => e = .returned (.int .i64 r) ∧ Below w.heap.size w w' := by
 have hu24 := Tryz.underlying24
 have HB := Aside0.mk (Below.refl w.heap.size w)
 have H := h
 clear h
 unfold rational_signOf.f at H
 by_cases c2 : a0_1.toList = ([] : List UInt8)
 ·rw [if_pos c2] at H
  have c2b0 := beq_iff_eq.mpr c2
  have c2b1 := bne_eq_false_iff_eq.mpr c2
  clear c2
  obtain rfl := Option.some.inj H
  go_enter Tryz.func98, Tryz.ntmps98
  go_wp2_with (first | ((with_reducible refine gd 1 rfl ?_); refine bx 1 (#[.bool a0_0, .string a0_1, .string a0_2]) 24 ?_; intro gb1236 hg w3 hbox hb; have BK1236 := Aside0.mk (hbox); have GW1236 := sg hg HB.out; have GE1236 := sg hg HB.out; replace HB := Aside0.mk (bs HB.out hb); clear hb hbox hg; obtain ⟨hcz4_0, hcz4_1, hcz4_2, hfz4_0, hfz4_1, hfz4_2⟩ := cz BK1236.out))
  go_ret
  exact ⟨fe, bz HB.out⟩
 ·rw [if_neg c2] at H
  have c2b0 := beq_eq_false_iff_ne.mpr c2
  have c2b1 := bne_iff_ne.mpr c2
  by_cases c5 : a0_0 = true
  ·subst c5
   have H1 : (some (-1)) = some r := by rw [if_pos rfl] at H; exact H
   clear H
   have H := H1
   clear H1
   obtain rfl := Option.some.inj H
   go_enter Tryz.func98, Tryz.ntmps98
   go_wp2_with (first | ((with_reducible refine gd 1 rfl ?_); refine bx 1 (#[.bool true, .string a0_1, .string a0_2]) 24 ?_; intro gb1236 hg w6 hbox hb; have BK1236 := Aside0.mk (hbox); have GW1236 := sg hg HB.out; have GE1236 := sg hg HB.out; replace HB := Aside0.mk (bs HB.out hb); clear hb hbox hg; obtain ⟨hcz7_0, hcz7_1, hcz7_2, hfz7_0, hfz7_1, hfz7_2⟩ := cz BK1236.out))
   go_ret
   exact ⟨fe, bz HB.out⟩
  ·replace c5 := Bool.eq_false_iff.mpr c5
   subst c5
   have H1 : (some 1) = some r := by rw [if_neg (show ¬ (false = true) by decide)] at H; exact H
   clear H
   have H := H1
   clear H1
   obtain rfl := Option.some.inj H
   go_enter Tryz.func98, Tryz.ntmps98
   go_wp2_with (first | ((with_reducible refine gd 1 rfl ?_); refine bx 1 (#[.bool false, .string a0_1, .string a0_2]) 24 ?_; intro gb1236 hg w8 hbox hb; have BK1236 := Aside0.mk (hbox); have GW1236 := sg hg HB.out; have GE1236 := sg hg HB.out; replace HB := Aside0.mk (bs HB.out hb); clear hb hbox hg; obtain ⟨hcz9_0, hcz9_1, hcz9_2, hfz9_0, hfz9_1, hfz9_2⟩ := cz BK1236.out))
   go_ret
   exact ⟨fe, bz HB.out⟩

-- NOT PRINTED: function 170 (bytealg_abigen_runtime_cmpstring)

-- NOT PRINTED: function 155 (bytealg_CompareString)

/-! ### strings_Compare: function 133 (by hand) -/
def strings_Compare.f (a0 : ByteArray) (a1 : ByteArray) : Option (Int) := some (Lib.compareBytes a0.data.toList a1.data.toList)
theorem strings_Compare.calls (a0 : ByteArray) (a1 : ByteArray) (r : Int) (w : World) (h : strings_Compare.f a0 a1 = some r) :
  Calls Tryz.prog 133 #[.string a0, .string a1] w fun e w' => e = .returned (.int .i64 r) ∧ Drawn0 w w' := by
 obtain rfl := Option.some.inj h
 exact (Tryz.strings_Compare a0 a1 w).mono fun e w' ⟨he, hw⟩ => ⟨he, hw ▸ Drawn0.refl _⟩

/-! ### natural_Compare: function 99 -/
def natural_Compare.f (k : Nat) (a0 : ByteArray) (a1 : ByteArray) : Option (Int) := (natural_Normalize.f k a0).bind fun t1237 => ((natural_Normalize.f k a1).bind fun t1238 => (if (t1237.size : Int) = (t1238.size : Int) then ((strings_Compare.f t1237 t1238).bind fun t1239 => (some t1239)) else ((natural_sign.f (wrap64 ((t1237.size : Int) - (t1238.size : Int)))).bind fun t1240 => (some t1240))))
set_option maxHeartbeats 8000000 in
set_option maxRecDepth 100000 in
theorem natural_Compare.calls (k : Nat) (a0 : ByteArray) (a1 : ByteArray) (r : Int) (w : World) (h : natural_Compare.f k a0 a1 = some r) :
  Calls Tryz.prog 99 #[.string a0, .string a1] w fun e w' => e = .returned (.int .i64 r) ∧ Below w.heap.size w w' := by
 have HB := Aside0.mk (Below.refl w.heap.size w)
 have H := h
 clear h
 unfold natural_Compare.f at H
 obtain ⟨t1237, A3, H⟩ := bs1 H
 obtain ⟨t1238, A4, H⟩ := bs1 H
 by_cases c5 : (t1237.size : Int) = (t1238.size : Int)
 ·rw [if_pos c5] at H
  have c5b0 := beq_iff_eq.mpr c5
  have c5b1 := bne_eq_false_iff_eq.mpr c5
  have c5b2 : (t1237.size == t1238.size) = true := by first | simpa using c5 | (simp at c5 ⊢; omega)
  clear c5
  obtain ⟨t1239, A6, H⟩ := bs1 H
  obtain rfl := Option.some.inj H
  go_enter Tryz.func99, Tryz.ntmps99
  go_wp2_with (first | ((with_reducible refine gc 107 rfl ?_); refine gl (some 6) Tryz.func107 #[.string a0] ?_; (with_reducible refine (natural_Normalize.calls k a0 t1237 _ A3.out).mono ?_); rintro e w7 ⟨rfl, hb⟩; refine ⟨_, rfl, ?_⟩; replace HB := Aside0.mk (bs HB.out hb); (try clear hb)) | ((with_reducible refine gc 107 rfl ?_); refine gl (some 8) Tryz.func107 #[.string a1] ?_; (with_reducible refine (natural_Normalize.calls k a1 t1238 _ A4.out).mono ?_); rintro e w8 ⟨rfl, hb⟩; refine ⟨_, rfl, ?_⟩; replace HB := Aside0.mk (bs HB.out hb); (try clear hb)) | ((with_reducible refine gc 133 rfl ?_); refine gl (some 22) Tryz.func133 #[.string t1237, .string t1238] ?_; (with_reducible refine (strings_Compare.calls t1237 t1238 t1239 _ A6.out).mono ?_); rintro e w' ⟨rfl, ⟨nd, rfl⟩⟩; refine ⟨_, rfl, ?_⟩))
  go_ret
  exact ⟨fe, bz HB.out⟩
 ·rw [if_neg c5] at H
  have c5b0 := beq_eq_false_iff_ne.mpr c5
  have c5b1 := bne_iff_ne.mpr c5
  have c5b2 : (t1237.size == t1238.size) = false := by first | simpa using c5 | (simp at c5 ⊢; omega)
  obtain ⟨t1240, A9, H⟩ := bs1 H
  obtain rfl := Option.some.inj H
  go_enter Tryz.func99, Tryz.ntmps99
  go_wp2_with (first | ((with_reducible refine gc 107 rfl ?_); refine gl (some 6) Tryz.func107 #[.string a0] ?_; (with_reducible refine (natural_Normalize.calls k a0 t1237 _ A3.out).mono ?_); rintro e w10 ⟨rfl, hb⟩; refine ⟨_, rfl, ?_⟩; replace HB := Aside0.mk (bs HB.out hb); (try clear hb)) | ((with_reducible refine gc 107 rfl ?_); refine gl (some 8) Tryz.func107 #[.string a1] ?_; (with_reducible refine (natural_Normalize.calls k a1 t1238 _ A4.out).mono ?_); rintro e w11 ⟨rfl, hb⟩; refine ⟨_, rfl, ?_⟩; replace HB := Aside0.mk (bs HB.out hb); (try clear hb)) | ((with_reducible refine gc 132 rfl ?_); refine gl (some 19) Tryz.func132 #[.int .i64 (wrap64 ((t1237.size : Int) - (t1238.size : Int)))] ?_; (with_reducible refine (natural_sign.calls (wrap64 ((t1237.size : Int) - (t1238.size : Int))) t1240 _ A9.out).mono ?_); rintro e w' ⟨rfl, ⟨nd, rfl⟩⟩; refine ⟨_, rfl, ?_⟩))
  go_ret
  exact ⟨fe, bz HB.out⟩
end Go.Proofs.YtgepdnoaemeofaaGreatDoor.A
