/- Printed by a program of this session (wip/tools) out of the translation: plain functions and the proofs that the code comes to their answers. -/
import Derived.Test.YtgepdnoaemeofaaGreatDoorXRationalDivide6
namespace Go.Proofs.YtgepdnoaemeofaaGreatDoor.A
open Go.RowKit Go.Proofs.YtgepdnoaemeofaaGreatDoorW.PrintWords Go.Proofs.YtgepdnoaemeofaaGreatDoorW.PrintLast Go.Proofs.YtgepdnoaemeofaaGreatDoorW.PrintMore Go.Proofs.YtgepdnoaemeofaaGreatDoorW.PK
attribute [local go_sem] max2_int min2_int max_two min_two max_three min_three max_four min_four   -- for this text's walks alone
set_option linter.unusedVariables false
set_option linter.unusedSimpArgs false

attribute [local go_sem high] eqA24
/-! ### rational_Divide: function 29 -/
def rational_Divide.f (k : Nat) (a0_0 : Bool) (a0_1 : ByteArray) (a0_2 : ByteArray) (a1_0 : Bool) (a1_1 : ByteArray) (a1_2 : ByteArray) : Option (Bool × ByteArray × ByteArray × Bool) := (rational_clean.f k a0_0 a0_1 a0_2).bind fun bt826 => ((rational_clean.f k a1_0 a1_1 a1_2).bind fun bt829 => ((rational_den.f bt829.1 bt829.2.1 bt829.2.2).bind fun t832 => ((natural_Multiply.f k bt826.2.1 t832).bind fun t833 => ((rational_den.f bt826.1 bt826.2.1 bt826.2.2).bind fun t834 => ((natural_Multiply.f k t834 bt829.2.1).bind fun t835 => ((rational_Make.f k (bt826.1 != bt829.1) t833 t835).bind fun bt836 => (some (bt836.1, bt836.2.1, bt836.2.2.1, bt836.2.2.2))))))))
theorem rational_Divide.mono : ∀ a0 a1 a2 a3 a4 a5 k, LeO (rational_Divide.f k a0 a1 a2 a3 a4 a5) (rational_Divide.f (k + 1) a0 a1 a2 a3 a4 a5) := by
 intro a0 a1 a2 a3 a4 a5 k
 unfold rational_Divide.f
 repeat' with_reducible first | exact natural_Multiply.mono _ _ _ | exact rational_Make.mono _ _ _ _ | exact rational_clean.mono _ _ _ _ | exact LeO.refl _ | exact LeO.none _ | refine LeO.ite ?_ ?_ | refine LeO.bind ?_ (fun _ => ?_)
def rational_Divide.T2 : Bool × List (List Nat × List Nat) := (true, [([], []), ([0], [0]), ([], []), ([2], [2]), ([1, 3], [1, 3]), ([], []), ([5], [5]), ([], []), ([7], [7]), ([6, 8, 8], [6, 8]), ([], []), ([10, 9], [10]), ([], []), ([12], [12]), ([11, 13, 11], [11, 13]), ([4, 9, 14, 14], [4, 9, 14]), ([15], [15]), ([15], [15]), ([16, 15, 0, 1, 2, 3, 4, 5, 6, 7, 8, 9, 10, 11, 12, 13, 14, 15, 16, 17], [16]), ([17, 18, 0, 1, 2, 3, 4, 5, 6, 7, 8, 9, 10, 11, 12, 13, 14, 15, 16, 17, 18], [17])])
def rational_Divide.B2 : List Nat := [0, 1, 0, 4, 15, 0, 32, 0, 128, 480, 0, 2016, 0, 4096, 16352, 32767, 65535, 65535, 262143, 524287]
theorem rational_Divide.tab2 : rtab .any (opsOf Tryz.f29 2) = rational_Divide.T2 := by kernel_rfl
theorem rational_Divide.bits2 : waitsOk rational_Divide.T2.2 rational_Divide.B2 = true := by kernel_rfl
set_option maxHeartbeats 8000000 in
set_option maxRecDepth 100000 in
theorem rational_Divide.calls (k : Nat) (a0_0 : Bool) (a0_1 : ByteArray) (a0_2 : ByteArray) (a1_0 : Bool) (a1_1 : ByteArray) (a1_2 : ByteArray) (r1 : Bool) (r2 : ByteArray) (r3 : ByteArray) (r4 : Bool) (w : World) (h : rational_Divide.f k a0_0 a0_1 a0_2 a1_0 a1_1 a1_2 = some (r1, r2, r3, r4)) :
  Calls Tryz.prog 29 #[.agg #[.bool a0_0, .string a0_1, .string a0_2], .agg #[.bool a1_0, .string a1_1, .string a1_2]] w fun e w' => e = .returned (.tuple #[.agg #[.bool r1, .string r2, .string r3], .bool r4]) ∧ Below w.heap.size w w' := by
 have hu24 := Tryz.underlying24
 have HB := Aside0.mk (Below.refl w.heap.size w)
 have H := h
 clear h
 unfold rational_Divide.f at H
 obtain ⟨⟨t826, t827, t828⟩, A3, H⟩ := bs1 H; dsimp only at H
 obtain ⟨⟨t829, t830, t831⟩, A4, H⟩ := bs1 H; dsimp only at H
 obtain ⟨t832, A5, H⟩ := bs1 H
 obtain ⟨t833, A6, H⟩ := bs1 H
 obtain ⟨t834, A7, H⟩ := bs1 H
 obtain ⟨t835, A8, H⟩ := bs1 H
 obtain ⟨⟨t836, t837, t838, t839⟩, A9, H⟩ := bs1 H; dsimp only at H
 simp only [Option.some.injEq, Prod.mk.injEq] at H
 obtain ⟨rfl, rfl, rfl, rfl⟩ := H
 go_enter Tryz.func29, Tryz.ntmps29
 try go_wp2_with (first | ((with_reducible refine gd 2 rfl ?_); refine bx 2 (#[.bool a0_0, .string a0_1, .string a0_2]) 24 ?_; intro gb823 hg w10 hbox hb; have BK823 := Aside0.mk (hbox); have GW823 := sg hg HB.out; have GE823 := sg hg HB.out; replace HB := Aside0.mk (bs HB.out hb); clear hb hbox hg) | ((with_reducible refine gd 3 rfl ?_); refine bx 3 (#[.bool a1_0, .string a1_1, .string a1_2]) 24 ?_; intro gb824 hg w11 hbox hb; have BK824 := Aside0.mk (hbox); have GW824 := sg hg HB.out; have GE824 := sg hg HB.out; replace HB := Aside0.mk (bs HB.out hb); have NB823_824 := nl hg BK823.out; have NB824_823 := nr hg BK823.out; replace BK823 := Aside0.mk (bk0 BK823.out hb); clear hb hbox hg) | ((with_reducible refine gd 4 rfl ?_); refine bx 4 (#[.bool false, .string (⟨#[]⟩ : ByteArray), .string (⟨#[]⟩ : ByteArray)]) 24 ?_; intro gb825 hg w12 hbox hb; have BK825 := Aside0.mk (hbox); have GW825 := sg hg HB.out; have GE825 := sg hg HB.out; replace HB := Aside0.mk (bs HB.out hb); have NB823_825 := nl hg BK823.out; have NB825_823 := nr hg BK823.out; replace BK823 := Aside0.mk (bk0 BK823.out hb); have NB824_825 := nl hg BK824.out; have NB825_824 := nr hg BK824.out; replace BK824 := Aside0.mk (bk0 BK824.out hb); clear hb hbox hg))
 replace BK823 := Aside0.mk (blk_drew BK823.out)
 replace BK824 := Aside0.mk (blk_drew BK824.out)
 replace BK825 := Aside0.mk (blk_drew BK825.out)
 replace HB := Aside0.mk (below_drew1 HB.out)
 refine start_ (n := 6) (S := fun w' => w'.cell? ⟨gb823, 0, none⟩ = some (.bool a0_0) ∧ w'.cell? ⟨gb823, 1, none⟩ = some (.string a0_1) ∧ w'.cell? ⟨gb823, 2, none⟩ = some (.string a0_2) ∧ w'.cell? ⟨gb824, 0, none⟩ = some (.bool a1_0) ∧ w'.cell? ⟨gb824, 1, none⟩ = some (.string a1_1) ∧ w'.cell? ⟨gb824, 2, none⟩ = some (.string a1_2)) (ds := [4, 5]) #[false, false, false, false, false, false] (by kernel_rfl) rfl rfl ⟨(blk_cell BK823.out 0).trans rfl, (blk_cell BK823.out 1).trans rfl, (blk_cell BK823.out 2).trans rfl, (blk_cell BK824.out 0).trans rfl, (blk_cell BK824.out 1).trans rfl, (blk_cell BK824.out 2).trans rfl⟩ (fun hHeld => ?_)
 generalize w12.drew = w13 at BK823 BK824 BK825 HB hHeld ⊢
 refine take_ (i := 0) (N := some 6) (v := ?_) (a' := ?_) #[true, false, false, false, false, false] rfl rfl (by kernel_rfl) (fun _ _ _ h => h) (Or.inl ⟨by rfl, ?_⟩) hHeld ?_ ?_
 rotate_left
 ·rintro w' ⟨s0, s1, s2, s3, s4, s5⟩
  go_simp
  with_reducible rfl
 rotate_left
 ·simp only [Act.put, List.setIfInBounds_toArray, List.set_cons_zero, List.set_cons_succ, i64_w, i32_w]
  rfl
 refine take_ (i := 2) (N := some 8) (v := ?_) (a' := ?_) #[true, false, true, false, false, false] rfl rfl (by kernel_rfl) (fun _ _ _ h => h) (Or.inl ⟨by rfl, ?_⟩) hHeld ?_ ?_
 rotate_left
 ·rintro w' ⟨s0, s1, s2, s3, s4, s5⟩
  go_simp
  with_reducible rfl
 rotate_left
 ·simp only [Act.put, List.setIfInBounds_toArray, List.set_cons_zero, List.set_cons_succ, i64_w, i32_w]
  rfl
 refine one_ (i := 1) (N := some 7) #[true, true, true, false, false, false] rfl rfl (by kernel_rfl) (by decide) (fun K hK => ?_)
 refine gs Tryz.func73 #[.agg #[.bool a0_0, .string a0_1, .string a0_2]] ?_
 with_reducible refine (rational_clean.calls k a0_0 a0_1 a0_2 t826 t827 t828 _ A3.out).mono ?_
 rintro e w14 ⟨rfl, hb⟩
 refine ⟨_, rfl, ?_⟩
 replace BK823 := Aside0.mk (bk0 BK823.out hb)
 replace BK824 := Aside0.mk (bk0 BK824.out hb)
 replace BK825 := Aside0.mk (bk0 BK825.out hb)
 replace HB := Aside0.mk (bs HB.out hb)
 (try clear hb)
 refine hK.out _ _ ⟨(blk_cell BK823.out 0).trans rfl, (blk_cell BK823.out 1).trans rfl, (blk_cell BK823.out 2).trans rfl, (blk_cell BK824.out 0).trans rfl, (blk_cell BK824.out 1).trans rfl, (blk_cell BK824.out 2).trans rfl⟩ (fun hHeld => ?_)
 clear hK K
 refine nm ?_
 refine one_ (i := 3) (N := some 9) #[true, true, true, true, false, false] rfl rfl (by kernel_rfl) (by decide) (fun K hK => ?_)
 refine gs Tryz.func73 #[.agg #[.bool a1_0, .string a1_1, .string a1_2]] ?_
 with_reducible refine (rational_clean.calls k a1_0 a1_1 a1_2 t829 t830 t831 _ A4.out).mono ?_
 rintro e w15 ⟨rfl, hb⟩
 refine ⟨_, rfl, ?_⟩
 replace BK823 := Aside0.mk (bk0 BK823.out hb)
 replace BK824 := Aside0.mk (bk0 BK824.out hb)
 replace BK825 := Aside0.mk (bk0 BK825.out hb)
 replace HB := Aside0.mk (bs HB.out hb)
 (try clear hb)
 refine hK.out _ _ ⟨(blk_cell BK823.out 0).trans rfl, (blk_cell BK823.out 1).trans rfl, (blk_cell BK823.out 2).trans rfl, (blk_cell BK824.out 0).trans rfl, (blk_cell BK824.out 1).trans rfl, (blk_cell BK824.out 2).trans rfl⟩ (fun hHeld => ?_)
 clear hK K
 refine nm ?_
 refine last_ (i := 4) (N := none) #[true, true, true, true, true, false] rfl rfl (by kernel_rfl) (by decide) (fun K hK => ?_)
 have hs16 : w15.cell? ⟨gb823, 0, none⟩ = some (.bool a0_0) := (blk_cell BK823.out 0).trans rfl
 have hfs16 := blk_frozen BK823.out 0
 have hns16_1 := NB824_823.out
 have hns16_2 := NB825_823.out
 have hms16_1 := NB823_824.out
 have hms16_2 := NB823_825.out
 have hs17 : w15.cell? ⟨gb823, 1, none⟩ = some (.string a0_1) := (blk_cell BK823.out 1).trans rfl
 have hfs17 := blk_frozen BK823.out 1
 have hns17_1 := NB824_823.out
 have hns17_2 := NB825_823.out
 have hms17_1 := NB823_824.out
 have hms17_2 := NB823_825.out
 have hs18 : w15.cell? ⟨gb823, 2, none⟩ = some (.string a0_2) := (blk_cell BK823.out 2).trans rfl
 have hfs18 := blk_frozen BK823.out 2
 have hns18_1 := NB824_823.out
 have hns18_2 := NB825_823.out
 have hms18_1 := NB823_824.out
 have hms18_2 := NB823_825.out
 refine skip_ (w1 := ?_) (by rfl) rfl ?_ ?_
 rotate_left
 ·go_simp
  rfl
 refine hK.out _ _ ?_
 clear hK K
 refine last_ (i := 5) (N := none) #[true, true, true, true, true, true] rfl rfl (by kernel_rfl) (by decide) (fun K hK => ?_)
 have hs19 : w15.cell? ⟨gb824, 0, none⟩ = some (.bool a1_0) := (blk_cell BK824.out 0).trans rfl
 have hfs19 := blk_frozen BK824.out 0
 have hns19_0 := NB823_824.out
 have hns19_2 := NB825_824.out
 have hms19_0 := NB824_823.out
 have hms19_2 := NB824_825.out
 have hs20 : w15.cell? ⟨gb824, 1, none⟩ = some (.string a1_1) := (blk_cell BK824.out 1).trans rfl
 have hfs20 := blk_frozen BK824.out 1
 have hns20_0 := NB823_824.out
 have hns20_2 := NB825_824.out
 have hms20_0 := NB824_823.out
 have hms20_2 := NB824_825.out
 have hs21 : w15.cell? ⟨gb824, 2, none⟩ = some (.string a1_2) := (blk_cell BK824.out 2).trans rfl
 have hfs21 := blk_frozen BK824.out 2
 have hns21_0 := NB823_824.out
 have hns21_2 := NB825_824.out
 have hms21_0 := NB824_823.out
 have hms21_2 := NB824_825.out
 refine skip_ (w1 := ?_) (by rfl) rfl ?_ ?_
 rotate_left
 ·go_simp
  rfl
 refine hK.out _ _ ?_
 clear hK K
 refine done_ (by kernel_rfl) ?_
 try go_wp2
 have n0_ : Aside0 (((((((w15.setCell ⟨gb823, 0, none⟩ (.bool t826)).setCell ⟨gb823, 1, none⟩ (.string t827)).setCell ⟨gb823, 2, none⟩ (.string t828)).setCell ⟨gb824, 0, none⟩ (.bool t829)).setCell ⟨gb824, 1, none⟩ (.string t830)).setCell ⟨gb824, 2, none⟩ (.string t831)).heap[gb823]? = some (.cells #[.bool t826, .string t827, .string t828] 24 (0, 0))) := ⟨bq BK823.out⟩
 have n1_ : Aside0 (((((((w15.setCell ⟨gb823, 0, none⟩ (.bool t826)).setCell ⟨gb823, 1, none⟩ (.string t827)).setCell ⟨gb823, 2, none⟩ (.string t828)).setCell ⟨gb824, 0, none⟩ (.bool t829)).setCell ⟨gb824, 1, none⟩ (.string t830)).setCell ⟨gb824, 2, none⟩ (.string t831)).heap[gb824]? = some (.cells #[.bool t829, .string t830, .string t831] 24 (0, 0))) := ⟨bq BK824.out⟩
 have n2_ : Aside0 (((((((w15.setCell ⟨gb823, 0, none⟩ (.bool t826)).setCell ⟨gb823, 1, none⟩ (.string t827)).setCell ⟨gb823, 2, none⟩ (.string t828)).setCell ⟨gb824, 0, none⟩ (.bool t829)).setCell ⟨gb824, 1, none⟩ (.string t830)).setCell ⟨gb824, 2, none⟩ (.string t831)).heap[gb825]? = some (.cells #[.bool false, .string (⟨#[]⟩ : ByteArray), .string (⟨#[]⟩ : ByteArray)] 24 (0, 0))) := ⟨bq BK825.out⟩
 have n3_ : Aside0 (Below w.heap.size w ((((((w15.setCell ⟨gb823, 0, none⟩ (.bool t826)).setCell ⟨gb823, 1, none⟩ (.string t827)).setCell ⟨gb823, 2, none⟩ (.string t828)).setCell ⟨gb824, 0, none⟩ (.bool t829)).setCell ⟨gb824, 1, none⟩ (.string t830)).setCell ⟨gb824, 2, none⟩ (.string t831))) := ⟨bz HB.out⟩
 (try clear BK823); (try clear BK824); (try clear BK825); (try clear HB)
 generalize ((((((w15.setCell ⟨gb823, 0, none⟩ (.bool t826)).setCell ⟨gb823, 1, none⟩ (.string t827)).setCell ⟨gb823, 2, none⟩ (.string t828)).setCell ⟨gb824, 0, none⟩ (.bool t829)).setCell ⟨gb824, 1, none⟩ (.string t830)).setCell ⟨gb824, 2, none⟩ (.string t831)) = w22 at n0_ n1_ n2_ n3_ ⊢
 have BK823 := n0_
 have BK824 := n1_
 have BK825 := n2_
 have HB := n3_
 clear n0_ n1_ n2_ n3_
 replace BK823 := Aside0.mk (blk_drew BK823.out)
 replace BK824 := Aside0.mk (blk_drew BK824.out)
 replace BK825 := Aside0.mk (blk_drew BK825.out)
 replace HB := Aside0.mk (below_drew1 HB.out)
 refine start_ (n := 20) (S := fun w' => w'.cell? ⟨gb823, 0, none⟩ = some (.bool t826) ∧ w'.cell? ⟨gb823, 1, none⟩ = some (.string t827) ∧ w'.cell? ⟨gb823, 2, none⟩ = some (.string t828) ∧ w'.cell? ⟨gb824, 0, none⟩ = some (.bool t829) ∧ w'.cell? ⟨gb824, 1, none⟩ = some (.string t830) ∧ w'.cell? ⟨gb824, 2, none⟩ = some (.string t831)) (ds := []) #[false, false, false, false, false, false, false, false, false, false, false, false, false, false, false, false, false, false, false, false] (by kernel_rfl) rfl rfl ⟨(blk_cell BK823.out 0).trans rfl, (blk_cell BK823.out 1).trans rfl, (blk_cell BK823.out 2).trans rfl, (blk_cell BK824.out 0).trans rfl, (blk_cell BK824.out 1).trans rfl, (blk_cell BK824.out 2).trans rfl⟩ (fun hHeld => ?_); refine with_tabW rational_Divide.tab2 rational_Divide.bits2 (fun HT_ HW_ => ?_)
 generalize w22.drew = w23 at BK823 BK824 BK825 HB hHeld ⊢
 refine py 0 (some 10) #[true, false, false, false, false, false, false, false, false, false, false, false, false, false, false, false, false, false, false, false] HT_ ?_
 refine py 2 (some 12) #[true, false, true, false, false, false, false, false, false, false, false, false, false, false, false, false, false, false, false, false] HT_ ?_
 refine py 5 (some 15) #[true, false, true, false, false, true, false, false, false, false, false, false, false, false, false, false, false, false, false, false] HT_ ?_
 refine py 12 (some 22) #[true, false, true, false, false, true, false, false, false, false, false, false, true, false, false, false, false, false, false, false] HT_ ?_
 refine take_ (i := 1) (N := some 11) (v := ?_) (a' := ?_) #[true, true, true, false, false, true, false, false, false, false, false, false, true, false, false, false, false, false, false, false] rfl rfl (take_ofW HT_.out HW_.out (by kernel_rfl)) (fun _ _ _ h => h) (Or.inl ⟨by rfl, ?_⟩) hHeld ?_ ?_
 rotate_left
 ·rintro w' ⟨s0, s1, s2, s3, s4, s5⟩
  go_simp
  with_reducible rfl
 rotate_left
 ·simp only [Act.put, List.setIfInBounds_toArray, List.set_cons_zero, List.set_cons_succ, i64_w, i32_w]
  rfl
 refine take_ (i := 3) (N := some 13) (v := ?_) (a' := ?_) #[true, true, true, true, false, true, false, false, false, false, false, false, true, false, false, false, false, false, false, false] rfl rfl (take_ofW HT_.out HW_.out (by kernel_rfl)) (fun _ _ _ h => h) (Or.inl ⟨by rfl, ?_⟩) hHeld ?_ ?_
 rotate_left
 ·rintro w' ⟨s0, s1, s2, s3, s4, s5⟩
  go_simp
  with_reducible rfl
 rotate_left
 ·simp only [Act.put, List.setIfInBounds_toArray, List.set_cons_zero, List.set_cons_succ, i64_w, i32_w]
  rfl
 refine py 4 (some 14) #[true, true, true, true, true, true, false, false, false, false, false, false, true, false, false, false, false, false, false, false] HT_ ?_
 refine take_ (i := 6) (N := some 16) (v := ?_) (a' := ?_) #[true, true, true, true, true, true, true, false, false, false, false, false, true, false, false, false, false, false, false, false] rfl rfl (take_ofW HT_.out HW_.out (by kernel_rfl)) (fun _ _ _ h => h) (Or.inl ⟨by rfl, ?_⟩) hHeld ?_ ?_
 rotate_left
 ·rintro w' ⟨s0, s1, s2, s3, s4, s5⟩
  go_simp
  with_reducible rfl
 rotate_left
 ·simp only [Act.put, List.setIfInBounds_toArray, List.set_cons_zero, List.set_cons_succ, i64_w, i32_w]
  rfl
 refine take_ (i := 7) (N := some 17) (v := ?_) (a' := ?_) #[true, true, true, true, true, true, true, true, false, false, false, false, true, false, false, false, false, false, false, false] rfl rfl (take_ofW HT_.out HW_.out (by kernel_rfl)) (fun _ _ _ h => h) (Or.inl ⟨by rfl, ?_⟩) hHeld ?_ ?_
 rotate_left
 ·rintro w' ⟨s0, s1, s2, s3, s4, s5⟩
  go_simp
  with_reducible rfl
 rotate_left
 ·simp only [Act.put, List.setIfInBounds_toArray, List.set_cons_zero, List.set_cons_succ, i64_w, i32_w]
  rfl
 refine take_ (i := 10) (N := some 20) (v := ?_) (a' := ?_) #[true, true, true, true, true, true, true, true, false, false, true, false, true, false, false, false, false, false, false, false] rfl rfl (take_ofW HT_.out HW_.out (by kernel_rfl)) (fun _ _ _ h => h) (Or.inl ⟨by rfl, ?_⟩) hHeld ?_ ?_
 rotate_left
 ·rintro w' ⟨s0, s1, s2, s3, s4, s5⟩
  go_simp
  with_reducible rfl
 rotate_left
 ·simp only [Act.put, List.setIfInBounds_toArray, List.set_cons_zero, List.set_cons_succ, i64_w, i32_w]
  rfl
 refine take_ (i := 13) (N := some 23) (v := ?_) (a' := ?_) #[true, true, true, true, true, true, true, true, false, false, true, false, true, true, false, false, false, false, false, false] rfl rfl (take_ofW HT_.out HW_.out (by kernel_rfl)) (fun _ _ _ h => h) (Or.inl ⟨by rfl, ?_⟩) hHeld ?_ ?_
 rotate_left
 ·rintro w' ⟨s0, s1, s2, s3, s4, s5⟩
  go_simp
  with_reducible rfl
 rotate_left
 ·simp only [Act.put, List.setIfInBounds_toArray, List.set_cons_zero, List.set_cons_succ, i64_w, i32_w]
  rfl
 refine one_ (i := 8) (N := some 18) #[true, true, true, true, true, true, true, true, true, false, true, false, true, true, false, false, false, false, false, false] rfl rfl (one_of HT_.out (by kernel_rfl)) (by decide) (fun K hK => ?_)
 refine gs Tryz.func77 #[.agg #[.bool t829, .string t830, .string t831]] ?_
 with_reducible refine (rational_den.calls t829 t830 t831 t832 _ A5.out).mono ?_
 rintro e w24 ⟨rfl, hb⟩
 refine ⟨_, rfl, ?_⟩
 replace BK823 := Aside0.mk (bk0 BK823.out hb)
 replace BK824 := Aside0.mk (bk0 BK824.out hb)
 replace BK825 := Aside0.mk (bk0 BK825.out hb)
 replace HB := Aside0.mk (bs HB.out hb)
 (try clear hb)
 refine hK.out _ _ ⟨(blk_cell BK823.out 0).trans rfl, (blk_cell BK823.out 1).trans rfl, (blk_cell BK823.out 2).trans rfl, (blk_cell BK824.out 0).trans rfl, (blk_cell BK824.out 1).trans rfl, (blk_cell BK824.out 2).trans rfl⟩ (fun hHeld => ?_)
 clear hK K
 refine nm ?_
 refine one_ (i := 9) (N := some 19) #[true, true, true, true, true, true, true, true, true, true, true, false, true, true, false, false, false, false, false, false] rfl rfl (one_of HT_.out (by kernel_rfl)) (by decide) (fun K hK => ?_)
 refine gs Tryz.func64 #[.string t827, .string t832] ?_
 with_reducible refine (natural_Multiply.calls k t827 t832 t833 _ A6.out).mono ?_
 rintro e w25 ⟨rfl, hb⟩
 refine ⟨_, rfl, ?_⟩
 replace BK823 := Aside0.mk (bk0 BK823.out hb)
 replace BK824 := Aside0.mk (bk0 BK824.out hb)
 replace BK825 := Aside0.mk (bk0 BK825.out hb)
 replace HB := Aside0.mk (bs HB.out hb)
 (try clear hb)
 refine hK.out _ _ ⟨(blk_cell BK823.out 0).trans rfl, (blk_cell BK823.out 1).trans rfl, (blk_cell BK823.out 2).trans rfl, (blk_cell BK824.out 0).trans rfl, (blk_cell BK824.out 1).trans rfl, (blk_cell BK824.out 2).trans rfl⟩ (fun hHeld => ?_)
 clear hK K
 refine nm ?_
 refine one_ (i := 11) (N := some 21) #[true, true, true, true, true, true, true, true, true, true, true, true, true, true, false, false, false, false, false, false] rfl rfl (one_of HT_.out (by kernel_rfl)) (by decide) (fun K hK => ?_)
 refine gs Tryz.func77 #[.agg #[.bool t826, .string t827, .string t828]] ?_
 with_reducible refine (rational_den.calls t826 t827 t828 t834 _ A7.out).mono ?_
 rintro e w26 ⟨rfl, hb⟩
 refine ⟨_, rfl, ?_⟩
 replace BK823 := Aside0.mk (bk0 BK823.out hb)
 replace BK824 := Aside0.mk (bk0 BK824.out hb)
 replace BK825 := Aside0.mk (bk0 BK825.out hb)
 replace HB := Aside0.mk (bs HB.out hb)
 (try clear hb)
 refine hK.out _ _ ⟨(blk_cell BK823.out 0).trans rfl, (blk_cell BK823.out 1).trans rfl, (blk_cell BK823.out 2).trans rfl, (blk_cell BK824.out 0).trans rfl, (blk_cell BK824.out 1).trans rfl, (blk_cell BK824.out 2).trans rfl⟩ (fun hHeld => ?_)
 clear hK K
 refine nm ?_
 refine one_ (i := 14) (N := some 24) #[true, true, true, true, true, true, true, true, true, true, true, true, true, true, true, false, false, false, false, false] rfl rfl (one_of HT_.out (by kernel_rfl)) (by decide) (fun K hK => ?_)
 refine gs Tryz.func64 #[.string t834, .string t830] ?_
 with_reducible refine (natural_Multiply.calls k t834 t830 t835 _ A8.out).mono ?_
 rintro e w27 ⟨rfl, hb⟩
 refine ⟨_, rfl, ?_⟩
 replace BK823 := Aside0.mk (bk0 BK823.out hb)
 replace BK824 := Aside0.mk (bk0 BK824.out hb)
 replace BK825 := Aside0.mk (bk0 BK825.out hb)
 replace HB := Aside0.mk (bs HB.out hb)
 (try clear hb)
 refine hK.out _ _ ⟨(blk_cell BK823.out 0).trans rfl, (blk_cell BK823.out 1).trans rfl, (blk_cell BK823.out 2).trans rfl, (blk_cell BK824.out 0).trans rfl, (blk_cell BK824.out 1).trans rfl, (blk_cell BK824.out 2).trans rfl⟩ (fun hHeld => ?_)
 clear hK K
 refine nm ?_
 refine one_ (i := 15) (N := some 25) #[true, true, true, true, true, true, true, true, true, true, true, true, true, true, true, true, false, false, false, false] rfl rfl (one_of HT_.out (by kernel_rfl)) (by decide) (fun K hK => ?_)
 refine gs Tryz.func83 #[.bool (t826 != t829), .string t833, .string t835] ?_
 with_reducible refine (rational_Make.calls k (t826 != t829) t833 t835 t836 t837 t838 t839 _ A9.out).mono ?_
 rintro e w28 ⟨rfl, hb⟩
 refine ⟨_, rfl, ?_⟩
 replace BK823 := Aside0.mk (bk0 BK823.out hb)
 replace BK824 := Aside0.mk (bk0 BK824.out hb)
 replace BK825 := Aside0.mk (bk0 BK825.out hb)
 replace HB := Aside0.mk (bs HB.out hb)
 (try clear hb)
 refine hK.out _ _ ⟨(blk_cell BK823.out 0).trans rfl, (blk_cell BK823.out 1).trans rfl, (blk_cell BK823.out 2).trans rfl, (blk_cell BK824.out 0).trans rfl, (blk_cell BK824.out 1).trans rfl, (blk_cell BK824.out 2).trans rfl⟩ (fun hHeld => ?_)
 clear hK K
 refine nm ?_
 refine py 16 (some 26) #[true, true, true, true, true, true, true, true, true, true, true, true, true, true, true, true, true, false, false, false] HT_ ?_
 refine py 17 (some 27) #[true, true, true, true, true, true, true, true, true, true, true, true, true, true, true, true, true, true, false, false] HT_ ?_
 refine one_ (i := 18) (N := none) #[true, true, true, true, true, true, true, true, true, true, true, true, true, true, true, true, true, true, true, false] rfl rfl (one_of HT_.out (by kernel_rfl)) (by decide) (fun K hK => ?_)
 have hs29 : w28.cell? ⟨gb825, 0, none⟩ = some (.bool false) := (blk_cell BK825.out 0).trans rfl
 have hfs29 := blk_frozen BK825.out 0
 have hns29_0 := NB823_825.out
 have hns29_1 := NB824_825.out
 have hms29_0 := NB825_823.out
 have hms29_1 := NB825_824.out
 have hs30 : w28.cell? ⟨gb825, 1, none⟩ = some (.string (⟨#[]⟩ : ByteArray)) := (blk_cell BK825.out 1).trans rfl
 have hfs30 := blk_frozen BK825.out 1
 have hns30_0 := NB823_825.out
 have hns30_1 := NB824_825.out
 have hms30_0 := NB825_823.out
 have hms30_1 := NB825_824.out
 have hs31 : w28.cell? ⟨gb825, 2, none⟩ = some (.string (⟨#[]⟩ : ByteArray)) := (blk_cell BK825.out 2).trans rfl
 have hfs31 := blk_frozen BK825.out 2
 have hns31_0 := NB823_825.out
 have hns31_1 := NB824_825.out
 have hms31_0 := NB825_823.out
 have hms31_1 := NB825_824.out
 refine skip_ (w1 := ?_) (by rfl) rfl ?_ ?_
 rotate_left
 ·go_simp
  rfl
 refine hK.out _ _ ⟨((cell_far (p := ⟨gb825, _, none⟩) NB823_825.out _).trans (((cell_far (p := ⟨gb825, _, none⟩) NB823_825.out _).trans (((cell_far (p := ⟨gb825, _, none⟩) NB823_825.out _).trans (hHeld.1)))))), ((cell_far (p := ⟨gb825, _, none⟩) NB823_825.out _).trans (((cell_far (p := ⟨gb825, _, none⟩) NB823_825.out _).trans (((cell_far (p := ⟨gb825, _, none⟩) NB823_825.out _).trans (hHeld.2.1)))))), ((cell_far (p := ⟨gb825, _, none⟩) NB823_825.out _).trans (((cell_far (p := ⟨gb825, _, none⟩) NB823_825.out _).trans (((cell_far (p := ⟨gb825, _, none⟩) NB823_825.out _).trans (hHeld.2.2.1)))))), ((cell_far (p := ⟨gb825, _, none⟩) NB824_825.out _).trans (((cell_far (p := ⟨gb825, _, none⟩) NB824_825.out _).trans (((cell_far (p := ⟨gb825, _, none⟩) NB824_825.out _).trans (hHeld.2.2.2.1)))))), ((cell_far (p := ⟨gb825, _, none⟩) NB824_825.out _).trans (((cell_far (p := ⟨gb825, _, none⟩) NB824_825.out _).trans (((cell_far (p := ⟨gb825, _, none⟩) NB824_825.out _).trans (hHeld.2.2.2.2.1)))))), ((cell_far (p := ⟨gb825, _, none⟩) NB824_825.out _).trans (((cell_far (p := ⟨gb825, _, none⟩) NB824_825.out _).trans (((cell_far (p := ⟨gb825, _, none⟩) NB824_825.out _).trans (hHeld.2.2.2.2.2))))))⟩ (fun hHeld => ?_)
 clear hK K
 refine py 19 (some 5) #[true, true, true, true, true, true, true, true, true, true, true, true, true, true, true, true, true, true, true, true] HT_ ?_
 refine done_ (done_of HT_.out (by kernel_rfl)) ?_
 try go_wp2
 refine bodyPost_ret (results_ct rfl _ _ gb825 24 #[.bool t836, .string t837, .string t838] (0, 0) _ rfl (bq BK825.out) Tryz.underlying24 rfl (by kernel_rfl)) rfl ?_
 exact ⟨fe, bz HB.out⟩

/-! ### insolvencyref1_Over: function 87 -/
def insolvencyref1_Over.f (k : Nat) (a0_0 : Bool) (a0_1 : ByteArray) (a0_2 : ByteArray) (a1_0 : Bool) (a1_1 : ByteArray) (a1_2 : ByteArray) : Option (Bool × ByteArray × ByteArray) := if a0_1.toList = ([] : List UInt8) then (some (false, (⟨#[]⟩ : ByteArray), (⟨#[]⟩ : ByteArray))) else ((insolvencyref1_limbs.f k a0_1).bind fun t843 => ((insolvencyref1_den.f k a1_0 a1_1 a1_2).bind fun t846 => ((insolvencyref1_times.f k t843 t846).bind fun t849 => ((insolvencyref1_den.f k a0_0 a0_1 a0_2).bind fun t852 => ((insolvencyref1_limbs.f k a1_1).bind fun t855 => ((insolvencyref1_times.f k t852 t855).bind fun t858 => ((insolvencyref1_reduced.f k (a0_0 != a1_0) t849 t858).bind fun bt861 => (some (bt861.1, bt861.2.1, bt861.2.2)))))))))
theorem insolvencyref1_Over.mono : ∀ a0 a1 a2 a3 a4 a5 k, LeO (insolvencyref1_Over.f k a0 a1 a2 a3 a4 a5) (insolvencyref1_Over.f (k + 1) a0 a1 a2 a3 a4 a5) := by
 intro a0 a1 a2 a3 a4 a5 k
 unfold insolvencyref1_Over.f
 repeat' with_reducible first | exact insolvencyref1_den.mono _ _ _ _ | exact insolvencyref1_limbs.mono _ _ | exact insolvencyref1_reduced.mono _ _ _ _ | exact insolvencyref1_times.mono _ _ _ | exact LeO.refl _ | exact LeO.none _ | refine LeO.ite ?_ ?_ | refine LeO.bind ?_ (fun _ => ?_)
def insolvencyref1_Over.T3 : Bool × List (List Nat × List Nat) := (true, [([], []), ([0], [0]), ([], []), ([2], [2]), ([1, 3], [1, 3]), ([], []), ([5], [5]), ([6], [6]), ([], []), ([8, 7], [8]), ([7, 9, 9], [7, 9]), ([], []), ([11, 10], [11]), ([], []), ([13], [13]), ([14, 12], [14]), ([12, 15, 15], [12, 15]), ([4, 10, 16, 16], [4, 10, 16]), ([17, 17, 0, 1, 2, 3, 4, 5, 6, 7, 8, 9, 10, 11, 12, 13, 14, 15, 16, 17], [17])])
def insolvencyref1_Over.B3 : List Nat := [0, 1, 0, 4, 15, 0, 32, 96, 0, 480, 992, 0, 4064, 0, 8192, 32736, 65504, 131071, 262143]
theorem insolvencyref1_Over.tab3 : rtab .any (opsOf Tryz.f87 3) = insolvencyref1_Over.T3 := by kernel_rfl
theorem insolvencyref1_Over.bits3 : waitsOk insolvencyref1_Over.T3.2 insolvencyref1_Over.B3 = true := by kernel_rfl
set_option maxHeartbeats 8000000 in
set_option maxRecDepth 100000 in
theorem insolvencyref1_Over.calls (k : Nat) (a0_0 : Bool) (a0_1 : ByteArray) (a0_2 : ByteArray) (a1_0 : Bool) (a1_1 : ByteArray) (a1_2 : ByteArray) (r1 : Bool) (r2 : ByteArray) (r3 : ByteArray) (w : World) (h : insolvencyref1_Over.f k a0_0 a0_1 a0_2 a1_0 a1_1 a1_2 = some (r1, r2, r3)) :
  Calls Tryz.prog 87 #[.agg #[.bool a0_0, .string a0_1, .string a0_2], .agg #[.bool a1_0, .string a1_1, .string a1_2]] w fun e w' => e = .returned (.agg #[.bool r1, .string r2, .string r3]) ∧ Below w.heap.size w w' := by
 have hu24 := Tryz.underlying24
 have HB := Aside0.mk (Below.refl w.heap.size w)
 have H := h
 clear h
 unfold insolvencyref1_Over.f at H
 by_cases c3 : a0_1.toList = ([] : List UInt8)
 ·rw [if_pos c3] at H
  have c3b0 := beq_iff_eq.mpr c3
  have c3b1 := bne_eq_false_iff_eq.mpr c3
  clear c3
  simp only [Option.some.injEq, Prod.mk.injEq] at H
  obtain ⟨rfl, rfl, rfl⟩ := H
  go_enter Tryz.func87, Tryz.ntmps87
  go_wp2_with (first | ((with_reducible refine gd 2 rfl ?_); refine bx 2 (#[.bool a0_0, .string a0_1, .string a0_2]) 24 ?_; intro gb840 hg w4 hbox hb; have BK840 := Aside0.mk (hbox); have GW840 := sg hg HB.out; have GE840 := sg hg HB.out; replace HB := Aside0.mk (bs HB.out hb); clear hb hbox hg) | ((with_reducible refine gd 3 rfl ?_); refine bx 3 (#[.bool a1_0, .string a1_1, .string a1_2]) 24 ?_; intro gb841 hg w5 hbox hb; have BK841 := Aside0.mk (hbox); have GW841 := sg hg HB.out; have GE841 := sg hg HB.out; replace HB := Aside0.mk (bs HB.out hb); have NB840_841 := nl hg BK840.out; have NB841_840 := nr hg BK840.out; replace BK840 := Aside0.mk (bk0 BK840.out hb); clear hb hbox hg) | ((with_reducible refine gd 4 rfl ?_); refine bx 4 (#[.bool false, .string (⟨#[]⟩ : ByteArray), .string (⟨#[]⟩ : ByteArray)]) 24 ?_; intro gb842 hg w6 hbox hb; have BK842 := Aside0.mk (hbox); have GW842 := sg hg HB.out; have GE842 := sg hg HB.out; replace HB := Aside0.mk (bs HB.out hb); have NB840_842 := nl hg BK840.out; have NB842_840 := nr hg BK840.out; replace BK840 := Aside0.mk (bk0 BK840.out hb); have NB841_842 := nl hg BK841.out; have NB842_841 := nr hg BK841.out; replace BK841 := Aside0.mk (bk0 BK841.out hb); clear hb hbox hg; have hnb7 := NB840_841.out; have hnc7 := NB841_840.out; have hnb8 := NB840_842.out; have hnc8 := NB842_840.out; obtain ⟨hcz9_0, hcz9_1, hcz9_2, hfz9_0, hfz9_1, hfz9_2⟩ := cz BK840.out; have hnb10 := NB842_841.out; have hnc10 := NB841_842.out; obtain ⟨hcz11_0, hcz11_1, hcz11_2, hfz11_0, hfz11_1, hfz11_2⟩ := cz BK842.out))
  refine bodyPost_ret (results_cell_row rfl _ _ gb842 24 #[.bool false, .string (⟨#[]⟩ : ByteArray), .string (⟨#[]⟩ : ByteArray)] (0, 0) _ rfl (bq BK842.out) Tryz.underlying24 rfl (by kernel_rfl)) rfl ?_
  exact ⟨fe, bz HB.out⟩
 ·rw [if_neg c3] at H
  have c3b0 := beq_eq_false_iff_ne.mpr c3
  have c3b1 := bne_iff_ne.mpr c3
  obtain ⟨t843, A12, H⟩ := bs1 H
  obtain ⟨t846, A13, H⟩ := bs1 H
  obtain ⟨t849, A14, H⟩ := bs1 H
  obtain ⟨t852, A15, H⟩ := bs1 H
  obtain ⟨t855, A16, H⟩ := bs1 H
  obtain ⟨t858, A17, H⟩ := bs1 H
  obtain ⟨⟨t861, t862, t863⟩, A18, H⟩ := bs1 H; dsimp only at H
  simp only [Option.some.injEq, Prod.mk.injEq] at H
  obtain ⟨rfl, rfl, rfl⟩ := H
  go_enter Tryz.func87, Tryz.ntmps87
  try go_wp2_with (first | ((with_reducible refine gd 2 rfl ?_); refine bx 2 (#[.bool a0_0, .string a0_1, .string a0_2]) 24 ?_; intro gb840 hg w19 hbox hb; have BK840 := Aside0.mk (hbox); have GW840 := sg hg HB.out; have GE840 := sg hg HB.out; replace HB := Aside0.mk (bs HB.out hb); clear hb hbox hg) | ((with_reducible refine gd 3 rfl ?_); refine bx 3 (#[.bool a1_0, .string a1_1, .string a1_2]) 24 ?_; intro gb841 hg w20 hbox hb; have BK841 := Aside0.mk (hbox); have GW841 := sg hg HB.out; have GE841 := sg hg HB.out; replace HB := Aside0.mk (bs HB.out hb); have NB840_841 := nl hg BK840.out; have NB841_840 := nr hg BK840.out; replace BK840 := Aside0.mk (bk0 BK840.out hb); clear hb hbox hg) | ((with_reducible refine gd 4 rfl ?_); refine bx 4 (#[.bool false, .string (⟨#[]⟩ : ByteArray), .string (⟨#[]⟩ : ByteArray)]) 24 ?_; intro gb842 hg w21 hbox hb; have BK842 := Aside0.mk (hbox); have GW842 := sg hg HB.out; have GE842 := sg hg HB.out; replace HB := Aside0.mk (bs HB.out hb); have NB840_842 := nl hg BK840.out; have NB842_840 := nr hg BK840.out; replace BK840 := Aside0.mk (bk0 BK840.out hb); have NB841_842 := nl hg BK841.out; have NB842_841 := nr hg BK841.out; replace BK841 := Aside0.mk (bk0 BK841.out hb); clear hb hbox hg; have hnb22 := NB840_841.out; have hnc22 := NB841_840.out; have hnb23 := NB840_842.out; have hnc23 := NB842_840.out; obtain ⟨hcz24_0, hcz24_1, hcz24_2, hfz24_0, hfz24_1, hfz24_2⟩ := cz BK840.out))
  replace BK840 := Aside0.mk (blk_drew BK840.out)
  replace BK841 := Aside0.mk (blk_drew BK841.out)
  replace BK842 := Aside0.mk (blk_drew BK842.out)
  replace HB := Aside0.mk (below_drew1 HB.out)
  refine start_ (n := 19) (S := fun w' => w'.cell? ⟨gb840, 0, none⟩ = some (.bool a0_0) ∧ w'.cell? ⟨gb840, 1, none⟩ = some (.string a0_1) ∧ w'.cell? ⟨gb840, 2, none⟩ = some (.string a0_2) ∧ w'.cell? ⟨gb841, 0, none⟩ = some (.bool a1_0) ∧ w'.cell? ⟨gb841, 1, none⟩ = some (.string a1_1) ∧ w'.cell? ⟨gb841, 2, none⟩ = some (.string a1_2)) (ds := []) #[false, false, false, false, false, false, false, false, false, false, false, false, false, false, false, false, false, false, false] (by kernel_rfl) rfl rfl ⟨(blk_cell BK840.out 0).trans rfl, (blk_cell BK840.out 1).trans rfl, (blk_cell BK840.out 2).trans rfl, (blk_cell BK841.out 0).trans rfl, (blk_cell BK841.out 1).trans rfl, (blk_cell BK841.out 2).trans rfl⟩ (fun hHeld => ?_); refine with_tabW insolvencyref1_Over.tab3 insolvencyref1_Over.bits3 (fun HT_ HW_ => ?_)
  generalize w21.drew = w25 at BK840 BK841 BK842 HB hHeld ⊢
  refine py 0 (some 9) #[true, false, false, false, false, false, false, false, false, false, false, false, false, false, false, false, false, false, false] HT_ ?_
  refine py 2 (some 11) #[true, false, true, false, false, false, false, false, false, false, false, false, false, false, false, false, false, false, false] HT_ ?_
  refine py 5 (some 14) #[true, false, true, false, false, true, false, false, false, false, false, false, false, false, false, false, false, false, false] HT_ ?_
  refine py 13 (some 22) #[true, false, true, false, false, true, false, false, false, false, false, false, false, true, false, false, false, false, false] HT_ ?_
  refine take_ (i := 1) (N := some 10) (v := ?_) (a' := ?_) #[true, true, true, false, false, true, false, false, false, false, false, false, false, true, false, false, false, false, false] rfl rfl (take_ofW HT_.out HW_.out (by kernel_rfl)) (fun _ _ _ h => h) (Or.inl ⟨by rfl, ?_⟩) hHeld ?_ ?_
  rotate_left
  ·rintro w' ⟨s0, s1, s2, s3, s4, s5⟩
   go_simp
   with_reducible rfl
  rotate_left
  ·simp only [Act.put, List.setIfInBounds_toArray, List.set_cons_zero, List.set_cons_succ, i64_w, i32_w]
   rfl
  refine take_ (i := 3) (N := some 12) (v := ?_) (a' := ?_) #[true, true, true, true, false, true, false, false, false, false, false, false, false, true, false, false, false, false, false] rfl rfl (take_ofW HT_.out HW_.out (by kernel_rfl)) (fun _ _ _ h => h) (Or.inl ⟨by rfl, ?_⟩) hHeld ?_ ?_
  rotate_left
  ·rintro w' ⟨s0, s1, s2, s3, s4, s5⟩
   go_simp
   with_reducible rfl
  rotate_left
  ·simp only [Act.put, List.setIfInBounds_toArray, List.set_cons_zero, List.set_cons_succ, i64_w, i32_w]
   rfl
  refine py 4 (some 13) #[true, true, true, true, true, true, false, false, false, false, false, false, false, true, false, false, false, false, false] HT_ ?_
  refine take_ (i := 6) (N := some 15) (v := ?_) (a' := ?_) #[true, true, true, true, true, true, true, false, false, false, false, false, false, true, false, false, false, false, false] rfl rfl (take_ofW HT_.out HW_.out (by kernel_rfl)) (fun _ _ _ h => h) (Or.inl ⟨by rfl, ?_⟩) hHeld ?_ ?_
  rotate_left
  ·rintro w' ⟨s0, s1, s2, s3, s4, s5⟩
   go_simp
   with_reducible rfl
  rotate_left
  ·simp only [Act.put, List.setIfInBounds_toArray, List.set_cons_zero, List.set_cons_succ, i64_w, i32_w]
   rfl
  refine take_ (i := 8) (N := some 17) (v := ?_) (a' := ?_) #[true, true, true, true, true, true, true, false, true, false, false, false, false, true, false, false, false, false, false] rfl rfl (take_ofW HT_.out HW_.out (by kernel_rfl)) (fun _ _ _ h => h) (Or.inl ⟨by rfl, ?_⟩) hHeld ?_ ?_
  rotate_left
  ·rintro w' ⟨s0, s1, s2, s3, s4, s5⟩
   go_simp
   with_reducible rfl
  rotate_left
  ·simp only [Act.put, List.setIfInBounds_toArray, List.set_cons_zero, List.set_cons_succ, i64_w, i32_w]
   rfl
  refine take_ (i := 11) (N := some 20) (v := ?_) (a' := ?_) #[true, true, true, true, true, true, true, false, true, false, false, true, false, true, false, false, false, false, false] rfl rfl (take_ofW HT_.out HW_.out (by kernel_rfl)) (fun _ _ _ h => h) (Or.inl ⟨by rfl, ?_⟩) hHeld ?_ ?_
  rotate_left
  ·rintro w' ⟨s0, s1, s2, s3, s4, s5⟩
   go_simp
   with_reducible rfl
  rotate_left
  ·simp only [Act.put, List.setIfInBounds_toArray, List.set_cons_zero, List.set_cons_succ, i64_w, i32_w]
   rfl
  refine take_ (i := 14) (N := some 23) (v := ?_) (a' := ?_) #[true, true, true, true, true, true, true, false, true, false, false, true, false, true, true, false, false, false, false] rfl rfl (take_ofW HT_.out HW_.out (by kernel_rfl)) (fun _ _ _ h => h) (Or.inl ⟨by rfl, ?_⟩) hHeld ?_ ?_
  rotate_left
  ·rintro w' ⟨s0, s1, s2, s3, s4, s5⟩
   go_simp
   with_reducible rfl
  rotate_left
  ·simp only [Act.put, List.setIfInBounds_toArray, List.set_cons_zero, List.set_cons_succ, i64_w, i32_w]
   rfl
  refine one_ (i := 7) (N := some 16) #[true, true, true, true, true, true, true, true, true, false, false, true, false, true, true, false, false, false, false] rfl rfl (one_of HT_.out (by kernel_rfl)) (by decide) (fun K hK => ?_)
  refine gs Tryz.func79 #[.string a0_1] ?_
  with_reducible refine (insolvencyref1_limbs.calls k a0_1 t843 _ A12.out).mono ?_
  rintro e w26 ⟨v844, rfl, ho0, hb⟩
  refine ⟨_, rfl, ?_⟩
  have HO845 := Aside0.mk (Kd.R_lower ho0 (sz HB.out))
  replace BK840 := Aside0.mk (bk0 BK840.out hb)
  replace BK841 := Aside0.mk (bk0 BK841.out hb)
  replace BK842 := Aside0.mk (bk0 BK842.out hb)
  replace HB := Aside0.mk (bs HB.out hb)
  (try clear hb); (try clear ho0)
  refine hK.out _ _ ⟨(blk_cell BK840.out 0).trans rfl, (blk_cell BK840.out 1).trans rfl, (blk_cell BK840.out 2).trans rfl, (blk_cell BK841.out 0).trans rfl, (blk_cell BK841.out 1).trans rfl, (blk_cell BK841.out 2).trans rfl⟩ (fun hHeld => ?_)
  clear hK K
  refine nm ?_
  refine one_ (i := 9) (N := some 18) #[true, true, true, true, true, true, true, true, true, true, false, true, false, true, true, false, false, false, false] rfl rfl (one_of HT_.out (by kernel_rfl)) (by decide) (fun K hK => ?_)
  refine gs Tryz.func81 #[.agg #[.bool a1_0, .string a1_1, .string a1_2]] ?_
  with_reducible refine (insolvencyref1_den.calls k a1_0 a1_1 a1_2 t846 _ A13.out).mono ?_
  rintro e w27 ⟨v847, rfl, ho0, hb⟩
  refine ⟨_, rfl, ?_⟩
  have HO848 := Aside0.mk (Kd.R_lower (Kd.R_new' ho0 (Kd.R_lt (vs HO845.out))) (sz HB.out))
  replace HO845 := Aside0.mk (Kd.R_elder' (vs HO845.out) (Kd.R_base ho0) hb)
  replace BK840 := Aside0.mk (bk0 BK840.out hb)
  replace BK841 := Aside0.mk (bk0 BK841.out hb)
  replace BK842 := Aside0.mk (bk0 BK842.out hb)
  replace HB := Aside0.mk (bs HB.out hb)
  (try clear hb); (try clear ho0)
  obtain ⟨Ao28, co28, eo28⟩ := Kd.R_slice HO845.out
  (first | subst eo28 | (injection eo28 with f1_ f2_ f3_; have f4_ := f1_.symm; have f5_ := f3_.symm; clear f1_ f2_ f3_; subst f4_; subst f5_))
  obtain ⟨Ao29, co29, eo29⟩ := Kd.R_slice HO848.out
  (first | subst eo29 | (injection eo29 with f1_ f2_ f3_; have f4_ := f1_.symm; have f5_ := f3_.symm; clear f1_ f2_ f3_; subst f4_; subst f5_))
  refine hK.out _ _ ⟨(blk_cell BK840.out 0).trans rfl, (blk_cell BK840.out 1).trans rfl, (blk_cell BK840.out 2).trans rfl, (blk_cell BK841.out 0).trans rfl, (blk_cell BK841.out 1).trans rfl, (blk_cell BK841.out 2).trans rfl⟩ (fun hHeld => ?_)
  clear hK K
  refine nm ?_
  refine one_ (i := 10) (N := some 19) #[true, true, true, true, true, true, true, true, true, true, true, true, false, true, true, false, false, false, false] rfl rfl (one_of HT_.out (by kernel_rfl)) (by decide) (fun K hK => ?_)
  refine gs Tryz.func69 #[.slice Ao28 t843.length co28, .slice Ao29 t846.length co29] ?_
  with_reducible refine (insolvencyref1_times.calls k _ _ t843 _ _ t846 t849 _ ?side1 ?side2 ?side3 ?side4 A14.out).mono ?_
  (case side1 => exact vs (Kd.R_reads' HO845.out).2.2)
  (case side2 => exact (Kd.R_reads' HO845.out).2.1)
  (case side3 => exact vs (Kd.R_reads' HO848.out).2.2)
  (case side4 => exact (Kd.R_reads' HO848.out).2.1)
  rintro e w30 ⟨v850, rfl, ho0, hb⟩
  refine ⟨_, rfl, ?_⟩
  have HO851 := Aside0.mk (Kd.V_lower (Kd.V_mono (ok' := fun k_ => some k_ ≠ (.slice Ao28 t843.length co28 : Value).ownBlock ∧ some k_ ≠ (.slice Ao29 t846.length co29 : Value).ownBlock ∧ k_ ≠ gb840 ∧ k_ ≠ gb841 ∧ k_ ≠ gb842) ho0 (fun k_ hk_ => ⟨(Kd.fresh' (Kd.R_lt (vs HO845.out)) k_ hk_), (Kd.fresh' (Kd.R_lt (vs HO848.out)) k_ hk_), (Kd.freshB (g := gb840) (o := .cells #[.bool a0_0, .string a0_1, .string a0_2] 24 (0, 0)) (bq BK840.out) k_ hk_), (Kd.freshB (g := gb841) (o := .cells #[.bool a1_0, .string a1_1, .string a1_2] 24 (0, 0)) (bq BK841.out) k_ hk_), (Kd.freshB (g := gb842) (o := .cells #[.bool false, .string (⟨#[]⟩ : ByteArray), .string (⟨#[]⟩ : ByteArray)] 24 (0, 0)) (bq BK842.out) k_ hk_)⟩)) (sz HB.out))
  replace HO845 := Aside0.mk (rb HO845.out hb)
  replace HO848 := Aside0.mk (rb HO848.out hb)
  replace BK840 := Aside0.mk (bk0 BK840.out hb)
  replace BK841 := Aside0.mk (bk0 BK841.out hb)
  replace BK842 := Aside0.mk (bk0 BK842.out hb)
  replace HB := Aside0.mk (bs HB.out hb)
  (try clear hb); (try clear ho0)
  refine hK.out _ _ ⟨(blk_cell BK840.out 0).trans rfl, (blk_cell BK840.out 1).trans rfl, (blk_cell BK840.out 2).trans rfl, (blk_cell BK841.out 0).trans rfl, (blk_cell BK841.out 1).trans rfl, (blk_cell BK841.out 2).trans rfl⟩ (fun hHeld => ?_)
  clear hK K
  refine nm ?_
  refine one_ (i := 12) (N := some 21) #[true, true, true, true, true, true, true, true, true, true, true, true, true, true, true, false, false, false, false] rfl rfl (one_of HT_.out (by kernel_rfl)) (by decide) (fun K hK => ?_)
  refine gs Tryz.func81 #[.agg #[.bool a0_0, .string a0_1, .string a0_2]] ?_
  with_reducible refine (insolvencyref1_den.calls k a0_0 a0_1 a0_2 t852 _ A15.out).mono ?_
  rintro e w31 ⟨v853, rfl, ho0, hb⟩
  refine ⟨_, rfl, ?_⟩
  replace HO851 := Aside0.mk (Kd.V_elder' (vs HO851.out) (Kd.R_base ho0) hb)
  have HO854 := Aside0.mk (Kd.R_lower (Kd.R_new' (Kd.R_new' ho0 (Kd.R_lt (vs HO845.out))) (Kd.R_lt (vs HO848.out))) (sz HB.out))
  replace HO845 := Aside0.mk (Kd.R_elder' (vs HO845.out) (Kd.R_base ho0) hb)
  replace HO848 := Aside0.mk (Kd.R_elder' (vs HO848.out) (Kd.R_base ho0) hb)
  replace BK840 := Aside0.mk (bk0 BK840.out hb)
  replace BK841 := Aside0.mk (bk0 BK841.out hb)
  replace BK842 := Aside0.mk (bk0 BK842.out hb)
  replace HB := Aside0.mk (bs HB.out hb)
  (try clear hb); (try clear ho0)
  refine hK.out _ _ ⟨(blk_cell BK840.out 0).trans rfl, (blk_cell BK840.out 1).trans rfl, (blk_cell BK840.out 2).trans rfl, (blk_cell BK841.out 0).trans rfl, (blk_cell BK841.out 1).trans rfl, (blk_cell BK841.out 2).trans rfl⟩ (fun hHeld => ?_)
  clear hK K
  refine nm ?_
  refine one_ (i := 15) (N := some 24) #[true, true, true, true, true, true, true, true, true, true, true, true, true, true, true, true, false, false, false] rfl rfl (one_of HT_.out (by kernel_rfl)) (by decide) (fun K hK => ?_)
  refine gs Tryz.func79 #[.string a1_1] ?_
  with_reducible refine (insolvencyref1_limbs.calls k a1_1 t855 _ A16.out).mono ?_
  rintro e w32 ⟨v856, rfl, ho0, hb⟩
  refine ⟨_, rfl, ?_⟩
  replace HO851 := Aside0.mk (Kd.V_elder' (vs HO851.out) (Kd.R_base ho0) hb)
  have HO857 := Aside0.mk (Kd.R_lower (Kd.R_new' (Kd.R_new' (Kd.R_new' ho0 (Kd.R_lt (vs HO845.out))) (Kd.R_lt (vs HO848.out))) (Kd.R_lt (vs HO854.out))) (sz HB.out))
  replace HO845 := Aside0.mk (Kd.R_elder' (vs HO845.out) (Kd.R_base ho0) hb)
  replace HO848 := Aside0.mk (Kd.R_elder' (vs HO848.out) (Kd.R_base ho0) hb)
  replace HO854 := Aside0.mk (Kd.R_elder' (vs HO854.out) (Kd.R_base ho0) hb)
  replace BK840 := Aside0.mk (bk0 BK840.out hb)
  replace BK841 := Aside0.mk (bk0 BK841.out hb)
  replace BK842 := Aside0.mk (bk0 BK842.out hb)
  replace HB := Aside0.mk (bs HB.out hb)
  (try clear hb); (try clear ho0)
  obtain ⟨Ao33, co33, eo33⟩ := Kd.R_slice HO854.out
  (first | subst eo33 | (injection eo33 with f1_ f2_ f3_; have f4_ := f1_.symm; have f5_ := f3_.symm; clear f1_ f2_ f3_; subst f4_; subst f5_))
  obtain ⟨Ao34, co34, eo34⟩ := Kd.R_slice HO857.out
  (first | subst eo34 | (injection eo34 with f1_ f2_ f3_; have f4_ := f1_.symm; have f5_ := f3_.symm; clear f1_ f2_ f3_; subst f4_; subst f5_))
  refine hK.out _ _ ⟨(blk_cell BK840.out 0).trans rfl, (blk_cell BK840.out 1).trans rfl, (blk_cell BK840.out 2).trans rfl, (blk_cell BK841.out 0).trans rfl, (blk_cell BK841.out 1).trans rfl, (blk_cell BK841.out 2).trans rfl⟩ (fun hHeld => ?_)
  clear hK K
  refine nm ?_
  refine one_ (i := 16) (N := some 25) #[true, true, true, true, true, true, true, true, true, true, true, true, true, true, true, true, true, false, false] rfl rfl (one_of HT_.out (by kernel_rfl)) (by decide) (fun K hK => ?_)
  refine gs Tryz.func69 #[.slice Ao33 t852.length co33, .slice Ao34 t855.length co34] ?_
  with_reducible refine (insolvencyref1_times.calls k _ _ t852 _ _ t855 t858 _ ?side1 ?side2 ?side3 ?side4 A17.out).mono ?_
  (case side1 => exact vs (Kd.R_reads' HO854.out).2.2)
  (case side2 => exact (Kd.R_reads' HO854.out).2.1)
  (case side3 => exact vs (Kd.R_reads' HO857.out).2.2)
  (case side4 => exact (Kd.R_reads' HO857.out).2.1)
  rintro e w35 ⟨v859, rfl, ho0, hb⟩
  refine ⟨_, rfl, ?_⟩
  replace HO851 := Aside0.mk (vb HO851.out hb)
  have HO860 := Aside0.mk (Kd.V_lower (Kd.V_mono (ok' := fun k_ => some k_ ≠ (.slice Ao28 t843.length co28 : Value).ownBlock ∧ some k_ ≠ (.slice Ao29 t846.length co29 : Value).ownBlock ∧ some k_ ≠ (.slice Ao33 t852.length co33 : Value).ownBlock ∧ some k_ ≠ (.slice Ao34 t855.length co34 : Value).ownBlock ∧ k_ ≠ gb840 ∧ k_ ≠ gb841 ∧ k_ ≠ gb842) ho0 (fun k_ hk_ => ⟨(Kd.fresh' (Kd.R_lt (vs HO845.out)) k_ hk_), (Kd.fresh' (Kd.R_lt (vs HO848.out)) k_ hk_), (Kd.fresh' (Kd.R_lt (vs HO854.out)) k_ hk_), (Kd.fresh' (Kd.R_lt (vs HO857.out)) k_ hk_), (Kd.freshB (g := gb840) (o := .cells #[.bool a0_0, .string a0_1, .string a0_2] 24 (0, 0)) (bq BK840.out) k_ hk_), (Kd.freshB (g := gb841) (o := .cells #[.bool a1_0, .string a1_1, .string a1_2] 24 (0, 0)) (bq BK841.out) k_ hk_), (Kd.freshB (g := gb842) (o := .cells #[.bool false, .string (⟨#[]⟩ : ByteArray), .string (⟨#[]⟩ : ByteArray)] 24 (0, 0)) (bq BK842.out) k_ hk_)⟩)) (sz HB.out))
  replace HO845 := Aside0.mk (rb HO845.out hb)
  replace HO848 := Aside0.mk (rb HO848.out hb)
  replace HO854 := Aside0.mk (rb HO854.out hb)
  replace HO857 := Aside0.mk (rb HO857.out hb)
  replace BK840 := Aside0.mk (bk0 BK840.out hb)
  replace BK841 := Aside0.mk (bk0 BK841.out hb)
  replace BK842 := Aside0.mk (bk0 BK842.out hb)
  replace HB := Aside0.mk (bs HB.out hb)
  (try clear hb); (try clear ho0)
  obtain ⟨Ao36, co36, eo36⟩ := Kd.V_slice HO851.out
  (first | subst eo36 | (injection eo36 with f1_ f2_ f3_; have f4_ := f1_.symm; have f5_ := f3_.symm; clear f1_ f2_ f3_; subst f4_; subst f5_))
  obtain ⟨Ao37, co37, eo37⟩ := Kd.V_slice HO860.out
  (first | subst eo37 | (injection eo37 with f1_ f2_ f3_; have f4_ := f1_.symm; have f5_ := f3_.symm; clear f1_ f2_ f3_; subst f4_; subst f5_))
  refine hK.out _ _ ⟨(blk_cell BK840.out 0).trans rfl, (blk_cell BK840.out 1).trans rfl, (blk_cell BK840.out 2).trans rfl, (blk_cell BK841.out 0).trans rfl, (blk_cell BK841.out 1).trans rfl, (blk_cell BK841.out 2).trans rfl⟩ (fun hHeld => ?_)
  clear hK K
  refine nm ?_
  refine one_ (i := 17) (N := some 26) #[true, true, true, true, true, true, true, true, true, true, true, true, true, true, true, true, true, true, false] rfl rfl (one_of HT_.out (by kernel_rfl)) (by decide) (fun K hK => ?_)
  refine gs Tryz.func70 #[.bool (a0_0 != a1_0), .slice Ao36 t849.length co36, .slice Ao37 t858.length co37] ?_
  with_reducible refine (insolvencyref1_reduced.calls k (a0_0 != a1_0) (fun k_ => (((some k_ ≠ (.slice Ao28 t843.length co28 : Value).ownBlock ∧ (some k_ ≠ (.slice Ao29 t846.length co29 : Value).ownBlock ∧ (k_ ≠ gb840 ∧ (k_ ≠ gb841 ∧ k_ ≠ gb842)))) ∧ some k_ ≠ (.slice Ao33 t852.length co33 : Value).ownBlock) ∧ some k_ ≠ (.slice Ao34 t855.length co34 : Value).ownBlock)) _ _ t849 (fun k_ => (some k_ ≠ (.slice Ao28 t843.length co28 : Value).ownBlock ∧ (some k_ ≠ (.slice Ao29 t846.length co29 : Value).ownBlock ∧ (some k_ ≠ (.slice Ao33 t852.length co33 : Value).ownBlock ∧ (some k_ ≠ (.slice Ao34 t855.length co34 : Value).ownBlock ∧ (k_ ≠ gb840 ∧ (k_ ≠ gb841 ∧ k_ ≠ gb842))))))) _ _ t858 t861 t862 t863 _ ?side1 ?side2 A18.out).mono ?_
  (case side1 => exact HO851.out)
  (case side2 => exact HO860.out)
  rintro e w38 ⟨rfl, hb⟩
  refine ⟨_, rfl, ?_⟩
  replace HO845 := Aside0.mk (rb HO845.out hb)
  replace HO848 := Aside0.mk (rb HO848.out hb)
  replace HO851 := Aside0.mk (vb HO851.out hb)
  replace HO854 := Aside0.mk (rb HO854.out hb)
  replace HO857 := Aside0.mk (rb HO857.out hb)
  replace HO860 := Aside0.mk (vb HO860.out hb)
  replace BK840 := Aside0.mk (bk0 BK840.out hb)
  replace BK841 := Aside0.mk (bk0 BK841.out hb)
  replace BK842 := Aside0.mk (bk0 BK842.out hb)
  replace HB := Aside0.mk (bs HB.out hb)
  (try clear hb)
  refine hK.out _ _ ⟨(blk_cell BK840.out 0).trans rfl, (blk_cell BK840.out 1).trans rfl, (blk_cell BK840.out 2).trans rfl, (blk_cell BK841.out 0).trans rfl, (blk_cell BK841.out 1).trans rfl, (blk_cell BK841.out 2).trans rfl⟩ (fun hHeld => ?_)
  clear hK K
  refine nm ?_
  refine one_ (i := 18) (N := none) #[true, true, true, true, true, true, true, true, true, true, true, true, true, true, true, true, true, true, true] rfl rfl (one_of HT_.out (by kernel_rfl)) (by decide) (fun K hK => ?_)
  have hs39 : w38.cell? ⟨gb842, 0, none⟩ = some (.bool false) := (blk_cell BK842.out 0).trans rfl
  have hfs39 := blk_frozen BK842.out 0
  have hns39_0 := NB840_842.out
  have hns39_1 := NB841_842.out
  have hms39_0 := NB842_840.out
  have hms39_1 := NB842_841.out
  have hs40 : w38.cell? ⟨gb842, 1, none⟩ = some (.string (⟨#[]⟩ : ByteArray)) := (blk_cell BK842.out 1).trans rfl
  have hfs40 := blk_frozen BK842.out 1
  have hns40_0 := NB840_842.out
  have hns40_1 := NB841_842.out
  have hms40_0 := NB842_840.out
  have hms40_1 := NB842_841.out
  have hs41 : w38.cell? ⟨gb842, 2, none⟩ = some (.string (⟨#[]⟩ : ByteArray)) := (blk_cell BK842.out 2).trans rfl
  have hfs41 := blk_frozen BK842.out 2
  have hns41_0 := NB840_842.out
  have hns41_1 := NB841_842.out
  have hms41_0 := NB842_840.out
  have hms41_1 := NB842_841.out
  refine skip_ (w1 := ?_) (by rfl) rfl ?_ ?_
  rotate_left
  ·go_simp
   rfl
  refine hK.out _ _ ⟨((cell_far (p := ⟨gb842, _, none⟩) NB840_842.out _).trans (((cell_far (p := ⟨gb842, _, none⟩) NB840_842.out _).trans (((cell_far (p := ⟨gb842, _, none⟩) NB840_842.out _).trans (hHeld.1)))))), ((cell_far (p := ⟨gb842, _, none⟩) NB840_842.out _).trans (((cell_far (p := ⟨gb842, _, none⟩) NB840_842.out _).trans (((cell_far (p := ⟨gb842, _, none⟩) NB840_842.out _).trans (hHeld.2.1)))))), ((cell_far (p := ⟨gb842, _, none⟩) NB840_842.out _).trans (((cell_far (p := ⟨gb842, _, none⟩) NB840_842.out _).trans (((cell_far (p := ⟨gb842, _, none⟩) NB840_842.out _).trans (hHeld.2.2.1)))))), ((cell_far (p := ⟨gb842, _, none⟩) NB841_842.out _).trans (((cell_far (p := ⟨gb842, _, none⟩) NB841_842.out _).trans (((cell_far (p := ⟨gb842, _, none⟩) NB841_842.out _).trans (hHeld.2.2.2.1)))))), ((cell_far (p := ⟨gb842, _, none⟩) NB841_842.out _).trans (((cell_far (p := ⟨gb842, _, none⟩) NB841_842.out _).trans (((cell_far (p := ⟨gb842, _, none⟩) NB841_842.out _).trans (hHeld.2.2.2.2.1)))))), ((cell_far (p := ⟨gb842, _, none⟩) NB841_842.out _).trans (((cell_far (p := ⟨gb842, _, none⟩) NB841_842.out _).trans (((cell_far (p := ⟨gb842, _, none⟩) NB841_842.out _).trans (hHeld.2.2.2.2.2))))))⟩ (fun hHeld => ?_)
  clear hK K
  refine done_ (done_of HT_.out (by kernel_rfl)) ?_
  try go_wp2
  refine bodyPost_ret (results_cell_row rfl _ _ gb842 24 #[.bool t861, .string t862, .string t863] (0, 0) _ rfl (bq BK842.out) Tryz.underlying24 rfl (by kernel_rfl)) rfl ?_
  exact ⟨fe, bz HB.out⟩

/-! ### insolvencyref1_Divide: function 30 -/
def insolvencyref1_Divide.f (k : Nat) (a0_0 : Bool) (a0_1 : ByteArray) (a0_2 : ByteArray) (a1_0 : Bool) (a1_1 : ByteArray) (a1_2 : ByteArray) : Option (Bool × ByteArray × ByteArray × Bool) := (insolvencyref1_Fix.f k a1_0 a1_1 a1_2).bind fun bt867 => (if bt867.2.1.toList = ([] : List UInt8) then (some (false, (⟨#[]⟩ : ByteArray), (⟨#[]⟩ : ByteArray), false)) else ((insolvencyref1_Fix.f k a0_0 a0_1 a0_2).bind fun bt870 => ((insolvencyref1_Over.f k bt870.1 bt870.2.1 bt870.2.2 bt867.1 bt867.2.1 bt867.2.2).bind fun bt873 => (some (bt873.1, bt873.2.1, bt873.2.2, true)))))
theorem insolvencyref1_Divide.mono : ∀ a0 a1 a2 a3 a4 a5 k, LeO (insolvencyref1_Divide.f k a0 a1 a2 a3 a4 a5) (insolvencyref1_Divide.f (k + 1) a0 a1 a2 a3 a4 a5) := by
 intro a0 a1 a2 a3 a4 a5 k
 unfold insolvencyref1_Divide.f
 repeat' with_reducible first | exact insolvencyref1_Fix.mono _ _ _ _ | exact insolvencyref1_Over.mono _ _ _ _ _ _ _ | exact LeO.refl _ | exact LeO.none _ | refine LeO.ite ?_ ?_ | refine LeO.bind ?_ (fun _ => ?_)
set_option maxHeartbeats 8000000 in
set_option maxRecDepth 100000 in
theorem insolvencyref1_Divide.calls (k : Nat) (a0_0 : Bool) (a0_1 : ByteArray) (a0_2 : ByteArray) (a1_0 : Bool) (a1_1 : ByteArray) (a1_2 : ByteArray) (r1 : Bool) (r2 : ByteArray) (r3 : ByteArray) (r4 : Bool) (w : World) (h : insolvencyref1_Divide.f k a0_0 a0_1 a0_2 a1_0 a1_1 a1_2 = some (r1, r2, r3, r4)) :
  Calls Tryz.prog 30 #[.agg #[.bool a0_0, .string a0_1, .string a0_2], .agg #[.bool a1_0, .string a1_1, .string a1_2]] w fun e w' => e = .returned (.tuple #[.agg #[.bool r1, .string r2, .string r3], .bool r4]) ∧ Below w.heap.size w w' := by
 have hu24 := Tryz.underlying24
 have HB := Aside0.mk (Below.refl w.heap.size w)
 have H := h
 clear h
 unfold insolvencyref1_Divide.f at H
 obtain ⟨⟨t867, t868, t869⟩, A3, H⟩ := bs1 H; dsimp only at H
 by_cases c4 : t868.toList = ([] : List UInt8)
 ·rw [if_pos c4] at H
  have c4b0 := beq_iff_eq.mpr c4
  have c4b1 := bne_eq_false_iff_eq.mpr c4
  clear c4
  simp only [Option.some.injEq, Prod.mk.injEq] at H
  obtain ⟨rfl, rfl, rfl, rfl⟩ := H
  go_enter Tryz.func30, Tryz.ntmps30
  go_wp2_with (first | ((with_reducible refine gd 2 rfl ?_); refine bx 2 (#[.bool a0_0, .string a0_1, .string a0_2]) 24 ?_; intro gb864 hg w5 hbox hb; have BK864 := Aside0.mk (hbox); have GW864 := sg hg HB.out; have GE864 := sg hg HB.out; replace HB := Aside0.mk (bs HB.out hb); clear hb hbox hg) | ((with_reducible refine gd 3 rfl ?_); refine bx 3 (#[.bool a1_0, .string a1_1, .string a1_2]) 24 ?_; intro gb865 hg w6 hbox hb; have BK865 := Aside0.mk (hbox); have GW865 := sg hg HB.out; have GE865 := sg hg HB.out; replace HB := Aside0.mk (bs HB.out hb); have NB864_865 := nl hg BK864.out; have NB865_864 := nr hg BK864.out; replace BK864 := Aside0.mk (bk0 BK864.out hb); clear hb hbox hg) | ((with_reducible refine gd 4 rfl ?_); refine bx 4 (#[.bool false, .string (⟨#[]⟩ : ByteArray), .string (⟨#[]⟩ : ByteArray)]) 24 ?_; intro gb866 hg w7 hbox hb; have BK866 := Aside0.mk (hbox); have GW866 := sg hg HB.out; have GE866 := sg hg HB.out; replace HB := Aside0.mk (bs HB.out hb); have NB864_866 := nl hg BK864.out; have NB866_864 := nr hg BK864.out; replace BK864 := Aside0.mk (bk0 BK864.out hb); have NB865_866 := nl hg BK865.out; have NB866_865 := nr hg BK865.out; replace BK865 := Aside0.mk (bk0 BK865.out hb); clear hb hbox hg; have hnb8 := NB865_864.out; have hnc8 := NB864_865.out; have hnb9 := NB865_866.out; have hnc9 := NB866_865.out; obtain ⟨hcz10_0, hcz10_1, hcz10_2, hfz10_0, hfz10_1, hfz10_2⟩ := cz BK865.out) | ((with_reducible refine gc 22 rfl ?_); refine gl (some 7) Tryz.func22 #[.agg #[.bool a1_0, .string a1_1, .string a1_2]] ?_; (with_reducible refine (insolvencyref1_Fix.calls k a1_0 a1_1 a1_2 t867 t868 t869 _ A3.out).mono ?_); rintro e w11 ⟨rfl, hb⟩; refine ⟨_, rfl, ?_⟩; replace BK864 := Aside0.mk (bk0 BK864.out hb); replace BK865 := Aside0.mk (bk0 BK865.out hb); replace BK866 := Aside0.mk (bk0 BK866.out hb); replace HB := Aside0.mk (bs HB.out hb); (try clear hb); obtain ⟨hcz12_0, hcz12_1, hcz12_2, hfz12_0, hfz12_1, hfz12_2⟩ := cz BK865.out; have hnb13 := NB866_864.out; have hnc13 := NB864_866.out; obtain ⟨hcz14_0, hcz14_1, hcz14_2, hfz14_0, hfz14_1, hfz14_2⟩ := cz BK866.out))
  refine bodyPost_ret (results_ct rfl _ _ gb866 24 #[.bool false, .string (⟨#[]⟩ : ByteArray), .string (⟨#[]⟩ : ByteArray)] (0, 0) _ rfl (bq BK866.out) Tryz.underlying24 rfl (by kernel_rfl)) rfl ?_
  exact ⟨fe, bz HB.out⟩
 ·rw [if_neg c4] at H
  have c4b0 := beq_eq_false_iff_ne.mpr c4
  have c4b1 := bne_iff_ne.mpr c4
  obtain ⟨⟨t870, t871, t872⟩, A15, H⟩ := bs1 H; dsimp only at H
  obtain ⟨⟨t873, t874, t875⟩, A16, H⟩ := bs1 H; dsimp only at H
  simp only [Option.some.injEq, Prod.mk.injEq] at H
  obtain ⟨rfl, rfl, rfl, rfl⟩ := H
  go_enter Tryz.func30, Tryz.ntmps30
  try go_wp2_with (first | ((with_reducible refine gd 2 rfl ?_); refine bx 2 (#[.bool a0_0, .string a0_1, .string a0_2]) 24 ?_; intro gb864 hg w17 hbox hb; have BK864 := Aside0.mk (hbox); have GW864 := sg hg HB.out; have GE864 := sg hg HB.out; replace HB := Aside0.mk (bs HB.out hb); clear hb hbox hg) | ((with_reducible refine gd 3 rfl ?_); refine bx 3 (#[.bool a1_0, .string a1_1, .string a1_2]) 24 ?_; intro gb865 hg w18 hbox hb; have BK865 := Aside0.mk (hbox); have GW865 := sg hg HB.out; have GE865 := sg hg HB.out; replace HB := Aside0.mk (bs HB.out hb); have NB864_865 := nl hg BK864.out; have NB865_864 := nr hg BK864.out; replace BK864 := Aside0.mk (bk0 BK864.out hb); clear hb hbox hg) | ((with_reducible refine gd 4 rfl ?_); refine bx 4 (#[.bool false, .string (⟨#[]⟩ : ByteArray), .string (⟨#[]⟩ : ByteArray)]) 24 ?_; intro gb866 hg w19 hbox hb; have BK866 := Aside0.mk (hbox); have GW866 := sg hg HB.out; have GE866 := sg hg HB.out; replace HB := Aside0.mk (bs HB.out hb); have NB864_866 := nl hg BK864.out; have NB866_864 := nr hg BK864.out; replace BK864 := Aside0.mk (bk0 BK864.out hb); have NB865_866 := nl hg BK865.out; have NB866_865 := nr hg BK865.out; replace BK865 := Aside0.mk (bk0 BK865.out hb); clear hb hbox hg; have hnb20 := NB865_864.out; have hnc20 := NB864_865.out; have hnb21 := NB865_866.out; have hnc21 := NB866_865.out; obtain ⟨hcz22_0, hcz22_1, hcz22_2, hfz22_0, hfz22_1, hfz22_2⟩ := cz BK865.out) | ((with_reducible refine gc 22 rfl ?_); refine gl (some 7) Tryz.func22 #[.agg #[.bool a1_0, .string a1_1, .string a1_2]] ?_; (with_reducible refine (insolvencyref1_Fix.calls k a1_0 a1_1 a1_2 t867 t868 t869 _ A3.out).mono ?_); rintro e w23 ⟨rfl, hb⟩; refine ⟨_, rfl, ?_⟩; replace BK864 := Aside0.mk (bk0 BK864.out hb); replace BK865 := Aside0.mk (bk0 BK865.out hb); replace BK866 := Aside0.mk (bk0 BK866.out hb); replace HB := Aside0.mk (bs HB.out hb); (try clear hb); obtain ⟨hcz24_0, hcz24_1, hcz24_2, hfz24_0, hfz24_1, hfz24_2⟩ := cz BK865.out))
  have n0_ : Aside0 ((((w23.setCell ⟨gb865, 0, none⟩ (.bool t867)).setCell ⟨gb865, 1, none⟩ (.string t868)).setCell ⟨gb865, 2, none⟩ (.string t869)).heap[gb864]? = some (.cells #[.bool a0_0, .string a0_1, .string a0_2] 24 (0, 0))) := ⟨bq BK864.out⟩
  have n1_ : Aside0 ((((w23.setCell ⟨gb865, 0, none⟩ (.bool t867)).setCell ⟨gb865, 1, none⟩ (.string t868)).setCell ⟨gb865, 2, none⟩ (.string t869)).heap[gb865]? = some (.cells #[.bool t867, .string t868, .string t869] 24 (0, 0))) := ⟨bq BK865.out⟩
  have n2_ : Aside0 ((((w23.setCell ⟨gb865, 0, none⟩ (.bool t867)).setCell ⟨gb865, 1, none⟩ (.string t868)).setCell ⟨gb865, 2, none⟩ (.string t869)).heap[gb866]? = some (.cells #[.bool false, .string (⟨#[]⟩ : ByteArray), .string (⟨#[]⟩ : ByteArray)] 24 (0, 0))) := ⟨bq BK866.out⟩
  have n3_ : Aside0 (Below w.heap.size w (((w23.setCell ⟨gb865, 0, none⟩ (.bool t867)).setCell ⟨gb865, 1, none⟩ (.string t868)).setCell ⟨gb865, 2, none⟩ (.string t869))) := ⟨bz HB.out⟩
  (try clear BK864); (try clear BK865); (try clear BK866); (try clear HB)
  generalize (((w23.setCell ⟨gb865, 0, none⟩ (.bool t867)).setCell ⟨gb865, 1, none⟩ (.string t868)).setCell ⟨gb865, 2, none⟩ (.string t869)) = w25 at n0_ n1_ n2_ n3_ ⊢
  have BK864 := n0_
  have BK865 := n1_
  have BK866 := n2_
  have HB := n3_
  clear n0_ n1_ n2_ n3_
  replace BK864 := Aside0.mk (blk_drew BK864.out)
  replace BK865 := Aside0.mk (blk_drew BK865.out)
  replace BK866 := Aside0.mk (blk_drew BK866.out)
  replace HB := Aside0.mk (below_drew1 HB.out)
  refine start_ (n := 6) (S := fun w' => w'.cell? ⟨gb864, 0, none⟩ = some (.bool a0_0) ∧ w'.cell? ⟨gb864, 1, none⟩ = some (.string a0_1) ∧ w'.cell? ⟨gb864, 2, none⟩ = some (.string a0_2) ∧ w'.cell? ⟨gb865, 0, none⟩ = some (.bool t867) ∧ w'.cell? ⟨gb865, 1, none⟩ = some (.string t868) ∧ w'.cell? ⟨gb865, 2, none⟩ = some (.string t869)) (ds := []) #[false, false, false, false, false, false] (by kernel_rfl) rfl rfl ⟨(blk_cell BK864.out 0).trans rfl, (blk_cell BK864.out 1).trans rfl, (blk_cell BK864.out 2).trans rfl, (blk_cell BK865.out 0).trans rfl, (blk_cell BK865.out 1).trans rfl, (blk_cell BK865.out 2).trans rfl⟩ (fun hHeld => ?_)
  generalize w25.drew = w26 at BK864 BK865 BK866 HB hHeld ⊢
  refine take_ (i := 0) (N := some 12) (v := ?_) (a' := ?_) #[true, false, false, false, false, false] rfl rfl (by kernel_rfl) (fun _ _ _ h => h) (Or.inl ⟨by rfl, ?_⟩) hHeld ?_ ?_
  rotate_left
  ·rintro w' ⟨s0, s1, s2, s3, s4, s5⟩
   go_simp
   with_reducible rfl
  rotate_left
  ·simp only [Act.put, List.setIfInBounds_toArray, List.set_cons_zero, List.set_cons_succ, i64_w, i32_w]
   rfl
  refine take_ (i := 2) (N := some 14) (v := ?_) (a' := ?_) #[true, false, true, false, false, false] rfl rfl (by kernel_rfl) (fun _ _ _ h => h) (Or.inl ⟨by rfl, ?_⟩) hHeld ?_ ?_
  rotate_left
  ·rintro w' ⟨s0, s1, s2, s3, s4, s5⟩
   go_simp
   with_reducible rfl
  rotate_left
  ·simp only [Act.put, List.setIfInBounds_toArray, List.set_cons_zero, List.set_cons_succ, i64_w, i32_w]
   rfl
  refine one_ (i := 1) (N := some 13) #[true, true, true, false, false, false] rfl rfl (by kernel_rfl) (by decide) (fun K hK => ?_)
  refine gs Tryz.func22 #[.agg #[.bool a0_0, .string a0_1, .string a0_2]] ?_
  with_reducible refine (insolvencyref1_Fix.calls k a0_0 a0_1 a0_2 t870 t871 t872 _ A15.out).mono ?_
  rintro e w27 ⟨rfl, hb⟩
  refine ⟨_, rfl, ?_⟩
  replace BK864 := Aside0.mk (bk0 BK864.out hb)
  replace BK865 := Aside0.mk (bk0 BK865.out hb)
  replace BK866 := Aside0.mk (bk0 BK866.out hb)
  replace HB := Aside0.mk (bs HB.out hb)
  (try clear hb); (try clear hb2); (try clear hk); (try clear hi)
  refine hK.out _ _ ⟨(blk_cell BK864.out 0).trans rfl, (blk_cell BK864.out 1).trans rfl, (blk_cell BK864.out 2).trans rfl, (blk_cell BK865.out 0).trans rfl, (blk_cell BK865.out 1).trans rfl, (blk_cell BK865.out 2).trans rfl⟩ (fun hHeld => ?_)
  clear hK K
  refine nm ?_
  refine one_ (i := 3) (N := some 15) #[true, true, true, true, false, false] rfl rfl (by kernel_rfl) (by decide) (fun K hK => ?_)
  refine gs Tryz.func87 #[.agg #[.bool t870, .string t871, .string t872], .agg #[.bool t867, .string t868, .string t869]] ?_
  with_reducible refine (insolvencyref1_Over.calls k t870 t871 t872 t867 t868 t869 t873 t874 t875 _ A16.out).mono ?_
  rintro e w28 ⟨rfl, hb⟩
  refine ⟨_, rfl, ?_⟩
  replace BK864 := Aside0.mk (bk0 BK864.out hb)
  replace BK865 := Aside0.mk (bk0 BK865.out hb)
  replace BK866 := Aside0.mk (bk0 BK866.out hb)
  replace HB := Aside0.mk (bs HB.out hb)
  (try clear hb); (try clear hb2); (try clear hk); (try clear hi)
  refine hK.out _ _ ⟨(blk_cell BK864.out 0).trans rfl, (blk_cell BK864.out 1).trans rfl, (blk_cell BK864.out 2).trans rfl, (blk_cell BK865.out 0).trans rfl, (blk_cell BK865.out 1).trans rfl, (blk_cell BK865.out 2).trans rfl⟩ (fun hHeld => ?_)
  clear hK K
  refine nm ?_
  refine one_ (i := 4) (N := none) #[true, true, true, true, true, false] rfl rfl (by kernel_rfl) (by decide) (fun K hK => ?_)
  have hs29 : w28.cell? ⟨gb866, 0, none⟩ = some (.bool false) := (blk_cell BK866.out 0).trans rfl
  have hfs29 := blk_frozen BK866.out 0
  have hns29_0 := NB864_866.out
  have hns29_1 := NB865_866.out
  have hms29_0 := NB866_864.out
  have hms29_1 := NB866_865.out
  have hs30 : w28.cell? ⟨gb866, 1, none⟩ = some (.string (⟨#[]⟩ : ByteArray)) := (blk_cell BK866.out 1).trans rfl
  have hfs30 := blk_frozen BK866.out 1
  have hns30_0 := NB864_866.out
  have hns30_1 := NB865_866.out
  have hms30_0 := NB866_864.out
  have hms30_1 := NB866_865.out
  have hs31 : w28.cell? ⟨gb866, 2, none⟩ = some (.string (⟨#[]⟩ : ByteArray)) := (blk_cell BK866.out 2).trans rfl
  have hfs31 := blk_frozen BK866.out 2
  have hns31_0 := NB864_866.out
  have hns31_1 := NB865_866.out
  have hms31_0 := NB866_864.out
  have hms31_1 := NB866_865.out
  refine skip_ (w1 := ?_) (by rfl) rfl ?_ ?_
  rotate_left
  ·go_simp
   rfl
  refine hK.out _ _ ⟨((cell_far (p := ⟨gb866, _, none⟩) NB864_866.out _).trans (((cell_far (p := ⟨gb866, _, none⟩) NB864_866.out _).trans (((cell_far (p := ⟨gb866, _, none⟩) NB864_866.out _).trans (hHeld.1)))))), ((cell_far (p := ⟨gb866, _, none⟩) NB864_866.out _).trans (((cell_far (p := ⟨gb866, _, none⟩) NB864_866.out _).trans (((cell_far (p := ⟨gb866, _, none⟩) NB864_866.out _).trans (hHeld.2.1)))))), ((cell_far (p := ⟨gb866, _, none⟩) NB864_866.out _).trans (((cell_far (p := ⟨gb866, _, none⟩) NB864_866.out _).trans (((cell_far (p := ⟨gb866, _, none⟩) NB864_866.out _).trans (hHeld.2.2.1)))))), ((cell_far (p := ⟨gb866, _, none⟩) NB865_866.out _).trans (((cell_far (p := ⟨gb866, _, none⟩) NB865_866.out _).trans (((cell_far (p := ⟨gb866, _, none⟩) NB865_866.out _).trans (hHeld.2.2.2.1)))))), ((cell_far (p := ⟨gb866, _, none⟩) NB865_866.out _).trans (((cell_far (p := ⟨gb866, _, none⟩) NB865_866.out _).trans (((cell_far (p := ⟨gb866, _, none⟩) NB865_866.out _).trans (hHeld.2.2.2.2.1)))))), ((cell_far (p := ⟨gb866, _, none⟩) NB865_866.out _).trans (((cell_far (p := ⟨gb866, _, none⟩) NB865_866.out _).trans (((cell_far (p := ⟨gb866, _, none⟩) NB865_866.out _).trans (hHeld.2.2.2.2.2))))))⟩ (fun hHeld => ?_)
  clear hK K
  refine pure_ (i := 5) (N := some 5) (v := ?_) (a' := ?_) #[true, true, true, true, true, true] rfl rfl (by kernel_rfl) (fun _ _ _ h => h) (Or.inl ⟨by rfl, ?_⟩) ?_ ?_
  rotate_left
  ·intro w'
   go_simp
   with_reducible rfl
  rotate_left
  ·simp only [Act.put, List.setIfInBounds_toArray, List.set_cons_zero, List.set_cons_succ, i64_w, i32_w]
   rfl
  refine done_ (by kernel_rfl) ?_
  try go_wp2
  refine bodyPost_ret (results_ct rfl _ _ gb866 24 #[.bool t873, .string t874, .string t875] (0, 0) _ rfl (bq BK866.out) Tryz.underlying24 rfl (by kernel_rfl)) rfl ?_
  exact ⟨fe, bz HB.out⟩

/-! ### insolvencylaw2_RationalDivide: function 7 -/
def insolvencylaw2_RationalDivide.f (k : Nat) (a0_0 : Bool) (a0_1 : ByteArray) (a0_2 : ByteArray) (a1_0 : Bool) (a1_1 : ByteArray) (a1_2 : ByteArray) : Option (Bool) := (insolvencylaw2_few.f k (([(⟨a0_0, a0_1, a0_2⟩ : S24), (⟨a1_0, a1_1, a1_2⟩ : S24)] : List (S24)))).bind fun t881 => (if t881 = true then ((rational_Divide.f k a0_0 a0_1 a0_2 a1_0 a1_1 a1_2).bind fun bt882 => ((insolvencyref1_Divide.f k a0_0 a0_1 a0_2 a1_0 a1_1 a1_2).bind fun bt887 => ((insolvencylaw2_awake.f k).bind fun t892 => (if t892 = true then (if (bt882.1 == bt887.1 && (bt882.2.1.toList == bt887.2.1.toList && (bt882.2.2.1.toList == bt887.2.2.1.toList))) = true then (some (bt882.2.2.2 == bt887.2.2.2)) else (some false)) else (some false))))) else ((insolvencylaw2_awake.f k).bind fun t893 => (some t893)))
theorem insolvencylaw2_RationalDivide.mono : ∀ a0 a1 a2 a3 a4 a5 k, LeO (insolvencylaw2_RationalDivide.f k a0 a1 a2 a3 a4 a5) (insolvencylaw2_RationalDivide.f (k + 1) a0 a1 a2 a3 a4 a5) := by
 intro a0 a1 a2 a3 a4 a5 k
 unfold insolvencylaw2_RationalDivide.f
 repeat' with_reducible first | exact insolvencylaw2_awake.mono _ | exact insolvencylaw2_few.mono _ _ | exact insolvencyref1_Divide.mono _ _ _ _ _ _ _ | exact rational_Divide.mono _ _ _ _ _ _ _ | exact LeO.refl _ | exact LeO.none _ | refine LeO.ite ?_ ?_ | refine LeO.bind ?_ (fun _ => ?_)
set_option maxHeartbeats 8000000 in
set_option maxRecDepth 100000 in
theorem insolvencylaw2_RationalDivide.calls (k : Nat) (a0_0 : Bool) (a0_1 : ByteArray) (a0_2 : ByteArray) (a1_0 : Bool) (a1_1 : ByteArray) (a1_2 : ByteArray) (r : Bool) (w : World) (h : insolvencylaw2_RationalDivide.f k a0_0 a0_1 a0_2 a1_0 a1_1 a1_2 = some r) (hr : r = true := by first | rfl | assumption) :
  Calls Tryz.prog 7 #[.agg #[.bool a0_0, .string a0_1, .string a0_2], .agg #[.bool a1_0, .string a1_1, .string a1_2]] w fun e w' => e = .returned (.bool r) ∧ Below w.heap.size w w' := by
 have hu24 := Tryz.underlying24
 have HB := Aside0.mk (Below.refl w.heap.size w)
 have H := h
 clear h
 unfold insolvencylaw2_RationalDivide.f at H
 obtain ⟨y878, hy878⟩ : ∃ y_ : List (S24), y_ = (([(⟨a0_0, a0_1, a0_2⟩ : S24), (⟨a1_0, a1_1, a1_2⟩ : S24)] : List (S24))) := ⟨_, rfl⟩
 (try first | rw [← hy878] at H | (dsimp only at H; rw [← hy878] at H)); (try rw [Option.bind_some] at H)
 have Ny878 := Aside0.mk hy878
 clear hy878
 obtain ⟨t881, A3, H⟩ := bs1 H
 by_cases c4 : t881 = true
 ·subst c4
  have H1 : ((rational_Divide.f k a0_0 a0_1 a0_2 a1_0 a1_1 a1_2).bind fun bt882 => ((insolvencyref1_Divide.f k a0_0 a0_1 a0_2 a1_0 a1_1 a1_2).bind fun bt887 => ((insolvencylaw2_awake.f k).bind fun t892 => (if t892 = true then (if (bt882.1 == bt887.1 && (bt882.2.1.toList == bt887.2.1.toList && (bt882.2.2.1.toList == bt887.2.2.1.toList))) = true then (some (bt882.2.2.2 == bt887.2.2.2)) else (some false)) else (some false))))) = some r := by rw [if_pos rfl] at H; exact H
  clear H
  have H := H1
  clear H1
  obtain ⟨⟨t882, t883, t884, t885⟩, A5, H⟩ := bs1 H; dsimp only at H
  obtain ⟨⟨t887, t888, t889, t890⟩, A6, H⟩ := bs1 H; dsimp only at H
  obtain ⟨t892, A7, H⟩ := bs1 H
  by_cases c8 : t892 = true
  ·subst c8
   have H1 : (if (t882 == t887 && (t883.toList == t888.toList && (t884.toList == t889.toList))) = true then (some (t885 == t890)) else (some false)) = some r := by rw [if_pos rfl] at H; exact H
   clear H
   have H := H1
   clear H1
   by_cases c9 : (t882 == t887 && (t883.toList == t888.toList && (t884.toList == t889.toList))) = true
   ·rw [if_pos c9] at H
    have c9b0 : (t882 == t887 && (t883.toList == t888.toList && (t884.toList == t889.toList))) = true := c9
    (try (have c9b1 : decide (t882 = t887 && (t883.toList == t888.toList && (t884.toList == t889.toList))) = true := by simpa using c9))
    (try (have c9b2 : (t882 == t887 && (t883.toList == t888.toList && (t884.toList == t889.toList))) = true := by simpa using c9))
    clear c9
    obtain rfl := Option.some.inj H
    go_enter Tryz.func7, Tryz.ntmps7
    go_wp2_with (first | ((with_reducible refine gd 2 rfl ?_); refine bx 2 (#[.bool a0_0, .string a0_1, .string a0_2]) 24 ?_; intro gb876 hg w10 hbox hb; have BK876 := Aside0.mk (hbox); have GW876 := sg hg HB.out; have GE876 := sg hg HB.out; replace HB := Aside0.mk (bs HB.out hb); clear hb hbox hg) | ((with_reducible refine gd 3 rfl ?_); refine bx 3 (#[.bool a1_0, .string a1_1, .string a1_2]) 24 ?_; intro gb877 hg w11 hbox hb; have BK877 := Aside0.mk (hbox); have GW877 := sg hg HB.out; have GE877 := sg hg HB.out; replace HB := Aside0.mk (bs HB.out hb); have NB876_877 := nl hg BK876.out; have NB877_876 := nr hg BK876.out; replace BK876 := Aside0.mk (bk0 BK876.out hb); clear hb hbox hg; have hnb12 := NB876_877.out; have hnc12 := NB877_876.out; obtain ⟨hcz13_0, hcz13_1, hcz13_2, hfz13_0, hfz13_1, hfz13_2⟩ := cz BK876.out; obtain ⟨hcz14_0, hcz14_1, hcz14_2, hfz14_0, hfz14_1, hfz14_2⟩ := cz BK877.out) | ((with_reducible refine gd 11 rfl ?_); refine Kd.R_lit k24 _ 24 ?hg (N := 11) ?hd (xs := ([(⟨a0_0, a0_1, a0_2⟩ : S24), (⟨a1_0, a1_1, a1_2⟩ : S24)] : List (S24))) (inner := [.bool a0_0, .string a0_1, .string a0_2, .bool a1_0, .string a1_1, .string a1_2]) (ok := fun _ => True) (okp := fun _ => True) ?hr ?hp (fun _ hk => hk) trivial (Below.refl _ _) (Nat.le_refl _) (by simp) ?_; (case hd => rfl); (case hg => rfl); (case hr => first | (go_simp; done) | (go_simp; rfl)); (case hp => exact (Reps.c3 (show Kd.M k24 _ _ _ (⟨a0_0, a0_1, a0_2⟩ : S24) [.bool a0_0, .string a0_1, .string a0_2] from (k24_mkM _ _ _ (⟨a0_0, a0_1, a0_2⟩ : S24) )) (Reps.c3 (show Kd.M k24 _ _ _ (⟨a1_0, a1_1, a1_2⟩ : S24) [.bool a1_0, .string a1_1, .string a1_2] from (k24_mkM _ _ _ (⟨a1_0, a1_1, a1_2⟩ : S24) )) (Reps.none _ _)))); intro v879 w15 ho16 hb hg_ hnew_; clear hg_ hnew_; (first | rw [← Ny878.out] at ho16 | (simp only [Int.reduceToNat] at ho16; rw [← Ny878.out] at ho16)); have HO880 := Aside0.mk (Kd.R_lower (Kd.R_newB (Kd.R_newB ho16 (g := gb876) (o := .cells #[.bool a0_0, .string a0_1, .string a0_2] 24 (0, 0)) (bq BK876.out)) (g := gb877) (o := .cells #[.bool a1_0, .string a1_1, .string a1_2] 24 (0, 0)) (bq BK877.out)) (sz HB.out)); replace BK876 := Aside0.mk (bk0 BK876.out hb); replace BK877 := Aside0.mk (bk0 BK877.out hb); replace HB := Aside0.mk (bs HB.out hb); clear hb ho16; obtain ⟨Ao17, co17, eo17⟩ := Kd.R_slice HO880.out; subst eo17) | ((with_reducible refine gc 19 rfl ?_); refine gl (some 12) Tryz.func19 #[.slice Ao17 y878.length co17] ?_; (with_reducible refine (insolvencylaw2_few.calls k _ _ y878 true _ ?side1 ?side2 A3.out).mono ?_); (case side1 => exact vs (Kd.R_reads' HO880.out).2.2); (case side2 => exact (Kd.R_reads' HO880.out).2.1); rintro e w18 ⟨rfl, hb⟩; refine ⟨_, rfl, ?_⟩; replace HO880 := Aside0.mk (rb HO880.out hb); replace BK876 := Aside0.mk (bk0 BK876.out hb); replace BK877 := Aside0.mk (bk0 BK877.out hb); replace HB := Aside0.mk (bs HB.out hb); (try clear hb); obtain ⟨hcz19_0, hcz19_1, hcz19_2, hfz19_0, hfz19_1, hfz19_2⟩ := cz BK876.out; obtain ⟨hcz20_0, hcz20_1, hcz20_2, hfz20_0, hfz20_1, hfz20_2⟩ := cz BK877.out) | ((with_reducible refine gc 29 rfl ?_); refine gl (some 18) Tryz.func29 #[.agg #[.bool a0_0, .string a0_1, .string a0_2], .agg #[.bool a1_0, .string a1_1, .string a1_2]] ?_; (with_reducible refine (rational_Divide.calls k a0_0 a0_1 a0_2 a1_0 a1_1 a1_2 t882 t883 t884 t885 _ A5.out).mono ?_); rintro e w21 ⟨rfl, hb⟩; refine ⟨_, rfl, ?_⟩; replace HO880 := Aside0.mk (rb HO880.out hb); replace BK876 := Aside0.mk (bk0 BK876.out hb); replace BK877 := Aside0.mk (bk0 BK877.out hb); replace HB := Aside0.mk (bs HB.out hb); (try clear hb)) | ((with_reducible refine gd 5 rfl ?_); refine bx 5 (#[.bool false, .string (⟨#[]⟩ : ByteArray), .string (⟨#[]⟩ : ByteArray)]) 24 ?_; intro gb886 hg w22 hbox hb; replace HO880 := Aside0.mk (Kd.R_below (Kd.R_elderB (vs HO880.out) gb886 (Nat.le_of_eq hg.symm)) hb); have BK886 := Aside0.mk (hbox); have GW886 := sg hg HB.out; have GE886 := sg hg HB.out; replace HB := Aside0.mk (bs HB.out hb); have NB876_886 := nl hg BK876.out; have NB886_876 := nr hg BK876.out; replace BK876 := Aside0.mk (bk0 BK876.out hb); have NB877_886 := nl hg BK877.out; have NB886_877 := nr hg BK877.out; replace BK877 := Aside0.mk (bk0 BK877.out hb); clear hb hbox hg; have hnb23 := NB886_876.out; have hnc23 := NB876_886.out; have hnb24 := NB886_877.out; have hnc24 := NB877_886.out; obtain ⟨hcz25_0, hcz25_1, hcz25_2, hfz25_0, hfz25_1, hfz25_2⟩ := cz BK886.out; obtain ⟨hcz26_0, hcz26_1, hcz26_2, hfz26_0, hfz26_1, hfz26_2⟩ := cz BK876.out; obtain ⟨hcz27_0, hcz27_1, hcz27_2, hfz27_0, hfz27_1, hfz27_2⟩ := cz BK877.out) | ((with_reducible refine gc 30 rfl ?_); refine gl (some 24) Tryz.func30 #[.agg #[.bool a0_0, .string a0_1, .string a0_2], .agg #[.bool a1_0, .string a1_1, .string a1_2]] ?_; (with_reducible refine (insolvencyref1_Divide.calls k a0_0 a0_1 a0_2 a1_0 a1_1 a1_2 t887 t888 t889 t890 _ A6.out).mono ?_); rintro e w28 ⟨rfl, hb⟩; refine ⟨_, rfl, ?_⟩; replace HO880 := Aside0.mk (Kd.R_below (vs ((Kd.R_mono (Kd.R_far (p := ⟨gb886, 2, none⟩) (Kd.R_far (p := ⟨gb886, 1, none⟩) (Kd.R_far (p := ⟨gb886, 0, none⟩) (Kd.R_mono HO880.out (fun k_ hk => (⟨hk, hk.2⟩ : _ ∧ k_ ≠ gb886))) (fun _ hk => hk.2) (.bool t882)) (fun _ hk => hk.2) (.string t883)) (fun _ hk => hk.2) (.string t884)) (fun _ h_ => h_.1)))) hb); replace BK876 := Aside0.mk (bk0 BK876.out hb); replace BK877 := Aside0.mk (bk0 BK877.out hb); replace BK886 := Aside0.mk (bk BK886.out hb (.cells #[.bool t882, .string t883, .string t884] 24 (0, 0))); replace HB := Aside0.mk (bs HB.out hb); (try clear hb)) | ((with_reducible refine gd 7 rfl ?_); refine bx 7 (#[.bool false, .string (⟨#[]⟩ : ByteArray), .string (⟨#[]⟩ : ByteArray)]) 24 ?_; intro gb891 hg w29 hbox hb; replace HO880 := Aside0.mk (Kd.R_below (Kd.R_elderB (vs HO880.out) gb891 (Nat.le_of_eq hg.symm)) hb); have BK891 := Aside0.mk (hbox); have GW891 := sg hg HB.out; have GE891 := sg hg HB.out; replace HB := Aside0.mk (bs HB.out hb); have NB876_891 := nl hg BK876.out; have NB891_876 := nr hg BK876.out; replace BK876 := Aside0.mk (bk0 BK876.out hb); have NB877_891 := nl hg BK877.out; have NB891_877 := nr hg BK877.out; replace BK877 := Aside0.mk (bk0 BK877.out hb); have NB886_891 := nl hg BK886.out; have NB891_886 := nr hg BK886.out; replace BK886 := Aside0.mk (bk0 BK886.out hb); clear hb hbox hg; have hnb30 := NB891_876.out; have hnc30 := NB876_891.out; have hnb31 := NB891_877.out; have hnc31 := NB877_891.out; have hnb32 := NB891_886.out; have hnc32 := NB886_891.out; obtain ⟨hcz33_0, hcz33_1, hcz33_2, hfz33_0, hfz33_1, hfz33_2⟩ := cz BK891.out) | ((with_reducible refine gc 16 rfl ?_); refine gl (some 27) Tryz.func16 #[] ?_; (with_reducible refine (insolvencylaw2_awake.calls k  true _ A7.out).mono ?_); rintro e w34 ⟨rfl, hb⟩; refine ⟨_, rfl, ?_⟩; replace HO880 := Aside0.mk (Kd.R_below (vs ((Kd.R_mono (Kd.R_far (p := ⟨gb891, 2, none⟩) (Kd.R_far (p := ⟨gb891, 1, none⟩) (Kd.R_far (p := ⟨gb891, 0, none⟩) (Kd.R_mono HO880.out (fun k_ hk => (⟨hk, hk.2⟩ : _ ∧ k_ ≠ gb891))) (fun _ hk => hk.2) (.bool t887)) (fun _ hk => hk.2) (.string t888)) (fun _ hk => hk.2) (.string t889)) (fun _ h_ => h_.1)))) hb); replace BK876 := Aside0.mk (bk0 BK876.out hb); replace BK877 := Aside0.mk (bk0 BK877.out hb); replace BK886 := Aside0.mk (bk0 BK886.out hb); replace BK891 := Aside0.mk (bk BK891.out hb (.cells #[.bool t887, .string t888, .string t889] 24 (0, 0))); replace HB := Aside0.mk (bs HB.out hb); (try clear hb); obtain ⟨hcz35_0, hcz35_1, hcz35_2, hfz35_0, hfz35_1, hfz35_2⟩ := cz BK886.out; obtain ⟨hcz36_0, hcz36_1, hcz36_2, hfz36_0, hfz36_1, hfz36_2⟩ := cz BK891.out))
    go_ret
    exact ⟨fe, bz HB.out⟩
   ·rw [if_neg c9] at H
    exact nf hr H
  ·replace c8 := Bool.eq_false_iff.mpr c8
   subst c8
   have H1 : (some false) = some r := by rw [if_neg (show ¬ (false = true) by decide)] at H; exact H
   clear H
   have H := H1
   clear H1
   exact nf hr H
 ·replace c4 := Bool.eq_false_iff.mpr c4
  subst c4
  have H1 : ((insolvencylaw2_awake.f k).bind fun t893 => (some t893)) = some r := by rw [if_neg (show ¬ (false = true) by decide)] at H; exact H
  clear H
  have H := H1
  clear H1
  obtain ⟨t893, A89, H⟩ := bs1 H
  obtain rfl := Option.some.inj H
  go_enter Tryz.func7, Tryz.ntmps7
  go_wp2_with (first | ((with_reducible refine gd 2 rfl ?_); refine bx 2 (#[.bool a0_0, .string a0_1, .string a0_2]) 24 ?_; intro gb876 hg w90 hbox hb; have BK876 := Aside0.mk (hbox); have GW876 := sg hg HB.out; have GE876 := sg hg HB.out; replace HB := Aside0.mk (bs HB.out hb); clear hb hbox hg) | ((with_reducible refine gd 3 rfl ?_); refine bx 3 (#[.bool a1_0, .string a1_1, .string a1_2]) 24 ?_; intro gb877 hg w91 hbox hb; have BK877 := Aside0.mk (hbox); have GW877 := sg hg HB.out; have GE877 := sg hg HB.out; replace HB := Aside0.mk (bs HB.out hb); have NB876_877 := nl hg BK876.out; have NB877_876 := nr hg BK876.out; replace BK876 := Aside0.mk (bk0 BK876.out hb); clear hb hbox hg; have hnb92 := NB876_877.out; have hnc92 := NB877_876.out; obtain ⟨hcz93_0, hcz93_1, hcz93_2, hfz93_0, hfz93_1, hfz93_2⟩ := cz BK876.out; obtain ⟨hcz94_0, hcz94_1, hcz94_2, hfz94_0, hfz94_1, hfz94_2⟩ := cz BK877.out) | ((with_reducible refine gd 11 rfl ?_); refine Kd.R_lit k24 _ 24 ?hg (N := 11) ?hd (xs := ([(⟨a0_0, a0_1, a0_2⟩ : S24), (⟨a1_0, a1_1, a1_2⟩ : S24)] : List (S24))) (inner := [.bool a0_0, .string a0_1, .string a0_2, .bool a1_0, .string a1_1, .string a1_2]) (ok := fun _ => True) (okp := fun _ => True) ?hr ?hp (fun _ hk => hk) trivial (Below.refl _ _) (Nat.le_refl _) (by simp) ?_; (case hd => rfl); (case hg => rfl); (case hr => first | (go_simp; done) | (go_simp; rfl)); (case hp => exact (Reps.c3 (show Kd.M k24 _ _ _ (⟨a0_0, a0_1, a0_2⟩ : S24) [.bool a0_0, .string a0_1, .string a0_2] from (k24_mkM _ _ _ (⟨a0_0, a0_1, a0_2⟩ : S24) )) (Reps.c3 (show Kd.M k24 _ _ _ (⟨a1_0, a1_1, a1_2⟩ : S24) [.bool a1_0, .string a1_1, .string a1_2] from (k24_mkM _ _ _ (⟨a1_0, a1_1, a1_2⟩ : S24) )) (Reps.none _ _)))); intro v879 w95 ho96 hb hg_ hnew_; clear hg_ hnew_; (first | rw [← Ny878.out] at ho96 | (simp only [Int.reduceToNat] at ho96; rw [← Ny878.out] at ho96)); have HO880 := Aside0.mk (Kd.R_lower (Kd.R_newB (Kd.R_newB ho96 (g := gb876) (o := .cells #[.bool a0_0, .string a0_1, .string a0_2] 24 (0, 0)) (bq BK876.out)) (g := gb877) (o := .cells #[.bool a1_0, .string a1_1, .string a1_2] 24 (0, 0)) (bq BK877.out)) (sz HB.out)); replace BK876 := Aside0.mk (bk0 BK876.out hb); replace BK877 := Aside0.mk (bk0 BK877.out hb); replace HB := Aside0.mk (bs HB.out hb); clear hb ho96; obtain ⟨Ao97, co97, eo97⟩ := Kd.R_slice HO880.out; subst eo97) | ((with_reducible refine gc 19 rfl ?_); refine gl (some 12) Tryz.func19 #[.slice Ao97 y878.length co97] ?_; (with_reducible refine (insolvencylaw2_few.calls k _ _ y878 false _ ?side1 ?side2 A3.out).mono ?_); (case side1 => exact vs (Kd.R_reads' HO880.out).2.2); (case side2 => exact (Kd.R_reads' HO880.out).2.1); rintro e w98 ⟨rfl, hb⟩; refine ⟨_, rfl, ?_⟩; replace HO880 := Aside0.mk (rb HO880.out hb); replace BK876 := Aside0.mk (bk0 BK876.out hb); replace BK877 := Aside0.mk (bk0 BK877.out hb); replace HB := Aside0.mk (bs HB.out hb); (try clear hb)) | ((with_reducible refine gc 16 rfl ?_); refine gl (some 14) Tryz.func16 #[] ?_; (with_reducible refine (insolvencylaw2_awake.calls k  t893 _ A89.out).mono ?_); rintro e w99 ⟨rfl, hb⟩; refine ⟨_, rfl, ?_⟩; replace HO880 := Aside0.mk (rb HO880.out hb); replace BK876 := Aside0.mk (bk0 BK876.out hb); replace BK877 := Aside0.mk (bk0 BK877.out hb); replace HB := Aside0.mk (bs HB.out hb); (try clear hb)))
  go_ret
  exact ⟨fe, bz HB.out⟩
end Go.Proofs.YtgepdnoaemeofaaGreatDoor.A
