/- Printed by a program of this session (wip/tools) out of the translation: plain functions and the proofs that the code comes to their answers. -/
import Derived.Test.YtgepdnoaemeofaaDoorK
import Derived.Test.YtgepdnoaemeofaaDoorE0
import Derived.Test.YtgepdnoaemeofaaDoorE6
import Derived.Test.YtgepdnoaemeofaaDoorE7
import Derived.Test.YtgepdnoaemeofaaDoorE11
import Derived.Test.YtgepdnoaemeofaaDoorE12
import Derived.Test.YtgepdnoaemeofaaDoorE19
namespace Go.Proofs.YtgepdnoaemeofaaDoor.E
open Go.RowKit Go.Proofs.YtgepdnoaemeofaaDoorW.PrintWords Go.Proofs.YtgepdnoaemeofaaDoorW.PrintLast Go.Proofs.YtgepdnoaemeofaaDoorW.PrintMore Go.Proofs.YtgepdnoaemeofaaDoorW.PK
attribute [local go_sem] max2_int min2_int max_two min_two max_three min_three max_four min_four   -- for this text's walks alone
set_option linter.unusedVariables false
set_option linter.unusedSimpArgs false

/-! ### rational_Multiply: function 18 -/
def rational_Multiply.f (k : Nat) (a0_0 : Bool) (a0_1 : ByteArray) (a0_2 : ByteArray) (a1_0 : Bool) (a1_1 : ByteArray) (a1_2 : ByteArray) : Option (Bool × ByteArray × ByteArray) := (rational_clean.f k a0_0 a0_1 a0_2).bind fun bt621 => ((rational_clean.f k a1_0 a1_1 a1_2).bind fun bt624 => ((natural_Multiply.f k bt621.2.1 bt624.2.1).bind fun t627 => ((rational_den.f bt621.1 bt621.2.1 bt621.2.2).bind fun t628 => ((rational_den.f bt624.1 bt624.2.1 bt624.2.2).bind fun t629 => ((natural_Multiply.f k t628 t629).bind fun t630 => ((rational_reduced.f k (bt621.1 != bt624.1) t627 t630).bind fun bt631 => (some (bt631.1, bt631.2.1, bt631.2.2))))))))
theorem rational_Multiply.mono : ∀ a0 a1 a2 a3 a4 a5 k, LeO (rational_Multiply.f k a0 a1 a2 a3 a4 a5) (rational_Multiply.f (k + 1) a0 a1 a2 a3 a4 a5) := by
 intro a0 a1 a2 a3 a4 a5 k
 unfold rational_Multiply.f
 repeat' first
   | (with_reducible exact natural_Multiply.mono _ _ _)
   | (with_reducible exact rational_clean.mono _ _ _ _)
   | (with_reducible exact rational_reduced.mono _ _ _ _)
   | (with_reducible exact LeO.refl _)
   | (with_reducible exact LeO.none _)
   | (with_reducible refine LeO.ite ?_ ?_)
   | (with_reducible refine LeO.bind ?_ (fun _ => ?_))
   | exact natural_Multiply.mono _ _ _
   | exact rational_clean.mono _ _ _ _
   | exact rational_reduced.mono _ _ _ _
   | exact LeO.none _
   | refine LeO.ite ?_ ?_
   | refine LeO.bind ?_ (fun _ => ?_)
def rational_Multiply.T2 : Bool × List (List Nat × List Nat) := (true, [([], []), ([0], [0]), ([], []), ([2], [2]), ([1, 3], [1, 3]), ([], []), ([5], [5]), ([], []), ([7], [7]), ([6, 8], [6, 8]), ([], []), ([10, 9], [10]), ([], []), ([12, 11], [12]), ([11, 13, 13], [11, 13]), ([4, 9, 14, 14], [4, 9, 14]), ([15, 15, 0, 1, 2, 3, 4, 5, 6, 7, 8, 9, 10, 11, 12, 13, 14, 15], [15])])
def rational_Multiply.B2 : List Nat := [0, 1, 0, 4, 15, 0, 32, 0, 128, 480, 0, 2016, 0, 8160, 16352, 32767, 65535]
theorem rational_Multiply.tab2 : rtab .any (opsOf Tryd.f18 2) = rational_Multiply.T2 := by kernel_rfl
theorem rational_Multiply.bits2 : waitsOk rational_Multiply.T2.2 rational_Multiply.B2 = true := by kernel_rfl
set_option maxHeartbeats 8000000 in
set_option maxRecDepth 100000 in
theorem rational_Multiply.calls (k : Nat) (a0_0 : Bool) (a0_1 : ByteArray) (a0_2 : ByteArray) (a1_0 : Bool) (a1_1 : ByteArray) (a1_2 : ByteArray) (r1 : Bool) (r2 : ByteArray) (r3 : ByteArray) (w : World) (h : rational_Multiply.f k a0_0 a0_1 a0_2 a1_0 a1_1 a1_2 = some (r1, r2, r3)) :
  Calls Tryd.prog 18 #[.agg #[.bool a0_0, .string a0_1, .string a0_2], .agg #[.bool a1_0, .string a1_1, .string a1_2]] w fun e w' => e = .returned (.agg #[.bool r1, .string r2, .string r3]) ∧ Below w.heap.size w w' := by
 have hu23 := Tryd.underlying23
 have HB := Aside0.mk (Below.refl w.heap.size w)
 have H := h
 clear h
 unfold rational_Multiply.f at H
 obtain ⟨⟨t621, t622, t623⟩, A3, H⟩ := bs1 H; dsimp only at H
 obtain ⟨⟨t624, t625, t626⟩, A4, H⟩ := bs1 H; dsimp only at H
 obtain ⟨t627, A5, H⟩ := bs1 H
 obtain ⟨t628, A6, H⟩ := bs1 H
 obtain ⟨t629, A7, H⟩ := bs1 H
 obtain ⟨t630, A8, H⟩ := bs1 H
 obtain ⟨⟨t631, t632, t633⟩, A9, H⟩ := bs1 H; dsimp only at H
 simp only [Option.some.injEq, Prod.mk.injEq] at H
 obtain ⟨rfl, rfl, rfl⟩ := H
 go_enter Tryd.func18, Tryd.ntmps18
 try go_wp2_with (first | ((with_reducible refine gd 2 rfl ?_); refine bx 2 (#[.bool a0_0, .string a0_1, .string a0_2]) 23 ?_; intro gb618 hg w10 hbox hb; have BK618 := Aside0.mk (hbox); have GW618 := sg hg HB.out; have GE618 := sg hg HB.out; replace HB := Aside0.mk (bs HB.out hb); clear hb hbox hg) | ((with_reducible refine gd 3 rfl ?_); refine bx 3 (#[.bool a1_0, .string a1_1, .string a1_2]) 23 ?_; intro gb619 hg w11 hbox hb; have BK619 := Aside0.mk (hbox); have GW619 := sg hg HB.out; have GE619 := sg hg HB.out; replace HB := Aside0.mk (bs HB.out hb); have NB618_619 := nl hg BK618.out; have NB619_618 := nr hg BK618.out; replace BK618 := Aside0.mk (bk0 BK618.out hb); clear hb hbox hg) | ((with_reducible refine gd 4 rfl ?_); refine bx 4 (#[.bool false, .string (⟨#[]⟩ : ByteArray), .string (⟨#[]⟩ : ByteArray)]) 23 ?_; intro gb620 hg w12 hbox hb; have BK620 := Aside0.mk (hbox); have GW620 := sg hg HB.out; have GE620 := sg hg HB.out; replace HB := Aside0.mk (bs HB.out hb); have NB618_620 := nl hg BK618.out; have NB620_618 := nr hg BK618.out; replace BK618 := Aside0.mk (bk0 BK618.out hb); have NB619_620 := nl hg BK619.out; have NB620_619 := nr hg BK619.out; replace BK619 := Aside0.mk (bk0 BK619.out hb); clear hb hbox hg))
 replace BK618 := Aside0.mk (blk_drew BK618.out)
 replace BK619 := Aside0.mk (blk_drew BK619.out)
 replace BK620 := Aside0.mk (blk_drew BK620.out)
 replace HB := Aside0.mk (below_drew1 HB.out)
 refine start_ (n := 6) (S := fun w' => w'.cell? ⟨gb618, 0, none⟩ = some (.bool a0_0) ∧ w'.cell? ⟨gb618, 1, none⟩ = some (.string a0_1) ∧ w'.cell? ⟨gb618, 2, none⟩ = some (.string a0_2) ∧ w'.cell? ⟨gb619, 0, none⟩ = some (.bool a1_0) ∧ w'.cell? ⟨gb619, 1, none⟩ = some (.string a1_1) ∧ w'.cell? ⟨gb619, 2, none⟩ = some (.string a1_2)) (ds := [4, 5]) #[false, false, false, false, false, false] (by kernel_rfl) rfl rfl ⟨(blk_cell BK618.out 0).trans rfl, (blk_cell BK618.out 1).trans rfl, (blk_cell BK618.out 2).trans rfl, (blk_cell BK619.out 0).trans rfl, (blk_cell BK619.out 1).trans rfl, (blk_cell BK619.out 2).trans rfl⟩ (fun hHeld => ?_)
 generalize w12.drew = w13 at BK618 BK619 BK620 HB hHeld ⊢
 refine take_ (i := 0) (N := some 5) (v := ?_) (a' := ?_) #[true, false, false, false, false, false] rfl rfl (by kernel_rfl) (fun _ _ _ h => h) (Or.inl ⟨by rfl, ?_⟩) hHeld ?_ ?_
 rotate_left
 ·rintro w' ⟨s0, s1, s2, s3, s4, s5⟩
  go_simp
  with_reducible rfl
 rotate_left
 ·simp only [Act.put, List.setIfInBounds_toArray, List.set_cons_zero, List.set_cons_succ, i64_w, i32_w]
  rfl
 refine take_ (i := 2) (N := some 7) (v := ?_) (a' := ?_) #[true, false, true, false, false, false] rfl rfl (by kernel_rfl) (fun _ _ _ h => h) (Or.inl ⟨by rfl, ?_⟩) hHeld ?_ ?_
 rotate_left
 ·rintro w' ⟨s0, s1, s2, s3, s4, s5⟩
  go_simp
  with_reducible rfl
 rotate_left
 ·simp only [Act.put, List.setIfInBounds_toArray, List.set_cons_zero, List.set_cons_succ, i64_w, i32_w]
  rfl
 refine one_ (i := 1) (N := some 6) #[true, true, true, false, false, false] rfl rfl (by kernel_rfl) (by decide) (fun K hK => ?_)
 refine goes_ Tryd.func34 (by kernel_rfl) rfl #[.agg #[.bool a0_0, .string a0_1, .string a0_2]] (by rfl) rfl rfl (by (try simp only [List.map_toArray, List.map_cons, List.map_nil]); first | done | rfl | (simp only [List.length_drop, List.length_take]; rfl)) ?_
 with_reducible refine (rational_clean.calls k a0_0 a0_1 a0_2 t621 t622 t623 _ A3.out).mono ?_
 rintro e w14 ⟨rfl, hb⟩
 refine ⟨_, rfl, ?_⟩
 replace BK618 := Aside0.mk (bk0 BK618.out hb)
 replace BK619 := Aside0.mk (bk0 BK619.out hb)
 replace BK620 := Aside0.mk (bk0 BK620.out hb)
 replace HB := Aside0.mk (bs HB.out hb)
 (try clear hb)
 (try clear hb2)
 (try clear hk)
 (try clear hi)
 refine hK.out _ _ ⟨(blk_cell BK618.out 0).trans rfl, (blk_cell BK618.out 1).trans rfl, (blk_cell BK618.out 2).trans rfl, (blk_cell BK619.out 0).trans rfl, (blk_cell BK619.out 1).trans rfl, (blk_cell BK619.out 2).trans rfl⟩ (fun hHeld => ?_)
 clear hK K
 refine norm_ (a' := ?_) ?_ ?_
 rotate_left
 ·show Act.put _ (some 6) _ = _
  simp only [Act.put, List.setIfInBounds_toArray, List.set_cons_zero, List.set_cons_succ, i64_w, i32_w]
  rfl
 refine one_ (i := 3) (N := some 8) #[true, true, true, true, false, false] rfl rfl (by kernel_rfl) (by decide) (fun K hK => ?_)
 refine goes_ Tryd.func34 (by kernel_rfl) rfl #[.agg #[.bool a1_0, .string a1_1, .string a1_2]] (by rfl) rfl rfl (by (try simp only [List.map_toArray, List.map_cons, List.map_nil]); first | done | rfl | (simp only [List.length_drop, List.length_take]; rfl)) ?_
 with_reducible refine (rational_clean.calls k a1_0 a1_1 a1_2 t624 t625 t626 _ A4.out).mono ?_
 rintro e w15 ⟨rfl, hb⟩
 refine ⟨_, rfl, ?_⟩
 replace BK618 := Aside0.mk (bk0 BK618.out hb)
 replace BK619 := Aside0.mk (bk0 BK619.out hb)
 replace BK620 := Aside0.mk (bk0 BK620.out hb)
 replace HB := Aside0.mk (bs HB.out hb)
 (try clear hb)
 (try clear hb2)
 (try clear hk)
 (try clear hi)
 refine hK.out _ _ ⟨(blk_cell BK618.out 0).trans rfl, (blk_cell BK618.out 1).trans rfl, (blk_cell BK618.out 2).trans rfl, (blk_cell BK619.out 0).trans rfl, (blk_cell BK619.out 1).trans rfl, (blk_cell BK619.out 2).trans rfl⟩ (fun hHeld => ?_)
 clear hK K
 refine norm_ (a' := ?_) ?_ ?_
 rotate_left
 ·show Act.put _ (some 8) _ = _
  simp only [Act.put, List.setIfInBounds_toArray, List.set_cons_zero, List.set_cons_succ, i64_w, i32_w]
  rfl
 refine last_ (i := 4) (N := none) #[true, true, true, true, true, false] rfl rfl (by kernel_rfl) (by decide) (fun K hK => ?_)
 have hs16 : w15.cell? ⟨gb618, 0, none⟩ = some (.bool a0_0) := (blk_cell BK618.out 0).trans rfl
 have hfs16 := blk_frozen BK618.out 0
 have hns16_1 := NB619_618.out
 have hns16_2 := NB620_618.out
 have hms16_1 := NB618_619.out
 have hms16_2 := NB618_620.out
 have hs17 : w15.cell? ⟨gb618, 1, none⟩ = some (.string a0_1) := (blk_cell BK618.out 1).trans rfl
 have hfs17 := blk_frozen BK618.out 1
 have hns17_1 := NB619_618.out
 have hns17_2 := NB620_618.out
 have hms17_1 := NB618_619.out
 have hms17_2 := NB618_620.out
 have hs18 : w15.cell? ⟨gb618, 2, none⟩ = some (.string a0_2) := (blk_cell BK618.out 2).trans rfl
 have hfs18 := blk_frozen BK618.out 2
 have hns18_1 := NB619_618.out
 have hns18_2 := NB620_618.out
 have hms18_1 := NB618_619.out
 have hms18_2 := NB618_620.out
 refine skip_ (w1 := ?_) (by rfl) rfl ?_ ?_
 rotate_left
 ·go_simp
  rfl
 refine hK.out _ _ ?_
 clear hK K
 refine last_ (i := 5) (N := none) #[true, true, true, true, true, true] rfl rfl (by kernel_rfl) (by decide) (fun K hK => ?_)
 have hs19 : w15.cell? ⟨gb619, 0, none⟩ = some (.bool a1_0) := (blk_cell BK619.out 0).trans rfl
 have hfs19 := blk_frozen BK619.out 0
 have hns19_0 := NB618_619.out
 have hns19_2 := NB620_619.out
 have hms19_0 := NB619_618.out
 have hms19_2 := NB619_620.out
 have hs20 : w15.cell? ⟨gb619, 1, none⟩ = some (.string a1_1) := (blk_cell BK619.out 1).trans rfl
 have hfs20 := blk_frozen BK619.out 1
 have hns20_0 := NB618_619.out
 have hns20_2 := NB620_619.out
 have hms20_0 := NB619_618.out
 have hms20_2 := NB619_620.out
 have hs21 : w15.cell? ⟨gb619, 2, none⟩ = some (.string a1_2) := (blk_cell BK619.out 2).trans rfl
 have hfs21 := blk_frozen BK619.out 2
 have hns21_0 := NB618_619.out
 have hns21_2 := NB620_619.out
 have hms21_0 := NB619_618.out
 have hms21_2 := NB619_620.out
 refine skip_ (w1 := ?_) (by rfl) rfl ?_ ?_
 rotate_left
 ·go_simp
  rfl
 refine hK.out _ _ ?_
 clear hK K
 refine done_ (by kernel_rfl) ?_
 try go_wp2
 have n0_ : Aside0 (((((((w15.setCell ⟨gb618, 0, none⟩ (.bool t621)).setCell ⟨gb618, 1, none⟩ (.string t622)).setCell ⟨gb618, 2, none⟩ (.string t623)).setCell ⟨gb619, 0, none⟩ (.bool t624)).setCell ⟨gb619, 1, none⟩ (.string t625)).setCell ⟨gb619, 2, none⟩ (.string t626)).heap[gb618]? = some (.cells #[.bool t621, .string t622, .string t623] 23 (0, 0))) := ⟨bq BK618.out⟩
 have n1_ : Aside0 (((((((w15.setCell ⟨gb618, 0, none⟩ (.bool t621)).setCell ⟨gb618, 1, none⟩ (.string t622)).setCell ⟨gb618, 2, none⟩ (.string t623)).setCell ⟨gb619, 0, none⟩ (.bool t624)).setCell ⟨gb619, 1, none⟩ (.string t625)).setCell ⟨gb619, 2, none⟩ (.string t626)).heap[gb619]? = some (.cells #[.bool t624, .string t625, .string t626] 23 (0, 0))) := ⟨bq BK619.out⟩
 have n2_ : Aside0 (((((((w15.setCell ⟨gb618, 0, none⟩ (.bool t621)).setCell ⟨gb618, 1, none⟩ (.string t622)).setCell ⟨gb618, 2, none⟩ (.string t623)).setCell ⟨gb619, 0, none⟩ (.bool t624)).setCell ⟨gb619, 1, none⟩ (.string t625)).setCell ⟨gb619, 2, none⟩ (.string t626)).heap[gb620]? = some (.cells #[.bool false, .string (⟨#[]⟩ : ByteArray), .string (⟨#[]⟩ : ByteArray)] 23 (0, 0))) := ⟨bq BK620.out⟩
 have n3_ : Aside0 (Below w.heap.size w ((((((w15.setCell ⟨gb618, 0, none⟩ (.bool t621)).setCell ⟨gb618, 1, none⟩ (.string t622)).setCell ⟨gb618, 2, none⟩ (.string t623)).setCell ⟨gb619, 0, none⟩ (.bool t624)).setCell ⟨gb619, 1, none⟩ (.string t625)).setCell ⟨gb619, 2, none⟩ (.string t626))) := ⟨bz HB.out⟩
 (try clear BK618)
 (try clear BK619)
 (try clear BK620)
 (try clear HB)
 generalize ((((((w15.setCell ⟨gb618, 0, none⟩ (.bool t621)).setCell ⟨gb618, 1, none⟩ (.string t622)).setCell ⟨gb618, 2, none⟩ (.string t623)).setCell ⟨gb619, 0, none⟩ (.bool t624)).setCell ⟨gb619, 1, none⟩ (.string t625)).setCell ⟨gb619, 2, none⟩ (.string t626)) = w22 at n0_ n1_ n2_ n3_ ⊢
 have BK618 := n0_
 have BK619 := n1_
 have BK620 := n2_
 have HB := n3_
 clear n0_ n1_ n2_ n3_
 replace BK618 := Aside0.mk (blk_drew BK618.out)
 replace BK619 := Aside0.mk (blk_drew BK619.out)
 replace BK620 := Aside0.mk (blk_drew BK620.out)
 replace HB := Aside0.mk (below_drew1 HB.out)
 refine start_ (n := 17) (S := fun w' => w'.cell? ⟨gb618, 0, none⟩ = some (.bool t621) ∧ w'.cell? ⟨gb618, 1, none⟩ = some (.string t622) ∧ w'.cell? ⟨gb618, 2, none⟩ = some (.string t623) ∧ w'.cell? ⟨gb619, 0, none⟩ = some (.bool t624) ∧ w'.cell? ⟨gb619, 1, none⟩ = some (.string t625) ∧ w'.cell? ⟨gb619, 2, none⟩ = some (.string t626)) (ds := []) #[false, false, false, false, false, false, false, false, false, false, false, false, false, false, false, false, false] (by kernel_rfl) rfl rfl ⟨(blk_cell BK618.out 0).trans rfl, (blk_cell BK618.out 1).trans rfl, (blk_cell BK618.out 2).trans rfl, (blk_cell BK619.out 0).trans rfl, (blk_cell BK619.out 1).trans rfl, (blk_cell BK619.out 2).trans rfl⟩ (fun hHeld => ?_); refine with_tabW rational_Multiply.tab2 rational_Multiply.bits2 (fun HT_ HW_ => ?_)
 generalize w22.drew = w23 at BK618 BK619 BK620 HB hHeld ⊢
 refine pure_ (i := 0) (N := some 9) (v := ?_) (a' := ?_) #[true, false, false, false, false, false, false, false, false, false, false, false, false, false, false, false, false] rfl rfl (any_of HT_.out (by kernel_rfl)) (fun _ _ _ h => h) (Or.inl ⟨by rfl, ?_⟩) ?_ ?_
 rotate_left
 ·intro w'
  go_simp
  with_reducible rfl
 rotate_left
 ·simp only [Act.put, List.setIfInBounds_toArray, List.set_cons_zero, List.set_cons_succ, i64_w, i32_w]
  rfl
 refine pure_ (i := 2) (N := some 11) (v := ?_) (a' := ?_) #[true, false, true, false, false, false, false, false, false, false, false, false, false, false, false, false, false] rfl rfl (any_of HT_.out (by kernel_rfl)) (fun _ _ _ h => h) (Or.inl ⟨by rfl, ?_⟩) ?_ ?_
 rotate_left
 ·intro w'
  go_simp
  with_reducible rfl
 rotate_left
 ·simp only [Act.put, List.setIfInBounds_toArray, List.set_cons_zero, List.set_cons_succ, i64_w, i32_w]
  rfl
 refine pure_ (i := 5) (N := some 14) (v := ?_) (a' := ?_) #[true, false, true, false, false, true, false, false, false, false, false, false, false, false, false, false, false] rfl rfl (any_of HT_.out (by kernel_rfl)) (fun _ _ _ h => h) (Or.inl ⟨by rfl, ?_⟩) ?_ ?_
 rotate_left
 ·intro w'
  go_simp
  with_reducible rfl
 rotate_left
 ·simp only [Act.put, List.setIfInBounds_toArray, List.set_cons_zero, List.set_cons_succ, i64_w, i32_w]
  rfl
 refine pure_ (i := 7) (N := some 16) (v := ?_) (a' := ?_) #[true, false, true, false, false, true, false, true, false, false, false, false, false, false, false, false, false] rfl rfl (any_of HT_.out (by kernel_rfl)) (fun _ _ _ h => h) (Or.inl ⟨by rfl, ?_⟩) ?_ ?_
 rotate_left
 ·intro w'
  go_simp
  with_reducible rfl
 rotate_left
 ·simp only [Act.put, List.setIfInBounds_toArray, List.set_cons_zero, List.set_cons_succ, i64_w, i32_w]
  rfl
 refine take_ (i := 1) (N := some 10) (v := ?_) (a' := ?_) #[true, true, true, false, false, true, false, true, false, false, false, false, false, false, false, false, false] rfl rfl (take_ofW HT_.out HW_.out (by kernel_rfl)) (fun _ _ _ h => h) (Or.inl ⟨by rfl, ?_⟩) hHeld ?_ ?_
 rotate_left
 ·rintro w' ⟨s0, s1, s2, s3, s4, s5⟩
  go_simp
  with_reducible rfl
 rotate_left
 ·simp only [Act.put, List.setIfInBounds_toArray, List.set_cons_zero, List.set_cons_succ, i64_w, i32_w]
  rfl
 refine take_ (i := 3) (N := some 12) (v := ?_) (a' := ?_) #[true, true, true, true, false, true, false, true, false, false, false, false, false, false, false, false, false] rfl rfl (take_ofW HT_.out HW_.out (by kernel_rfl)) (fun _ _ _ h => h) (Or.inl ⟨by rfl, ?_⟩) hHeld ?_ ?_
 rotate_left
 ·rintro w' ⟨s0, s1, s2, s3, s4, s5⟩
  go_simp
  with_reducible rfl
 rotate_left
 ·simp only [Act.put, List.setIfInBounds_toArray, List.set_cons_zero, List.set_cons_succ, i64_w, i32_w]
  rfl
 refine pure_ (i := 4) (N := some 13) (v := ?_) (a' := ?_) #[true, true, true, true, true, true, false, true, false, false, false, false, false, false, false, false, false] rfl rfl (any_of HT_.out (by kernel_rfl)) (fun _ _ _ h => h) (Or.inl ⟨by rfl, ?_⟩) ?_ ?_
 rotate_left
 ·intro w'
  go_simp
  with_reducible rfl
 rotate_left
 ·simp only [Act.put, List.setIfInBounds_toArray, List.set_cons_zero, List.set_cons_succ, i64_w, i32_w]
  rfl
 refine take_ (i := 6) (N := some 15) (v := ?_) (a' := ?_) #[true, true, true, true, true, true, true, true, false, false, false, false, false, false, false, false, false] rfl rfl (take_ofW HT_.out HW_.out (by kernel_rfl)) (fun _ _ _ h => h) (Or.inl ⟨by rfl, ?_⟩) hHeld ?_ ?_
 rotate_left
 ·rintro w' ⟨s0, s1, s2, s3, s4, s5⟩
  go_simp
  with_reducible rfl
 rotate_left
 ·simp only [Act.put, List.setIfInBounds_toArray, List.set_cons_zero, List.set_cons_succ, i64_w, i32_w]
  rfl
 refine take_ (i := 8) (N := some 17) (v := ?_) (a' := ?_) #[true, true, true, true, true, true, true, true, true, false, false, false, false, false, false, false, false] rfl rfl (take_ofW HT_.out HW_.out (by kernel_rfl)) (fun _ _ _ h => h) (Or.inl ⟨by rfl, ?_⟩) hHeld ?_ ?_
 rotate_left
 ·rintro w' ⟨s0, s1, s2, s3, s4, s5⟩
  go_simp
  with_reducible rfl
 rotate_left
 ·simp only [Act.put, List.setIfInBounds_toArray, List.set_cons_zero, List.set_cons_succ, i64_w, i32_w]
  rfl
 refine take_ (i := 10) (N := some 19) (v := ?_) (a' := ?_) #[true, true, true, true, true, true, true, true, true, false, true, false, false, false, false, false, false] rfl rfl (take_ofW HT_.out HW_.out (by kernel_rfl)) (fun _ _ _ h => h) (Or.inl ⟨by rfl, ?_⟩) hHeld ?_ ?_
 rotate_left
 ·rintro w' ⟨s0, s1, s2, s3, s4, s5⟩
  go_simp
  with_reducible rfl
 rotate_left
 ·simp only [Act.put, List.setIfInBounds_toArray, List.set_cons_zero, List.set_cons_succ, i64_w, i32_w]
  rfl
 refine take_ (i := 12) (N := some 21) (v := ?_) (a' := ?_) #[true, true, true, true, true, true, true, true, true, false, true, false, true, false, false, false, false] rfl rfl (take_ofW HT_.out HW_.out (by kernel_rfl)) (fun _ _ _ h => h) (Or.inl ⟨by rfl, ?_⟩) hHeld ?_ ?_
 rotate_left
 ·rintro w' ⟨s0, s1, s2, s3, s4, s5⟩
  go_simp
  with_reducible rfl
 rotate_left
 ·simp only [Act.put, List.setIfInBounds_toArray, List.set_cons_zero, List.set_cons_succ, i64_w, i32_w]
  rfl
 refine one_ (i := 9) (N := some 18) #[true, true, true, true, true, true, true, true, true, true, true, false, true, false, false, false, false] rfl rfl (one_of HT_.out (by kernel_rfl)) (by decide) (fun K hK => ?_)
 refine goes_ Tryd.func40 (by kernel_rfl) rfl #[.string t622, .string t625] (by rfl) rfl rfl (by (try simp only [List.map_toArray, List.map_cons, List.map_nil]); first | done | rfl | (simp only [List.length_drop, List.length_take]; rfl)) ?_
 with_reducible refine (natural_Multiply.calls k t622 t625 t627 _ A5.out).mono ?_
 rintro e w24 ⟨rfl, hb⟩
 refine ⟨_, rfl, ?_⟩
 replace BK618 := Aside0.mk (bk0 BK618.out hb)
 replace BK619 := Aside0.mk (bk0 BK619.out hb)
 replace BK620 := Aside0.mk (bk0 BK620.out hb)
 replace HB := Aside0.mk (bs HB.out hb)
 (try clear hb)
 (try clear hb2)
 (try clear hk)
 (try clear hi)
 refine hK.out _ _ ⟨(blk_cell BK618.out 0).trans rfl, (blk_cell BK618.out 1).trans rfl, (blk_cell BK618.out 2).trans rfl, (blk_cell BK619.out 0).trans rfl, (blk_cell BK619.out 1).trans rfl, (blk_cell BK619.out 2).trans rfl⟩ (fun hHeld => ?_)
 clear hK K
 refine norm_ (a' := ?_) ?_ ?_
 rotate_left
 ·show Act.put _ (some 18) _ = _
  simp only [Act.put, List.setIfInBounds_toArray, List.set_cons_zero, List.set_cons_succ, i64_w, i32_w]
  rfl
 refine one_ (i := 11) (N := some 20) #[true, true, true, true, true, true, true, true, true, true, true, true, true, false, false, false, false] rfl rfl (one_of HT_.out (by kernel_rfl)) (by decide) (fun K hK => ?_)
 refine goes_ Tryd.func41 (by kernel_rfl) rfl #[.agg #[.bool t621, .string t622, .string t623]] (by rfl) rfl rfl (by (try simp only [List.map_toArray, List.map_cons, List.map_nil]); first | done | rfl | (simp only [List.length_drop, List.length_take]; rfl)) ?_
 with_reducible refine (rational_den.calls t621 t622 t623 t628 _ A6.out).mono ?_
 rintro e w25 ⟨rfl, hb⟩
 refine ⟨_, rfl, ?_⟩
 replace BK618 := Aside0.mk (bk0 BK618.out hb)
 replace BK619 := Aside0.mk (bk0 BK619.out hb)
 replace BK620 := Aside0.mk (bk0 BK620.out hb)
 replace HB := Aside0.mk (bs HB.out hb)
 (try clear hb)
 (try clear hb2)
 (try clear hk)
 (try clear hi)
 refine hK.out _ _ ⟨(blk_cell BK618.out 0).trans rfl, (blk_cell BK618.out 1).trans rfl, (blk_cell BK618.out 2).trans rfl, (blk_cell BK619.out 0).trans rfl, (blk_cell BK619.out 1).trans rfl, (blk_cell BK619.out 2).trans rfl⟩ (fun hHeld => ?_)
 clear hK K
 refine norm_ (a' := ?_) ?_ ?_
 rotate_left
 ·show Act.put _ (some 20) _ = _
  simp only [Act.put, List.setIfInBounds_toArray, List.set_cons_zero, List.set_cons_succ, i64_w, i32_w]
  rfl
 refine one_ (i := 13) (N := some 22) #[true, true, true, true, true, true, true, true, true, true, true, true, true, true, false, false, false] rfl rfl (one_of HT_.out (by kernel_rfl)) (by decide) (fun K hK => ?_)
 refine goes_ Tryd.func41 (by kernel_rfl) rfl #[.agg #[.bool t624, .string t625, .string t626]] (by rfl) rfl rfl (by (try simp only [List.map_toArray, List.map_cons, List.map_nil]); first | done | rfl | (simp only [List.length_drop, List.length_take]; rfl)) ?_
 with_reducible refine (rational_den.calls t624 t625 t626 t629 _ A7.out).mono ?_
 rintro e w26 ⟨rfl, hb⟩
 refine ⟨_, rfl, ?_⟩
 replace BK618 := Aside0.mk (bk0 BK618.out hb)
 replace BK619 := Aside0.mk (bk0 BK619.out hb)
 replace BK620 := Aside0.mk (bk0 BK620.out hb)
 replace HB := Aside0.mk (bs HB.out hb)
 (try clear hb)
 (try clear hb2)
 (try clear hk)
 (try clear hi)
 refine hK.out _ _ ⟨(blk_cell BK618.out 0).trans rfl, (blk_cell BK618.out 1).trans rfl, (blk_cell BK618.out 2).trans rfl, (blk_cell BK619.out 0).trans rfl, (blk_cell BK619.out 1).trans rfl, (blk_cell BK619.out 2).trans rfl⟩ (fun hHeld => ?_)
 clear hK K
 refine norm_ (a' := ?_) ?_ ?_
 rotate_left
 ·show Act.put _ (some 22) _ = _
  simp only [Act.put, List.setIfInBounds_toArray, List.set_cons_zero, List.set_cons_succ, i64_w, i32_w]
  rfl
 refine one_ (i := 14) (N := some 23) #[true, true, true, true, true, true, true, true, true, true, true, true, true, true, true, false, false] rfl rfl (one_of HT_.out (by kernel_rfl)) (by decide) (fun K hK => ?_)
 refine goes_ Tryd.func40 (by kernel_rfl) rfl #[.string t628, .string t629] (by rfl) rfl rfl (by (try simp only [List.map_toArray, List.map_cons, List.map_nil]); first | done | rfl | (simp only [List.length_drop, List.length_take]; rfl)) ?_
 with_reducible refine (natural_Multiply.calls k t628 t629 t630 _ A8.out).mono ?_
 rintro e w27 ⟨rfl, hb⟩
 refine ⟨_, rfl, ?_⟩
 replace BK618 := Aside0.mk (bk0 BK618.out hb)
 replace BK619 := Aside0.mk (bk0 BK619.out hb)
 replace BK620 := Aside0.mk (bk0 BK620.out hb)
 replace HB := Aside0.mk (bs HB.out hb)
 (try clear hb)
 (try clear hb2)
 (try clear hk)
 (try clear hi)
 refine hK.out _ _ ⟨(blk_cell BK618.out 0).trans rfl, (blk_cell BK618.out 1).trans rfl, (blk_cell BK618.out 2).trans rfl, (blk_cell BK619.out 0).trans rfl, (blk_cell BK619.out 1).trans rfl, (blk_cell BK619.out 2).trans rfl⟩ (fun hHeld => ?_)
 clear hK K
 refine norm_ (a' := ?_) ?_ ?_
 rotate_left
 ·show Act.put _ (some 23) _ = _
  simp only [Act.put, List.setIfInBounds_toArray, List.set_cons_zero, List.set_cons_succ, i64_w, i32_w]
  rfl
 refine one_ (i := 15) (N := some 24) #[true, true, true, true, true, true, true, true, true, true, true, true, true, true, true, true, false] rfl rfl (one_of HT_.out (by kernel_rfl)) (by decide) (fun K hK => ?_)
 refine goes_ Tryd.func30 (by kernel_rfl) rfl #[.bool (t621 != t624), .string t627, .string t630] (by rfl) rfl rfl (by (try simp only [List.map_toArray, List.map_cons, List.map_nil]); first | done | rfl | (simp only [List.length_drop, List.length_take]; rfl)) ?_
 with_reducible refine (rational_reduced.calls k (t621 != t624) t627 t630 t631 t632 t633 _ A9.out).mono ?_
 rintro e w28 ⟨rfl, hb⟩
 refine ⟨_, rfl, ?_⟩
 replace BK618 := Aside0.mk (bk0 BK618.out hb)
 replace BK619 := Aside0.mk (bk0 BK619.out hb)
 replace BK620 := Aside0.mk (bk0 BK620.out hb)
 replace HB := Aside0.mk (bs HB.out hb)
 (try clear hb)
 (try clear hb2)
 (try clear hk)
 (try clear hi)
 refine hK.out _ _ ⟨(blk_cell BK618.out 0).trans rfl, (blk_cell BK618.out 1).trans rfl, (blk_cell BK618.out 2).trans rfl, (blk_cell BK619.out 0).trans rfl, (blk_cell BK619.out 1).trans rfl, (blk_cell BK619.out 2).trans rfl⟩ (fun hHeld => ?_)
 clear hK K
 refine norm_ (a' := ?_) ?_ ?_
 rotate_left
 ·show Act.put _ (some 24) _ = _
  simp only [Act.put, List.setIfInBounds_toArray, List.set_cons_zero, List.set_cons_succ, i64_w, i32_w]
  rfl
 refine one_ (i := 16) (N := none) #[true, true, true, true, true, true, true, true, true, true, true, true, true, true, true, true, true] rfl rfl (one_of HT_.out (by kernel_rfl)) (by decide) (fun K hK => ?_)
 have hs29 : w28.cell? ⟨gb620, 0, none⟩ = some (.bool false) := (blk_cell BK620.out 0).trans rfl
 have hfs29 := blk_frozen BK620.out 0
 have hns29_0 := NB618_620.out
 have hns29_1 := NB619_620.out
 have hms29_0 := NB620_618.out
 have hms29_1 := NB620_619.out
 have hs30 : w28.cell? ⟨gb620, 1, none⟩ = some (.string (⟨#[]⟩ : ByteArray)) := (blk_cell BK620.out 1).trans rfl
 have hfs30 := blk_frozen BK620.out 1
 have hns30_0 := NB618_620.out
 have hns30_1 := NB619_620.out
 have hms30_0 := NB620_618.out
 have hms30_1 := NB620_619.out
 have hs31 : w28.cell? ⟨gb620, 2, none⟩ = some (.string (⟨#[]⟩ : ByteArray)) := (blk_cell BK620.out 2).trans rfl
 have hfs31 := blk_frozen BK620.out 2
 have hns31_0 := NB618_620.out
 have hns31_1 := NB619_620.out
 have hms31_0 := NB620_618.out
 have hms31_1 := NB620_619.out
 refine skip_ (w1 := ?_) (by rfl) rfl ?_ ?_
 rotate_left
 ·go_simp
  rfl
 refine hK.out _ _ ⟨((cell_far (p := ⟨gb620, _, none⟩) NB618_620.out _).trans (((cell_far (p := ⟨gb620, _, none⟩) NB618_620.out _).trans (((cell_far (p := ⟨gb620, _, none⟩) NB618_620.out _).trans (hHeld.1)))))), ((cell_far (p := ⟨gb620, _, none⟩) NB618_620.out _).trans (((cell_far (p := ⟨gb620, _, none⟩) NB618_620.out _).trans (((cell_far (p := ⟨gb620, _, none⟩) NB618_620.out _).trans (hHeld.2.1)))))), ((cell_far (p := ⟨gb620, _, none⟩) NB618_620.out _).trans (((cell_far (p := ⟨gb620, _, none⟩) NB618_620.out _).trans (((cell_far (p := ⟨gb620, _, none⟩) NB618_620.out _).trans (hHeld.2.2.1)))))), ((cell_far (p := ⟨gb620, _, none⟩) NB619_620.out _).trans (((cell_far (p := ⟨gb620, _, none⟩) NB619_620.out _).trans (((cell_far (p := ⟨gb620, _, none⟩) NB619_620.out _).trans (hHeld.2.2.2.1)))))), ((cell_far (p := ⟨gb620, _, none⟩) NB619_620.out _).trans (((cell_far (p := ⟨gb620, _, none⟩) NB619_620.out _).trans (((cell_far (p := ⟨gb620, _, none⟩) NB619_620.out _).trans (hHeld.2.2.2.2.1)))))), ((cell_far (p := ⟨gb620, _, none⟩) NB619_620.out _).trans (((cell_far (p := ⟨gb620, _, none⟩) NB619_620.out _).trans (((cell_far (p := ⟨gb620, _, none⟩) NB619_620.out _).trans (hHeld.2.2.2.2.2))))))⟩ (fun hHeld => ?_)
 clear hK K
 refine done_ (done_of HT_.out (by kernel_rfl)) ?_
 try go_wp2
 refine bodyPost_ret (results_cell_row rfl _ _ gb620 23 #[.bool t631, .string t632, .string t633] (0, 0) _ rfl (bq BK620.out) Tryd.underlying23 rfl (by kernel_rfl)) rfl ?_
 exact ⟨fe, bz HB.out⟩

/-! ### rational_Sign: function 19 -/
def rational_Sign.f (k : Nat) (a0_0 : Bool) (a0_1 : ByteArray) (a0_2 : ByteArray) : Option (Int) := (rational_clean.f k a0_0 a0_1 a0_2).bind fun bt635 => ((rational_signOf.f bt635.1 bt635.2.1 bt635.2.2).bind fun t638 => (some t638))
theorem rational_Sign.mono : ∀ a0 a1 a2 k, LeO (rational_Sign.f k a0 a1 a2) (rational_Sign.f (k + 1) a0 a1 a2) := by
 intro a0 a1 a2 k
 unfold rational_Sign.f
 repeat' first
   | (with_reducible exact rational_clean.mono _ _ _ _)
   | (with_reducible exact LeO.refl _)
   | (with_reducible exact LeO.none _)
   | (with_reducible refine LeO.ite ?_ ?_)
   | (with_reducible refine LeO.bind ?_ (fun _ => ?_))
   | exact rational_clean.mono _ _ _ _
   | exact LeO.none _
   | refine LeO.ite ?_ ?_
   | refine LeO.bind ?_ (fun _ => ?_)
set_option maxHeartbeats 8000000 in
set_option maxRecDepth 100000 in
theorem rational_Sign.calls (k : Nat) (a0_0 : Bool) (a0_1 : ByteArray) (a0_2 : ByteArray) (r : Int) (w : World) (h : rational_Sign.f k a0_0 a0_1 a0_2 = some r) :
  Calls Tryd.prog 19 #[.agg #[.bool a0_0, .string a0_1, .string a0_2]] w fun e w' => e = .returned (.int .i64 r) ∧ Below w.heap.size w w' := by
 have hu23 := Tryd.underlying23
 have HB := Aside0.mk (Below.refl w.heap.size w)
 have H := h
 clear h
 unfold rational_Sign.f at H
 obtain ⟨⟨t635, t636, t637⟩, A2, H⟩ := bs1 H; dsimp only at H
 obtain ⟨t638, A3, H⟩ := bs1 H
 obtain rfl := Option.some.inj H
 go_enter Tryd.func19, Tryd.ntmps19
 go_wp2_with (first | ((with_reducible refine gd 1 rfl ?_); refine bx 1 (#[.bool a0_0, .string a0_1, .string a0_2]) 23 ?_; intro gb634 hg w4 hbox hb; have BK634 := Aside0.mk (hbox); have GW634 := sg hg HB.out; have GE634 := sg hg HB.out; replace HB := Aside0.mk (bs HB.out hb); clear hb hbox hg; obtain ⟨hcz5_0, hcz5_1, hcz5_2, hfz5_0, hfz5_1, hfz5_2⟩ := c3 BK634.out) | ((with_reducible refine gc 34 rfl ?_); refine gl (some 4) Tryd.func34 #[.agg #[.bool a0_0, .string a0_1, .string a0_2]] ?_; (with_reducible refine (rational_clean.calls k a0_0 a0_1 a0_2 t635 t636 t637 _ A2.out).mono ?_); rintro e w6 ⟨rfl, hb⟩; refine ⟨_, rfl, ?_⟩; replace BK634 := Aside0.mk (bk0 BK634.out hb); replace HB := Aside0.mk (bs HB.out hb); (try clear hb)) | ((with_reducible refine gc 38 rfl ?_); refine gl (some 5) Tryd.func38 #[.agg #[.bool t635, .string t636, .string t637]] ?_; (with_reducible refine (rational_signOf.calls t635 t636 t637 t638 _ A3.out).mono ?_); rintro e w7 ⟨rfl, hb⟩; refine ⟨_, rfl, ?_⟩; replace BK634 := Aside0.mk (bk0 BK634.out hb); replace HB := Aside0.mk (bs HB.out hb); (try clear hb)))
 go_ret
 exact ⟨fe, bz HB.out⟩

end Go.Proofs.YtgepdnoaemeofaaDoor.E
