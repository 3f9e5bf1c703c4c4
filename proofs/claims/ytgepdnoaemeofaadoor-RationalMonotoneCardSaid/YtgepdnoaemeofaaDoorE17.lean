/- Printed by a program of this session (wip/tools) out of the translation: plain functions and the proofs that the code comes to their answers. -/
import Derived.Test.YtgepdnoaemeofaaDoorK
import Derived.Test.YtgepdnoaemeofaaDoorE0
import Derived.Test.YtgepdnoaemeofaaDoorE11
import Derived.Test.YtgepdnoaemeofaaDoorE16
namespace Go.Proofs.YtgepdnoaemeofaaDoor.E
open Go.RowKit Go.Proofs.YtgepdnoaemeofaaDoorW.PrintWords Go.Proofs.YtgepdnoaemeofaaDoorW.PrintLast Go.Proofs.YtgepdnoaemeofaaDoorW.PrintMore Go.Proofs.YtgepdnoaemeofaaDoorW.PK
attribute [local go_sem] max2_int min2_int max_two min_two max_three min_three max_four min_four   -- for this text's walks alone
set_option linter.unusedVariables false
set_option linter.unusedSimpArgs false

/-! ### rational_Subtract: function 15 -/
def rational_Subtract.f (k : Nat) (a0_0 : Bool) (a0_1 : ByteArray) (a0_2 : ByteArray) (a1_0 : Bool) (a1_1 : ByteArray) (a1_2 : ByteArray) : Option (Bool × ByteArray × ByteArray) := (rational_clean.f k a0_0 a0_1 a0_2).bind fun bt526 => ((rational_clean.f k a1_0 a1_1 a1_2).bind fun bt529 => ((rational_negate.f bt529.1 bt529.2.1 bt529.2.2).bind fun bt532 => ((rational_add.f k bt526.1 bt526.2.1 bt526.2.2 bt532.1 bt532.2.1 bt532.2.2).bind fun bt535 => (some (bt535.1, bt535.2.1, bt535.2.2)))))
theorem rational_Subtract.mono : ∀ a0 a1 a2 a3 a4 a5 k, LeO (rational_Subtract.f k a0 a1 a2 a3 a4 a5) (rational_Subtract.f (k + 1) a0 a1 a2 a3 a4 a5) := by
 intro a0 a1 a2 a3 a4 a5 k
 unfold rational_Subtract.f
 repeat' first
   | (with_reducible exact rational_add.mono _ _ _ _ _ _ _)
   | (with_reducible exact rational_clean.mono _ _ _ _)
   | (with_reducible exact LeO.refl _)
   | (with_reducible exact LeO.none _)
   | (with_reducible refine LeO.ite ?_ ?_)
   | (with_reducible refine LeO.bind ?_ (fun _ => ?_))
   | exact rational_add.mono _ _ _ _ _ _ _
   | exact rational_clean.mono _ _ _ _
   | exact LeO.none _
   | refine LeO.ite ?_ ?_
   | refine LeO.bind ?_ (fun _ => ?_)
set_option maxHeartbeats 8000000 in
set_option maxRecDepth 100000 in
theorem rational_Subtract.calls (k : Nat) (a0_0 : Bool) (a0_1 : ByteArray) (a0_2 : ByteArray) (a1_0 : Bool) (a1_1 : ByteArray) (a1_2 : ByteArray) (r1 : Bool) (r2 : ByteArray) (r3 : ByteArray) (w : World) (h : rational_Subtract.f k a0_0 a0_1 a0_2 a1_0 a1_1 a1_2 = some (r1, r2, r3)) :
  Calls Tryd.prog 15 #[.agg #[.bool a0_0, .string a0_1, .string a0_2], .agg #[.bool a1_0, .string a1_1, .string a1_2]] w fun e w' => e = .returned (.agg #[.bool r1, .string r2, .string r3]) ∧ Below w.heap.size w w' := by
 have hu23 := Tryd.underlying23
 have HB := Aside0.mk (Below.refl w.heap.size w)
 have H := h
 clear h
 unfold rational_Subtract.f at H
 obtain ⟨⟨t526, t527, t528⟩, A3, H⟩ := bs1 H; dsimp only at H
 obtain ⟨⟨t529, t530, t531⟩, A4, H⟩ := bs1 H; dsimp only at H
 obtain ⟨⟨t532, t533, t534⟩, A5, H⟩ := bs1 H; dsimp only at H
 obtain ⟨⟨t535, t536, t537⟩, A6, H⟩ := bs1 H; dsimp only at H
 simp only [Option.some.injEq, Prod.mk.injEq] at H
 obtain ⟨rfl, rfl, rfl⟩ := H
 go_enter Tryd.func15, Tryd.ntmps15
 try go_wp2_with (first | ((with_reducible refine gd 2 rfl ?_); refine bx 2 (#[.bool a0_0, .string a0_1, .string a0_2]) 23 ?_; intro gb523 hg w7 hbox hb; have BK523 := Aside0.mk (hbox); have GW523 := sg hg HB.out; have GE523 := sg hg HB.out; replace HB := Aside0.mk (bs HB.out hb); clear hb hbox hg) | ((with_reducible refine gd 3 rfl ?_); refine bx 3 (#[.bool a1_0, .string a1_1, .string a1_2]) 23 ?_; intro gb524 hg w8 hbox hb; have BK524 := Aside0.mk (hbox); have GW524 := sg hg HB.out; have GE524 := sg hg HB.out; replace HB := Aside0.mk (bs HB.out hb); have NB523_524 := nl hg BK523.out; have NB524_523 := nr hg BK523.out; replace BK523 := Aside0.mk (bk0 BK523.out hb); clear hb hbox hg) | ((with_reducible refine gd 4 rfl ?_); refine bx 4 (#[.bool false, .string (⟨#[]⟩ : ByteArray), .string (⟨#[]⟩ : ByteArray)]) 23 ?_; intro gb525 hg w9 hbox hb; have BK525 := Aside0.mk (hbox); have GW525 := sg hg HB.out; have GE525 := sg hg HB.out; replace HB := Aside0.mk (bs HB.out hb); have NB523_525 := nl hg BK523.out; have NB525_523 := nr hg BK523.out; replace BK523 := Aside0.mk (bk0 BK523.out hb); have NB524_525 := nl hg BK524.out; have NB525_524 := nr hg BK524.out; replace BK524 := Aside0.mk (bk0 BK524.out hb); clear hb hbox hg))
 replace BK523 := Aside0.mk (blk_drew BK523.out)
 replace BK524 := Aside0.mk (blk_drew BK524.out)
 replace BK525 := Aside0.mk (blk_drew BK525.out)
 replace HB := Aside0.mk (below_drew1 HB.out)
 refine start_ (n := 7) (S := fun w' => w'.cell? ⟨gb523, 0, none⟩ = some (.bool a0_0) ∧ w'.cell? ⟨gb523, 1, none⟩ = some (.string a0_1) ∧ w'.cell? ⟨gb523, 2, none⟩ = some (.string a0_2) ∧ w'.cell? ⟨gb524, 0, none⟩ = some (.bool a1_0) ∧ w'.cell? ⟨gb524, 1, none⟩ = some (.string a1_1) ∧ w'.cell? ⟨gb524, 2, none⟩ = some (.string a1_2)) (ds := []) #[false, false, false, false, false, false, false] (by kernel_rfl) rfl rfl ⟨(blk_cell BK523.out 0).trans rfl, (blk_cell BK523.out 1).trans rfl, (blk_cell BK523.out 2).trans rfl, (blk_cell BK524.out 0).trans rfl, (blk_cell BK524.out 1).trans rfl, (blk_cell BK524.out 2).trans rfl⟩ (fun hHeld => ?_)
 generalize w9.drew = w10 at BK523 BK524 BK525 HB hHeld ⊢
 refine take_ (i := 0) (N := some 5) (v := ?_) (a' := ?_) #[true, false, false, false, false, false, false] rfl rfl (by kernel_rfl) (fun _ _ _ h => h) (Or.inl ⟨by rfl, ?_⟩) hHeld ?_ ?_
 rotate_left
 ·rintro w' ⟨s0, s1, s2, s3, s4, s5⟩
  go_simp
  with_reducible rfl
 rotate_left
 ·simp only [Act.put, List.setIfInBounds_toArray, List.set_cons_zero, List.set_cons_succ, i64_w, i32_w]
  rfl
 refine take_ (i := 2) (N := some 7) (v := ?_) (a' := ?_) #[true, false, true, false, false, false, false] rfl rfl (by kernel_rfl) (fun _ _ _ h => h) (Or.inl ⟨by rfl, ?_⟩) hHeld ?_ ?_
 rotate_left
 ·rintro w' ⟨s0, s1, s2, s3, s4, s5⟩
  go_simp
  with_reducible rfl
 rotate_left
 ·simp only [Act.put, List.setIfInBounds_toArray, List.set_cons_zero, List.set_cons_succ, i64_w, i32_w]
  rfl
 refine one_ (i := 1) (N := some 6) #[true, true, true, false, false, false, false] rfl rfl (by kernel_rfl) (by decide) (fun K hK => ?_)
 refine goes_ Tryd.func34 (by kernel_rfl) rfl #[.agg #[.bool a0_0, .string a0_1, .string a0_2]] (by rfl) rfl rfl (by (try simp only [List.map_toArray, List.map_cons, List.map_nil]); first | done | rfl | (simp only [List.length_drop, List.length_take]; rfl)) ?_
 with_reducible refine (rational_clean.calls k a0_0 a0_1 a0_2 t526 t527 t528 _ A3.out).mono ?_
 rintro e w11 ⟨rfl, hb⟩
 refine ⟨_, rfl, ?_⟩
 replace BK523 := Aside0.mk (bk0 BK523.out hb)
 replace BK524 := Aside0.mk (bk0 BK524.out hb)
 replace BK525 := Aside0.mk (bk0 BK525.out hb)
 replace HB := Aside0.mk (bs HB.out hb)
 (try clear hb)
 (try clear hb2)
 (try clear hk)
 (try clear hi)
 refine hK.out _ _ ⟨(blk_cell BK523.out 0).trans rfl, (blk_cell BK523.out 1).trans rfl, (blk_cell BK523.out 2).trans rfl, (blk_cell BK524.out 0).trans rfl, (blk_cell BK524.out 1).trans rfl, (blk_cell BK524.out 2).trans rfl⟩ (fun hHeld => ?_)
 clear hK K
 refine norm_ (a' := ?_) ?_ ?_
 rotate_left
 ·show Act.put _ (some 6) _ = _
  simp only [Act.put, List.setIfInBounds_toArray, List.set_cons_zero, List.set_cons_succ, i64_w, i32_w]
  rfl
 refine one_ (i := 3) (N := some 8) #[true, true, true, true, false, false, false] rfl rfl (by kernel_rfl) (by decide) (fun K hK => ?_)
 refine goes_ Tryd.func34 (by kernel_rfl) rfl #[.agg #[.bool a1_0, .string a1_1, .string a1_2]] (by rfl) rfl rfl (by (try simp only [List.map_toArray, List.map_cons, List.map_nil]); first | done | rfl | (simp only [List.length_drop, List.length_take]; rfl)) ?_
 with_reducible refine (rational_clean.calls k a1_0 a1_1 a1_2 t529 t530 t531 _ A4.out).mono ?_
 rintro e w12 ⟨rfl, hb⟩
 refine ⟨_, rfl, ?_⟩
 replace BK523 := Aside0.mk (bk0 BK523.out hb)
 replace BK524 := Aside0.mk (bk0 BK524.out hb)
 replace BK525 := Aside0.mk (bk0 BK525.out hb)
 replace HB := Aside0.mk (bs HB.out hb)
 (try clear hb)
 (try clear hb2)
 (try clear hk)
 (try clear hi)
 refine hK.out _ _ ⟨(blk_cell BK523.out 0).trans rfl, (blk_cell BK523.out 1).trans rfl, (blk_cell BK523.out 2).trans rfl, (blk_cell BK524.out 0).trans rfl, (blk_cell BK524.out 1).trans rfl, (blk_cell BK524.out 2).trans rfl⟩ (fun hHeld => ?_)
 clear hK K
 refine norm_ (a' := ?_) ?_ ?_
 rotate_left
 ·show Act.put _ (some 8) _ = _
  simp only [Act.put, List.setIfInBounds_toArray, List.set_cons_zero, List.set_cons_succ, i64_w, i32_w]
  rfl
 refine one_ (i := 4) (N := some 9) #[true, true, true, true, true, false, false] rfl rfl (by kernel_rfl) (by decide) (fun K hK => ?_)
 refine goes_ Tryd.func37 (by kernel_rfl) rfl #[.agg #[.bool t529, .string t530, .string t531]] (by rfl) rfl rfl (by (try simp only [List.map_toArray, List.map_cons, List.map_nil]); first | done | rfl | (simp only [List.length_drop, List.length_take]; rfl)) ?_
 with_reducible refine (rational_negate.calls t529 t530 t531 t532 t533 t534 _ A5.out).mono ?_
 rintro e w13 ⟨rfl, hb⟩
 refine ⟨_, rfl, ?_⟩
 replace BK523 := Aside0.mk (bk0 BK523.out hb)
 replace BK524 := Aside0.mk (bk0 BK524.out hb)
 replace BK525 := Aside0.mk (bk0 BK525.out hb)
 replace HB := Aside0.mk (bs HB.out hb)
 (try clear hb)
 (try clear hb2)
 (try clear hk)
 (try clear hi)
 refine hK.out _ _ ⟨(blk_cell BK523.out 0).trans rfl, (blk_cell BK523.out 1).trans rfl, (blk_cell BK523.out 2).trans rfl, (blk_cell BK524.out 0).trans rfl, (blk_cell BK524.out 1).trans rfl, (blk_cell BK524.out 2).trans rfl⟩ (fun hHeld => ?_)
 clear hK K
 refine norm_ (a' := ?_) ?_ ?_
 rotate_left
 ·show Act.put _ (some 9) _ = _
  simp only [Act.put, List.setIfInBounds_toArray, List.set_cons_zero, List.set_cons_succ, i64_w, i32_w]
  rfl
 refine one_ (i := 5) (N := some 10) #[true, true, true, true, true, true, false] rfl rfl (by kernel_rfl) (by decide) (fun K hK => ?_)
 refine goes_ Tryd.func36 (by kernel_rfl) rfl #[.agg #[.bool t526, .string t527, .string t528], .agg #[.bool t532, .string t533, .string t534]] (by rfl) rfl rfl (by (try simp only [List.map_toArray, List.map_cons, List.map_nil]); first | done | rfl | (simp only [List.length_drop, List.length_take]; rfl)) ?_
 with_reducible refine (rational_add.calls k t526 t527 t528 t532 t533 t534 t535 t536 t537 _ A6.out).mono ?_
 rintro e w14 ⟨rfl, hb⟩
 refine ⟨_, rfl, ?_⟩
 replace BK523 := Aside0.mk (bk0 BK523.out hb)
 replace BK524 := Aside0.mk (bk0 BK524.out hb)
 replace BK525 := Aside0.mk (bk0 BK525.out hb)
 replace HB := Aside0.mk (bs HB.out hb)
 (try clear hb)
 (try clear hb2)
 (try clear hk)
 (try clear hi)
 refine hK.out _ _ ⟨(blk_cell BK523.out 0).trans rfl, (blk_cell BK523.out 1).trans rfl, (blk_cell BK523.out 2).trans rfl, (blk_cell BK524.out 0).trans rfl, (blk_cell BK524.out 1).trans rfl, (blk_cell BK524.out 2).trans rfl⟩ (fun hHeld => ?_)
 clear hK K
 refine norm_ (a' := ?_) ?_ ?_
 rotate_left
 ·show Act.put _ (some 10) _ = _
  simp only [Act.put, List.setIfInBounds_toArray, List.set_cons_zero, List.set_cons_succ, i64_w, i32_w]
  rfl
 refine one_ (i := 6) (N := none) #[true, true, true, true, true, true, true] rfl rfl (by kernel_rfl) (by decide) (fun K hK => ?_)
 have hs15 : w14.cell? ⟨gb525, 0, none⟩ = some (.bool false) := (blk_cell BK525.out 0).trans rfl
 have hfs15 := blk_frozen BK525.out 0
 have hns15_0 := NB523_525.out
 have hns15_1 := NB524_525.out
 have hms15_0 := NB525_523.out
 have hms15_1 := NB525_524.out
 have hs16 : w14.cell? ⟨gb525, 1, none⟩ = some (.string (⟨#[]⟩ : ByteArray)) := (blk_cell BK525.out 1).trans rfl
 have hfs16 := blk_frozen BK525.out 1
 have hns16_0 := NB523_525.out
 have hns16_1 := NB524_525.out
 have hms16_0 := NB525_523.out
 have hms16_1 := NB525_524.out
 have hs17 : w14.cell? ⟨gb525, 2, none⟩ = some (.string (⟨#[]⟩ : ByteArray)) := (blk_cell BK525.out 2).trans rfl
 have hfs17 := blk_frozen BK525.out 2
 have hns17_0 := NB523_525.out
 have hns17_1 := NB524_525.out
 have hms17_0 := NB525_523.out
 have hms17_1 := NB525_524.out
 refine skip_ (w1 := ?_) (by rfl) rfl ?_ ?_
 rotate_left
 ·go_simp
  rfl
 refine hK.out _ _ ⟨((cell_far (p := ⟨gb525, _, none⟩) NB523_525.out _).trans (((cell_far (p := ⟨gb525, _, none⟩) NB523_525.out _).trans (((cell_far (p := ⟨gb525, _, none⟩) NB523_525.out _).trans (hHeld.1)))))), ((cell_far (p := ⟨gb525, _, none⟩) NB523_525.out _).trans (((cell_far (p := ⟨gb525, _, none⟩) NB523_525.out _).trans (((cell_far (p := ⟨gb525, _, none⟩) NB523_525.out _).trans (hHeld.2.1)))))), ((cell_far (p := ⟨gb525, _, none⟩) NB523_525.out _).trans (((cell_far (p := ⟨gb525, _, none⟩) NB523_525.out _).trans (((cell_far (p := ⟨gb525, _, none⟩) NB523_525.out _).trans (hHeld.2.2.1)))))), ((cell_far (p := ⟨gb525, _, none⟩) NB524_525.out _).trans (((cell_far (p := ⟨gb525, _, none⟩) NB524_525.out _).trans (((cell_far (p := ⟨gb525, _, none⟩) NB524_525.out _).trans (hHeld.2.2.2.1)))))), ((cell_far (p := ⟨gb525, _, none⟩) NB524_525.out _).trans (((cell_far (p := ⟨gb525, _, none⟩) NB524_525.out _).trans (((cell_far (p := ⟨gb525, _, none⟩) NB524_525.out _).trans (hHeld.2.2.2.2.1)))))), ((cell_far (p := ⟨gb525, _, none⟩) NB524_525.out _).trans (((cell_far (p := ⟨gb525, _, none⟩) NB524_525.out _).trans (((cell_far (p := ⟨gb525, _, none⟩) NB524_525.out _).trans (hHeld.2.2.2.2.2))))))⟩ (fun hHeld => ?_)
 clear hK K
 refine done_ (by kernel_rfl) ?_
 try go_wp2
 refine bodyPost_ret (results_cell_row rfl _ _ gb525 23 #[.bool t535, .string t536, .string t537] (0, 0) _ rfl (bq BK525.out) Tryd.underlying23 rfl (by kernel_rfl)) rfl ?_
 exact ⟨fe, bz HB.out⟩

/-! ### rational_Add: function 16 -/
def rational_Add.f (k : Nat) (a0_0 : Bool) (a0_1 : ByteArray) (a0_2 : ByteArray) (a1_0 : Bool) (a1_1 : ByteArray) (a1_2 : ByteArray) : Option (Bool × ByteArray × ByteArray) := (rational_clean.f k a0_0 a0_1 a0_2).bind fun bt541 => ((rational_clean.f k a1_0 a1_1 a1_2).bind fun bt544 => ((rational_add.f k bt541.1 bt541.2.1 bt541.2.2 bt544.1 bt544.2.1 bt544.2.2).bind fun bt547 => (some (bt547.1, bt547.2.1, bt547.2.2))))
theorem rational_Add.mono : ∀ a0 a1 a2 a3 a4 a5 k, LeO (rational_Add.f k a0 a1 a2 a3 a4 a5) (rational_Add.f (k + 1) a0 a1 a2 a3 a4 a5) := by
 intro a0 a1 a2 a3 a4 a5 k
 unfold rational_Add.f
 repeat' first
   | (with_reducible exact rational_add.mono _ _ _ _ _ _ _)
   | (with_reducible exact rational_clean.mono _ _ _ _)
   | (with_reducible exact LeO.refl _)
   | (with_reducible exact LeO.none _)
   | (with_reducible refine LeO.ite ?_ ?_)
   | (with_reducible refine LeO.bind ?_ (fun _ => ?_))
   | exact rational_add.mono _ _ _ _ _ _ _
   | exact rational_clean.mono _ _ _ _
   | exact LeO.none _
   | refine LeO.ite ?_ ?_
   | refine LeO.bind ?_ (fun _ => ?_)
set_option maxHeartbeats 8000000 in
set_option maxRecDepth 100000 in
theorem rational_Add.calls (k : Nat) (a0_0 : Bool) (a0_1 : ByteArray) (a0_2 : ByteArray) (a1_0 : Bool) (a1_1 : ByteArray) (a1_2 : ByteArray) (r1 : Bool) (r2 : ByteArray) (r3 : ByteArray) (w : World) (h : rational_Add.f k a0_0 a0_1 a0_2 a1_0 a1_1 a1_2 = some (r1, r2, r3)) :
  Calls Tryd.prog 16 #[.agg #[.bool a0_0, .string a0_1, .string a0_2], .agg #[.bool a1_0, .string a1_1, .string a1_2]] w fun e w' => e = .returned (.agg #[.bool r1, .string r2, .string r3]) ∧ Below w.heap.size w w' := by
 have hu23 := Tryd.underlying23
 have HB := Aside0.mk (Below.refl w.heap.size w)
 have H := h
 clear h
 unfold rational_Add.f at H
 obtain ⟨⟨t541, t542, t543⟩, A3, H⟩ := bs1 H; dsimp only at H
 obtain ⟨⟨t544, t545, t546⟩, A4, H⟩ := bs1 H; dsimp only at H
 obtain ⟨⟨t547, t548, t549⟩, A5, H⟩ := bs1 H; dsimp only at H
 simp only [Option.some.injEq, Prod.mk.injEq] at H
 obtain ⟨rfl, rfl, rfl⟩ := H
 go_enter Tryd.func16, Tryd.ntmps16
 try go_wp2_with (first | ((with_reducible refine gd 2 rfl ?_); refine bx 2 (#[.bool a0_0, .string a0_1, .string a0_2]) 23 ?_; intro gb538 hg w6 hbox hb; have BK538 := Aside0.mk (hbox); have GW538 := sg hg HB.out; have GE538 := sg hg HB.out; replace HB := Aside0.mk (bs HB.out hb); clear hb hbox hg) | ((with_reducible refine gd 3 rfl ?_); refine bx 3 (#[.bool a1_0, .string a1_1, .string a1_2]) 23 ?_; intro gb539 hg w7 hbox hb; have BK539 := Aside0.mk (hbox); have GW539 := sg hg HB.out; have GE539 := sg hg HB.out; replace HB := Aside0.mk (bs HB.out hb); have NB538_539 := nl hg BK538.out; have NB539_538 := nr hg BK538.out; replace BK538 := Aside0.mk (bk0 BK538.out hb); clear hb hbox hg) | ((with_reducible refine gd 4 rfl ?_); refine bx 4 (#[.bool false, .string (⟨#[]⟩ : ByteArray), .string (⟨#[]⟩ : ByteArray)]) 23 ?_; intro gb540 hg w8 hbox hb; have BK540 := Aside0.mk (hbox); have GW540 := sg hg HB.out; have GE540 := sg hg HB.out; replace HB := Aside0.mk (bs HB.out hb); have NB538_540 := nl hg BK538.out; have NB540_538 := nr hg BK538.out; replace BK538 := Aside0.mk (bk0 BK538.out hb); have NB539_540 := nl hg BK539.out; have NB540_539 := nr hg BK539.out; replace BK539 := Aside0.mk (bk0 BK539.out hb); clear hb hbox hg))
 replace BK538 := Aside0.mk (blk_drew BK538.out)
 replace BK539 := Aside0.mk (blk_drew BK539.out)
 replace BK540 := Aside0.mk (blk_drew BK540.out)
 replace HB := Aside0.mk (below_drew1 HB.out)
 refine start_ (n := 6) (S := fun w' => w'.cell? ⟨gb538, 0, none⟩ = some (.bool a0_0) ∧ w'.cell? ⟨gb538, 1, none⟩ = some (.string a0_1) ∧ w'.cell? ⟨gb538, 2, none⟩ = some (.string a0_2) ∧ w'.cell? ⟨gb539, 0, none⟩ = some (.bool a1_0) ∧ w'.cell? ⟨gb539, 1, none⟩ = some (.string a1_1) ∧ w'.cell? ⟨gb539, 2, none⟩ = some (.string a1_2)) (ds := []) #[false, false, false, false, false, false] (by kernel_rfl) rfl rfl ⟨(blk_cell BK538.out 0).trans rfl, (blk_cell BK538.out 1).trans rfl, (blk_cell BK538.out 2).trans rfl, (blk_cell BK539.out 0).trans rfl, (blk_cell BK539.out 1).trans rfl, (blk_cell BK539.out 2).trans rfl⟩ (fun hHeld => ?_)
 generalize w8.drew = w9 at BK538 BK539 BK540 HB hHeld ⊢
 refine take_ (i := 0) (N := some 5) (v := ?_) (a' := ?_) #[true, false, false, false, false, false] rfl rfl (by kernel_rfl) (fun _ _ _ h => h) (Or.inl ⟨by rfl, ?_⟩) hHeld ?_ ?_
 rotate_left
 ·rintro w' ⟨s0, s1, s2, s3, s4, s5⟩
  go_simp
  with_reducible rfl
 rotate_left
 ·simp only [Act.put, List.setIfInBounds_toArray, List.set_cons_zero, List.set_cons_succ, i64_w, i32_w]
  rfl
 refine take_ (i := 2) (N := some 7) (v := ?_) (a' := ?_) #[true, false, true, false, false, false] rfl rfl (by kernel_rfl) (fun _ _ _ h => h) (Or.inl ⟨by rfl, ?_⟩) hHeld ?_ ?_
 rotate_left
 ·rintro w' ⟨s0, s1, s2, s3, s4, s5⟩
  go_simp
  with_reducible rfl
 rotate_left
 ·simp only [Act.put, List.setIfInBounds_toArray, List.set_cons_zero, List.set_cons_succ, i64_w, i32_w]
  rfl
 refine one_ (i := 1) (N := some 6) #[true, true, true, false, false, false] rfl rfl (by kernel_rfl) (by decide) (fun K hK => ?_)
 refine goes_ Tryd.func34 (by kernel_rfl) rfl #[.agg #[.bool a0_0, .string a0_1, .string a0_2]] (by rfl) rfl rfl (by (try simp only [List.map_toArray, List.map_cons, List.map_nil]); first | done | rfl | (simp only [List.length_drop, List.length_take]; rfl)) ?_
 with_reducible refine (rational_clean.calls k a0_0 a0_1 a0_2 t541 t542 t543 _ A3.out).mono ?_
 rintro e w10 ⟨rfl, hb⟩
 refine ⟨_, rfl, ?_⟩
 replace BK538 := Aside0.mk (bk0 BK538.out hb)
 replace BK539 := Aside0.mk (bk0 BK539.out hb)
 replace BK540 := Aside0.mk (bk0 BK540.out hb)
 replace HB := Aside0.mk (bs HB.out hb)
 (try clear hb)
 (try clear hb2)
 (try clear hk)
 (try clear hi)
 refine hK.out _ _ ⟨(blk_cell BK538.out 0).trans rfl, (blk_cell BK538.out 1).trans rfl, (blk_cell BK538.out 2).trans rfl, (blk_cell BK539.out 0).trans rfl, (blk_cell BK539.out 1).trans rfl, (blk_cell BK539.out 2).trans rfl⟩ (fun hHeld => ?_)
 clear hK K
 refine norm_ (a' := ?_) ?_ ?_
 rotate_left
 ·show Act.put _ (some 6) _ = _
  simp only [Act.put, List.setIfInBounds_toArray, List.set_cons_zero, List.set_cons_succ, i64_w, i32_w]
  rfl
 refine one_ (i := 3) (N := some 8) #[true, true, true, true, false, false] rfl rfl (by kernel_rfl) (by decide) (fun K hK => ?_)
 refine goes_ Tryd.func34 (by kernel_rfl) rfl #[.agg #[.bool a1_0, .string a1_1, .string a1_2]] (by rfl) rfl rfl (by (try simp only [List.map_toArray, List.map_cons, List.map_nil]); first | done | rfl | (simp only [List.length_drop, List.length_take]; rfl)) ?_
 with_reducible refine (rational_clean.calls k a1_0 a1_1 a1_2 t544 t545 t546 _ A4.out).mono ?_
 rintro e w11 ⟨rfl, hb⟩
 refine ⟨_, rfl, ?_⟩
 replace BK538 := Aside0.mk (bk0 BK538.out hb)
 replace BK539 := Aside0.mk (bk0 BK539.out hb)
 replace BK540 := Aside0.mk (bk0 BK540.out hb)
 replace HB := Aside0.mk (bs HB.out hb)
 (try clear hb)
 (try clear hb2)
 (try clear hk)
 (try clear hi)
 refine hK.out _ _ ⟨(blk_cell BK538.out 0).trans rfl, (blk_cell BK538.out 1).trans rfl, (blk_cell BK538.out 2).trans rfl, (blk_cell BK539.out 0).trans rfl, (blk_cell BK539.out 1).trans rfl, (blk_cell BK539.out 2).trans rfl⟩ (fun hHeld => ?_)
 clear hK K
 refine norm_ (a' := ?_) ?_ ?_
 rotate_left
 ·show Act.put _ (some 8) _ = _
  simp only [Act.put, List.setIfInBounds_toArray, List.set_cons_zero, List.set_cons_succ, i64_w, i32_w]
  rfl
 refine one_ (i := 4) (N := some 9) #[true, true, true, true, true, false] rfl rfl (by kernel_rfl) (by decide) (fun K hK => ?_)
 refine goes_ Tryd.func36 (by kernel_rfl) rfl #[.agg #[.bool t541, .string t542, .string t543], .agg #[.bool t544, .string t545, .string t546]] (by rfl) rfl rfl (by (try simp only [List.map_toArray, List.map_cons, List.map_nil]); first | done | rfl | (simp only [List.length_drop, List.length_take]; rfl)) ?_
 with_reducible refine (rational_add.calls k t541 t542 t543 t544 t545 t546 t547 t548 t549 _ A5.out).mono ?_
 rintro e w12 ⟨rfl, hb⟩
 refine ⟨_, rfl, ?_⟩
 replace BK538 := Aside0.mk (bk0 BK538.out hb)
 replace BK539 := Aside0.mk (bk0 BK539.out hb)
 replace BK540 := Aside0.mk (bk0 BK540.out hb)
 replace HB := Aside0.mk (bs HB.out hb)
 (try clear hb)
 (try clear hb2)
 (try clear hk)
 (try clear hi)
 refine hK.out _ _ ⟨(blk_cell BK538.out 0).trans rfl, (blk_cell BK538.out 1).trans rfl, (blk_cell BK538.out 2).trans rfl, (blk_cell BK539.out 0).trans rfl, (blk_cell BK539.out 1).trans rfl, (blk_cell BK539.out 2).trans rfl⟩ (fun hHeld => ?_)
 clear hK K
 refine norm_ (a' := ?_) ?_ ?_
 rotate_left
 ·show Act.put _ (some 9) _ = _
  simp only [Act.put, List.setIfInBounds_toArray, List.set_cons_zero, List.set_cons_succ, i64_w, i32_w]
  rfl
 refine one_ (i := 5) (N := none) #[true, true, true, true, true, true] rfl rfl (by kernel_rfl) (by decide) (fun K hK => ?_)
 have hs13 : w12.cell? ⟨gb540, 0, none⟩ = some (.bool false) := (blk_cell BK540.out 0).trans rfl
 have hfs13 := blk_frozen BK540.out 0
 have hns13_0 := NB538_540.out
 have hns13_1 := NB539_540.out
 have hms13_0 := NB540_538.out
 have hms13_1 := NB540_539.out
 have hs14 : w12.cell? ⟨gb540, 1, none⟩ = some (.string (⟨#[]⟩ : ByteArray)) := (blk_cell BK540.out 1).trans rfl
 have hfs14 := blk_frozen BK540.out 1
 have hns14_0 := NB538_540.out
 have hns14_1 := NB539_540.out
 have hms14_0 := NB540_538.out
 have hms14_1 := NB540_539.out
 have hs15 : w12.cell? ⟨gb540, 2, none⟩ = some (.string (⟨#[]⟩ : ByteArray)) := (blk_cell BK540.out 2).trans rfl
 have hfs15 := blk_frozen BK540.out 2
 have hns15_0 := NB538_540.out
 have hns15_1 := NB539_540.out
 have hms15_0 := NB540_538.out
 have hms15_1 := NB540_539.out
 refine skip_ (w1 := ?_) (by rfl) rfl ?_ ?_
 rotate_left
 ·go_simp
  rfl
 refine hK.out _ _ ⟨((cell_far (p := ⟨gb540, _, none⟩) NB538_540.out _).trans (((cell_far (p := ⟨gb540, _, none⟩) NB538_540.out _).trans (((cell_far (p := ⟨gb540, _, none⟩) NB538_540.out _).trans (hHeld.1)))))), ((cell_far (p := ⟨gb540, _, none⟩) NB538_540.out _).trans (((cell_far (p := ⟨gb540, _, none⟩) NB538_540.out _).trans (((cell_far (p := ⟨gb540, _, none⟩) NB538_540.out _).trans (hHeld.2.1)))))), ((cell_far (p := ⟨gb540, _, none⟩) NB538_540.out _).trans (((cell_far (p := ⟨gb540, _, none⟩) NB538_540.out _).trans (((cell_far (p := ⟨gb540, _, none⟩) NB538_540.out _).trans (hHeld.2.2.1)))))), ((cell_far (p := ⟨gb540, _, none⟩) NB539_540.out _).trans (((cell_far (p := ⟨gb540, _, none⟩) NB539_540.out _).trans (((cell_far (p := ⟨gb540, _, none⟩) NB539_540.out _).trans (hHeld.2.2.2.1)))))), ((cell_far (p := ⟨gb540, _, none⟩) NB539_540.out _).trans (((cell_far (p := ⟨gb540, _, none⟩) NB539_540.out _).trans (((cell_far (p := ⟨gb540, _, none⟩) NB539_540.out _).trans (hHeld.2.2.2.2.1)))))), ((cell_far (p := ⟨gb540, _, none⟩) NB539_540.out _).trans (((cell_far (p := ⟨gb540, _, none⟩) NB539_540.out _).trans (((cell_far (p := ⟨gb540, _, none⟩) NB539_540.out _).trans (hHeld.2.2.2.2.2))))))⟩ (fun hHeld => ?_)
 clear hK K
 refine done_ (by kernel_rfl) ?_
 try go_wp2
 refine bodyPost_ret (results_cell_row rfl _ _ gb540 23 #[.bool t547, .string t548, .string t549] (0, 0) _ rfl (bq BK540.out) Tryd.underlying23 rfl (by kernel_rfl)) rfl ?_
 exact ⟨fe, bz HB.out⟩

end Go.Proofs.YtgepdnoaemeofaaDoor.E
