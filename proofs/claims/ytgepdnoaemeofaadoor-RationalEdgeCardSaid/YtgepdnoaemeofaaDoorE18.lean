/- Printed by a program of this session (wip/tools) out of the translation: plain functions and the proofs that the code comes to their answers. -/
import Derived.Test.YtgepdnoaemeofaaDoorK
import Derived.Test.YtgepdnoaemeofaaDoorE0
import Derived.Test.YtgepdnoaemeofaaDoorE14
import Derived.Test.YtgepdnoaemeofaaDoorE17
namespace Go.Proofs.YtgepdnoaemeofaaDoor.E
open Go.RowKit Go.Proofs.YtgepdnoaemeofaaDoorW.PrintWords Go.Proofs.YtgepdnoaemeofaaDoorW.PrintLast Go.Proofs.YtgepdnoaemeofaaDoorW.PrintMore Go.Proofs.YtgepdnoaemeofaaDoorW.PK
attribute [local go_sem] max2_int min2_int max_two min_two max_three min_three max_four min_four   -- for this text's walks alone
set_option linter.unusedVariables false
set_option linter.unusedSimpArgs false

/-! ### insolvencylaw2_RationalEdge: function 5 -/
def insolvencylaw2_RationalEdge.f (k : Nat) (a0 : Int) : Option (Bool) := (rational_Int.f k 1).bind fun bt550 => ((rational_Int.f k 9223372036854775807).bind fun bt554 => ((rational_Int.f k (-9223372036854775808)).bind fun bt558 => ((rational_Int.f k (wrap64 (Int.tmod a0 4))).bind fun bt562 => ((rational_Subtract.f k bt554.1 bt554.2.1 bt554.2.2 bt562.1 bt562.2.1 bt562.2.2).bind fun bt566 => ((rational_Int64.f k bt566.1 bt566.2.1 bt566.2.2).bind fun bt569 => ((rational_Add.f k bt558.1 bt558.2.1 bt558.2.2 bt562.1 bt562.2.1 bt562.2.2).bind fun bt571 => ((rational_Int64.f k bt571.1 bt571.2.1 bt571.2.2).bind fun bt574 => ((rational_Add.f k bt554.1 bt554.2.1 bt554.2.2 bt550.1 bt550.2.1 bt550.2.2).bind fun bt576 => ((rational_Add.f k bt576.1 bt576.2.1 bt576.2.2 bt562.1 bt562.2.1 bt562.2.2).bind fun bt579 => ((rational_Int64.f k bt579.1 bt579.2.1 bt579.2.2).bind fun bt582 => ((rational_Subtract.f k bt558.1 bt558.2.1 bt558.2.2 bt550.1 bt550.2.1 bt550.2.2).bind fun bt584 => ((rational_Subtract.f k bt584.1 bt584.2.1 bt584.2.2 bt562.1 bt562.2.1 bt562.2.2).bind fun bt587 => ((rational_Int64.f k bt587.1 bt587.2.1 bt587.2.2).bind fun bt590 => ((insolvencylaw2_awake.f k).bind fun t592 => (if t592 = true then (if bt569.2 = true then (if bt569.1 = (wrap64 (9223372036854775807 - (wrap64 (Int.tmod a0 4)))) then (if bt574.2 = true then (if bt574.1 = (wrap64 ((-9223372036854775808) + (wrap64 (Int.tmod a0 4)))) then (if bt582.2 = true then (some false) else (some (!bt590.2))) else (some false)) else (some false)) else (some false)) else (some false)) else (some false))))))))))))))))
theorem insolvencylaw2_RationalEdge.mono : ∀ a0 k, LeO (insolvencylaw2_RationalEdge.f k a0) (insolvencylaw2_RationalEdge.f (k + 1) a0) := by
 intro a0 k
 unfold insolvencylaw2_RationalEdge.f
 repeat' first
   | (with_reducible exact insolvencylaw2_awake.mono _)
   | (with_reducible exact rational_Add.mono _ _ _ _ _ _ _)
   | (with_reducible exact rational_Int.mono _ _)
   | (with_reducible exact rational_Int64.mono _ _ _ _)
   | (with_reducible exact rational_Subtract.mono _ _ _ _ _ _ _)
   | (with_reducible exact LeO.refl _)
   | (with_reducible exact LeO.none _)
   | (with_reducible refine LeO.ite ?_ ?_)
   | (with_reducible refine LeO.bind ?_ (fun _ => ?_))
   | exact insolvencylaw2_awake.mono _
   | exact rational_Add.mono _ _ _ _ _ _ _
   | exact rational_Int.mono _ _
   | exact rational_Int64.mono _ _ _ _
   | exact rational_Subtract.mono _ _ _ _ _ _ _
   | exact LeO.none _
   | refine LeO.ite ?_ ?_
   | refine LeO.bind ?_ (fun _ => ?_)
def insolvencylaw2_RationalEdge.T7 : Bool × List (List Nat × List Nat) := (true, [([], []), ([], []), ([0, 1], [0, 1]), ([], []), ([2, 3, 2], [2, 3]), ([4, 4], [4]), ([5], [5]), ([6], [6]), ([6], [6]), ([7, 5, 0, 1, 2, 3, 4, 5, 6, 7], [7]), ([8, 9, 0, 1, 2, 3, 4, 5, 6, 7, 8, 9], [8])])
def insolvencylaw2_RationalEdge.B7 : List Nat := [0, 0, 3, 0, 15, 31, 63, 127, 127, 255, 1023]
theorem insolvencylaw2_RationalEdge.tab7 : rtab .any (opsOf Tryd.f5 7) = insolvencylaw2_RationalEdge.T7 := by kernel_rfl
theorem insolvencylaw2_RationalEdge.bits7 : waitsOk insolvencylaw2_RationalEdge.T7.2 insolvencylaw2_RationalEdge.B7 = true := by kernel_rfl
def insolvencylaw2_RationalEdge.T8 : Bool × List (List Nat × List Nat) := (true, [([], []), ([], []), ([0, 1], [0, 1]), ([], []), ([2, 3, 2], [2, 3]), ([4, 4], [4]), ([5], [5]), ([6], [6]), ([6], [6]), ([7, 5, 0, 1, 2, 3, 4, 5, 6, 7], [7]), ([8, 9, 0, 1, 2, 3, 4, 5, 6, 7, 8, 9], [8])])
def insolvencylaw2_RationalEdge.B8 : List Nat := [0, 0, 3, 0, 15, 31, 63, 127, 127, 255, 1023]
theorem insolvencylaw2_RationalEdge.tab8 : rtab .any (opsOf Tryd.f5 8) = insolvencylaw2_RationalEdge.T8 := by kernel_rfl
theorem insolvencylaw2_RationalEdge.bits8 : waitsOk insolvencylaw2_RationalEdge.T8.2 insolvencylaw2_RationalEdge.B8 = true := by kernel_rfl
set_option maxHeartbeats 8000000 in
set_option maxRecDepth 100000 in
theorem insolvencylaw2_RationalEdge.calls (k : Nat) (a0 : Int) (r : Bool) (w : World) (h : insolvencylaw2_RationalEdge.f k a0 = some r) (hr : r = true := by first | rfl | assumption) :
  Calls Tryd.prog 5 #[.int .u8 a0] w fun e w' => e = .returned (.bool r) ∧ Below w.heap.size w w' := by
 have hu23 := Tryd.underlying23
 have HB := Aside0.mk (Below.refl w.heap.size w)
 have H := h
 clear h
 unfold insolvencylaw2_RationalEdge.f at H
 obtain ⟨⟨t550, t551, t552⟩, A2, H⟩ := bs1 H; dsimp only at H
 obtain ⟨⟨t554, t555, t556⟩, A3, H⟩ := bs1 H; dsimp only at H
 obtain ⟨⟨t558, t559, t560⟩, A4, H⟩ := bs1 H; dsimp only at H
 obtain ⟨⟨t562, t563, t564⟩, A5, H⟩ := bs1 H; dsimp only at H
 obtain ⟨⟨t566, t567, t568⟩, A6, H⟩ := bs1 H; dsimp only at H
 obtain ⟨⟨t569, t570⟩, A7, H⟩ := bs1 H; dsimp only at H
 obtain ⟨⟨t571, t572, t573⟩, A8, H⟩ := bs1 H; dsimp only at H
 obtain ⟨⟨t574, t575⟩, A9, H⟩ := bs1 H; dsimp only at H
 obtain ⟨⟨t576, t577, t578⟩, A10, H⟩ := bs1 H; dsimp only at H
 obtain ⟨⟨t579, t580, t581⟩, A11, H⟩ := bs1 H; dsimp only at H
 obtain ⟨⟨t582, t583⟩, A12, H⟩ := bs1 H; dsimp only at H
 obtain ⟨⟨t584, t585, t586⟩, A13, H⟩ := bs1 H; dsimp only at H
 obtain ⟨⟨t587, t588, t589⟩, A14, H⟩ := bs1 H; dsimp only at H
 obtain ⟨⟨t590, t591⟩, A15, H⟩ := bs1 H; dsimp only at H
 obtain ⟨t592, A16, H⟩ := bs1 H
 by_cases c17 : t592 = true
 ·subst c17
  have H1 : (if t570 = true then (if t569 = (wrap64 (9223372036854775807 - (wrap64 (Int.tmod a0 4)))) then (if t575 = true then (if t574 = (wrap64 ((-9223372036854775808) + (wrap64 (Int.tmod a0 4)))) then (if t583 = true then (some false) else (some (!t591))) else (some false)) else (some false)) else (some false)) else (some false)) = some r := by rw [if_pos rfl] at H; exact H
  clear H
  have H := H1
  clear H1
  by_cases c18 : t570 = true
  ·subst c18
   have H1 : (if t569 = (wrap64 (9223372036854775807 - (wrap64 (Int.tmod a0 4)))) then (if t575 = true then (if t574 = (wrap64 ((-9223372036854775808) + (wrap64 (Int.tmod a0 4)))) then (if t583 = true then (some false) else (some (!t591))) else (some false)) else (some false)) else (some false)) = some r := by rw [if_pos rfl] at H; exact H
   clear H
   have H := H1
   clear H1
   by_cases c19 : t569 = (wrap64 (9223372036854775807 - (wrap64 (Int.tmod a0 4))))
   ·rw [if_pos c19] at H
    have c19b0 := beq_iff_eq.mpr c19
    have c19b1 := bne_eq_false_iff_eq.mpr c19
    clear c19
    by_cases c20 : t575 = true
    ·subst c20
     have H1 : (if t574 = (wrap64 ((-9223372036854775808) + (wrap64 (Int.tmod a0 4)))) then (if t583 = true then (some false) else (some (!t591))) else (some false)) = some r := by rw [if_pos rfl] at H; exact H
     clear H
     have H := H1
     clear H1
     by_cases c21 : t574 = (wrap64 ((-9223372036854775808) + (wrap64 (Int.tmod a0 4))))
     ·rw [if_pos c21] at H
      have c21b0 := beq_iff_eq.mpr c21
      have c21b1 := bne_eq_false_iff_eq.mpr c21
      clear c21
      by_cases c22 : t583 = true
      ·subst c22
       have H1 : (some false) = some r := by rw [if_pos rfl] at H; exact H
       clear H
       have H := H1
       clear H1
       exact nf hr H
      ·replace c22 := Bool.eq_false_iff.mpr c22
       subst c22
       have H1 : (some (!t591)) = some r := by rw [if_neg (show ¬ (false = true) by decide)] at H; exact H
       clear H
       have H := H1
       clear H1
       obtain rfl := Option.some.inj H
       go_enter Tryd.func5, Tryd.ntmps5
       try go_wp2_with (first | ((with_reducible refine gc 13 rfl ?_); refine gl (some 15) Tryd.func13 #[.int .i64 1] ?_; (with_reducible refine (rational_Int.calls k 1 t550 t551 t552 _ A2.out).mono ?_); rintro e w57 ⟨rfl, hb⟩; refine ⟨_, rfl, ?_⟩; replace HB := Aside0.mk (bs HB.out hb); (try clear hb)) | ((with_reducible refine gd 3 rfl ?_); refine bx 3 (#[.bool false, .string (⟨#[]⟩ : ByteArray), .string (⟨#[]⟩ : ByteArray)]) 23 ?_; intro gb553 hg w58 hbox hb; have BK553 := Aside0.mk (hbox); have GW553 := sg hg HB.out; have GE553 := sg hg HB.out; replace HB := Aside0.mk (bs HB.out hb); clear hb hbox hg; obtain ⟨hcz59_0, hcz59_1, hcz59_2, hfz59_0, hfz59_1, hfz59_2⟩ := c3 BK553.out) | ((with_reducible refine gc 13 rfl ?_); refine gl (some 16) Tryd.func13 #[.int .i64 9223372036854775807] ?_; (with_reducible refine (rational_Int.calls k 9223372036854775807 t554 t555 t556 _ A3.out).mono ?_); rintro e w60 ⟨rfl, hb⟩; refine ⟨_, rfl, ?_⟩; replace BK553 := Aside0.mk (bk BK553.out hb (.cells #[.bool t550, .string t551, .string t552] 23 (0, 0))); replace HB := Aside0.mk (bs HB.out hb); (try clear hb)) | ((with_reducible refine gd 4 rfl ?_); refine bx 4 (#[.bool false, .string (⟨#[]⟩ : ByteArray), .string (⟨#[]⟩ : ByteArray)]) 23 ?_; intro gb557 hg w61 hbox hb; have BK557 := Aside0.mk (hbox); have GW557 := sg hg HB.out; have GE557 := sg hg HB.out; replace HB := Aside0.mk (bs HB.out hb); have NB553_557 := nl hg BK553.out; have NB557_553 := nr hg BK553.out; replace BK553 := Aside0.mk (bk0 BK553.out hb); clear hb hbox hg; have hnb62 := NB557_553.out; have hnc62 := NB553_557.out; obtain ⟨hcz63_0, hcz63_1, hcz63_2, hfz63_0, hfz63_1, hfz63_2⟩ := c3 BK557.out) | ((with_reducible refine gc 13 rfl ?_); refine gl (some 17) Tryd.func13 #[.int .i64 (-9223372036854775808)] ?_; (with_reducible refine (rational_Int.calls k (-9223372036854775808) t558 t559 t560 _ A4.out).mono ?_); rintro e w64 ⟨rfl, hb⟩; refine ⟨_, rfl, ?_⟩; replace BK553 := Aside0.mk (bk0 BK553.out hb); replace BK557 := Aside0.mk (bk BK557.out hb (.cells #[.bool t554, .string t555, .string t556] 23 (0, 0))); replace HB := Aside0.mk (bs HB.out hb); (try clear hb)) | ((with_reducible refine gd 5 rfl ?_); refine bx 5 (#[.bool false, .string (⟨#[]⟩ : ByteArray), .string (⟨#[]⟩ : ByteArray)]) 23 ?_; intro gb561 hg w65 hbox hb; have BK561 := Aside0.mk (hbox); have GW561 := sg hg HB.out; have GE561 := sg hg HB.out; replace HB := Aside0.mk (bs HB.out hb); have NB553_561 := nl hg BK553.out; have NB561_553 := nr hg BK553.out; replace BK553 := Aside0.mk (bk0 BK553.out hb); have NB557_561 := nl hg BK557.out; have NB561_557 := nr hg BK557.out; replace BK557 := Aside0.mk (bk0 BK557.out hb); clear hb hbox hg; have hnb66 := NB561_553.out; have hnc66 := NB553_561.out; have hnb67 := NB561_557.out; have hnc67 := NB557_561.out; obtain ⟨hcz68_0, hcz68_1, hcz68_2, hfz68_0, hfz68_1, hfz68_2⟩ := c3 BK561.out) | ((with_reducible refine gc 13 rfl ?_); refine gl (some 21) Tryd.func13 #[.int .i64 (wrap64 (Int.tmod a0 4))] ?_; (with_reducible refine (rational_Int.calls k (wrap64 (Int.tmod a0 4)) t562 t563 t564 _ A5.out).mono ?_); rintro e w69 ⟨rfl, hb⟩; refine ⟨_, rfl, ?_⟩; replace BK553 := Aside0.mk (bk0 BK553.out hb); replace BK557 := Aside0.mk (bk0 BK557.out hb); replace BK561 := Aside0.mk (bk BK561.out hb (.cells #[.bool t558, .string t559, .string t560] 23 (0, 0))); replace HB := Aside0.mk (bs HB.out hb); (try clear hb)) | ((with_reducible refine gd 6 rfl ?_); refine bx 6 (#[.bool false, .string (⟨#[]⟩ : ByteArray), .string (⟨#[]⟩ : ByteArray)]) 23 ?_; intro gb565 hg w70 hbox hb; have BK565 := Aside0.mk (hbox); have GW565 := sg hg HB.out; have GE565 := sg hg HB.out; replace HB := Aside0.mk (bs HB.out hb); have NB553_565 := nl hg BK553.out; have NB565_553 := nr hg BK553.out; replace BK553 := Aside0.mk (bk0 BK553.out hb); have NB557_565 := nl hg BK557.out; have NB565_557 := nr hg BK557.out; replace BK557 := Aside0.mk (bk0 BK557.out hb); have NB561_565 := nl hg BK561.out; have NB565_561 := nr hg BK561.out; replace BK561 := Aside0.mk (bk0 BK561.out hb); clear hb hbox hg; have hnb71 := NB565_553.out; have hnc71 := NB553_565.out; have hnb72 := NB565_557.out; have hnc72 := NB557_565.out; have hnb73 := NB565_561.out; have hnc73 := NB561_565.out; obtain ⟨hcz74_0, hcz74_1, hcz74_2, hfz74_0, hfz74_1, hfz74_2⟩ := c3 BK565.out; obtain ⟨hcz75_0, hcz75_1, hcz75_2, hfz75_0, hfz75_1, hfz75_2⟩ := c3 BK557.out) | ((with_reducible refine gc 15 rfl ?_); refine gl (some 25) Tryd.func15 #[.agg #[.bool t554, .string t555, .string t556], .agg #[.bool t562, .string t563, .string t564]] ?_; (with_reducible refine (rational_Subtract.calls k t554 t555 t556 t562 t563 t564 t566 t567 t568 _ A6.out).mono ?_); rintro e w76 ⟨rfl, hb⟩; refine ⟨_, rfl, ?_⟩; replace BK553 := Aside0.mk (bk0 BK553.out hb); replace BK557 := Aside0.mk (bk0 BK557.out hb); replace BK561 := Aside0.mk (bk0 BK561.out hb); replace BK565 := Aside0.mk (bk BK565.out hb (.cells #[.bool t562, .string t563, .string t564] 23 (0, 0))); replace HB := Aside0.mk (bs HB.out hb); (try clear hb)) | ((with_reducible refine gc 14 rfl ?_); refine gl (some 26) Tryd.func14 #[.agg #[.bool t566, .string t567, .string t568]] ?_; (with_reducible refine (rational_Int64.calls k t566 t567 t568 t569 true _ A7.out).mono ?_); rintro e w77 ⟨rfl, hb⟩; refine ⟨_, rfl, ?_⟩; replace BK553 := Aside0.mk (bk0 BK553.out hb); replace BK557 := Aside0.mk (bk0 BK557.out hb); replace BK561 := Aside0.mk (bk0 BK561.out hb); replace BK565 := Aside0.mk (bk0 BK565.out hb); replace HB := Aside0.mk (bs HB.out hb); (try clear hb); obtain ⟨hcz78_0, hcz78_1, hcz78_2, hfz78_0, hfz78_1, hfz78_2⟩ := c3 BK561.out; obtain ⟨hcz79_0, hcz79_1, hcz79_2, hfz79_0, hfz79_1, hfz79_2⟩ := c3 BK565.out) | ((with_reducible refine gc 16 rfl ?_); refine gl (some 32) Tryd.func16 #[.agg #[.bool t558, .string t559, .string t560], .agg #[.bool t562, .string t563, .string t564]] ?_; (with_reducible refine (rational_Add.calls k t558 t559 t560 t562 t563 t564 t571 t572 t573 _ A8.out).mono ?_); rintro e w80 ⟨rfl, hb⟩; refine ⟨_, rfl, ?_⟩; replace BK553 := Aside0.mk (bk0 BK553.out hb); replace BK557 := Aside0.mk (bk0 BK557.out hb); replace BK561 := Aside0.mk (bk0 BK561.out hb); replace BK565 := Aside0.mk (bk0 BK565.out hb); replace HB := Aside0.mk (bs HB.out hb); (try clear hb)) | ((with_reducible refine gc 14 rfl ?_); refine gl (some 33) Tryd.func14 #[.agg #[.bool t571, .string t572, .string t573]] ?_; (with_reducible refine (rational_Int64.calls k t571 t572 t573 t574 true _ A9.out).mono ?_); rintro e w81 ⟨rfl, hb⟩; refine ⟨_, rfl, ?_⟩; replace BK553 := Aside0.mk (bk0 BK553.out hb); replace BK557 := Aside0.mk (bk0 BK557.out hb); replace BK561 := Aside0.mk (bk0 BK561.out hb); replace BK565 := Aside0.mk (bk0 BK565.out hb); replace HB := Aside0.mk (bs HB.out hb); (try clear hb)))
       replace BK553 := Aside0.mk (blk_drew BK553.out)
       replace BK557 := Aside0.mk (blk_drew BK557.out)
       replace BK561 := Aside0.mk (blk_drew BK561.out)
       replace BK565 := Aside0.mk (blk_drew BK565.out)
       replace HB := Aside0.mk (below_drew1 HB.out)
       refine start_ (n := 11) (S := fun w' => w'.cell? ⟨gb557, 0, none⟩ = some (.bool t554) ∧ w'.cell? ⟨gb557, 1, none⟩ = some (.string t555) ∧ w'.cell? ⟨gb557, 2, none⟩ = some (.string t556) ∧ w'.cell? ⟨gb553, 0, none⟩ = some (.bool t550) ∧ w'.cell? ⟨gb553, 1, none⟩ = some (.string t551) ∧ w'.cell? ⟨gb553, 2, none⟩ = some (.string t552) ∧ w'.cell? ⟨gb565, 0, none⟩ = some (.bool t562) ∧ w'.cell? ⟨gb565, 1, none⟩ = some (.string t563) ∧ w'.cell? ⟨gb565, 2, none⟩ = some (.string t564)) (ds := []) #[false, false, false, false, false, false, false, false, false, false, false] (by kernel_rfl) rfl rfl ⟨(blk_cell BK557.out 0).trans rfl, (blk_cell BK557.out 1).trans rfl, (blk_cell BK557.out 2).trans rfl, (blk_cell BK553.out 0).trans rfl, (blk_cell BK553.out 1).trans rfl, (blk_cell BK553.out 2).trans rfl, (blk_cell BK565.out 0).trans rfl, (blk_cell BK565.out 1).trans rfl, (blk_cell BK565.out 2).trans rfl⟩ (fun hHeld => ?_); refine with_tabW insolvencylaw2_RationalEdge.tab7 insolvencylaw2_RationalEdge.bits7 (fun HT_ HW_ => ?_)
       generalize w81.drew = w82 at BK553 BK557 BK561 BK565 HB hHeld ⊢
       refine take_ (i := 0) (N := some 37) (v := ?_) (a' := ?_) #[true, false, false, false, false, false, false, false, false, false, false] rfl rfl (take_ofW HT_.out HW_.out (by kernel_rfl)) (fun _ _ _ h => h) (Or.inl ⟨by rfl, ?_⟩) hHeld ?_ ?_
       rotate_left
       ·rintro w' ⟨s0, s1, s2, s3, s4, s5, s6, s7, s8⟩
        go_simp
        with_reducible rfl
       rotate_left
       ·simp only [Act.put, List.setIfInBounds_toArray, List.set_cons_zero, List.set_cons_succ, i64_w, i32_w]
        rfl
       refine take_ (i := 1) (N := some 38) (v := ?_) (a' := ?_) #[true, true, false, false, false, false, false, false, false, false, false] rfl rfl (take_ofW HT_.out HW_.out (by kernel_rfl)) (fun _ _ _ h => h) (Or.inl ⟨by rfl, ?_⟩) hHeld ?_ ?_
       rotate_left
       ·rintro w' ⟨s0, s1, s2, s3, s4, s5, s6, s7, s8⟩
        go_simp
        with_reducible rfl
       rotate_left
       ·simp only [Act.put, List.setIfInBounds_toArray, List.set_cons_zero, List.set_cons_succ, i64_w, i32_w]
        rfl
       refine take_ (i := 3) (N := some 40) (v := ?_) (a' := ?_) #[true, true, false, true, false, false, false, false, false, false, false] rfl rfl (take_ofW HT_.out HW_.out (by kernel_rfl)) (fun _ _ _ h => h) (Or.inl ⟨by rfl, ?_⟩) hHeld ?_ ?_
       rotate_left
       ·rintro w' ⟨s0, s1, s2, s3, s4, s5, s6, s7, s8⟩
        go_simp
        with_reducible rfl
       rotate_left
       ·simp only [Act.put, List.setIfInBounds_toArray, List.set_cons_zero, List.set_cons_succ, i64_w, i32_w]
        rfl
       refine one_ (i := 2) (N := some 39) #[true, true, true, true, false, false, false, false, false, false, false] rfl rfl (one_of HT_.out (by kernel_rfl)) (by decide) (fun K hK => ?_)
       refine goes_ Tryd.func16 (by kernel_rfl) rfl #[.agg #[.bool t554, .string t555, .string t556], .agg #[.bool t550, .string t551, .string t552]] (by rfl) rfl rfl (by (try simp only [List.map_toArray, List.map_cons, List.map_nil]); first | done | rfl | (simp only [List.length_drop, List.length_take]; rfl)) ?_
       with_reducible refine (rational_Add.calls k t554 t555 t556 t550 t551 t552 t576 t577 t578 _ A10.out).mono ?_
       rintro e w83 ⟨rfl, hb⟩
       refine ⟨_, rfl, ?_⟩
       replace BK553 := Aside0.mk (bk0 BK553.out hb)
       replace BK557 := Aside0.mk (bk0 BK557.out hb)
       replace BK561 := Aside0.mk (bk0 BK561.out hb)
       replace BK565 := Aside0.mk (bk0 BK565.out hb)
       replace HB := Aside0.mk (bs HB.out hb)
       (try clear hb)
       (try clear hb2)
       (try clear hk)
       (try clear hi)
       refine hK.out _ _ ⟨(blk_cell BK557.out 0).trans rfl, (blk_cell BK557.out 1).trans rfl, (blk_cell BK557.out 2).trans rfl, (blk_cell BK553.out 0).trans rfl, (blk_cell BK553.out 1).trans rfl, (blk_cell BK553.out 2).trans rfl, (blk_cell BK565.out 0).trans rfl, (blk_cell BK565.out 1).trans rfl, (blk_cell BK565.out 2).trans rfl⟩ (fun hHeld => ?_)
       clear hK K
       refine norm_ (a' := ?_) ?_ ?_
       rotate_left
       ·show Act.put _ (some 39) _ = _
        simp only [Act.put, List.setIfInBounds_toArray, List.set_cons_zero, List.set_cons_succ, i64_w, i32_w]
        rfl
       refine one_ (i := 4) (N := some 41) #[true, true, true, true, true, false, false, false, false, false, false] rfl rfl (one_of HT_.out (by kernel_rfl)) (by decide) (fun K hK => ?_)
       refine goes_ Tryd.func16 (by kernel_rfl) rfl #[.agg #[.bool t576, .string t577, .string t578], .agg #[.bool t562, .string t563, .string t564]] (by rfl) rfl rfl (by (try simp only [List.map_toArray, List.map_cons, List.map_nil]); first | done | rfl | (simp only [List.length_drop, List.length_take]; rfl)) ?_
       with_reducible refine (rational_Add.calls k t576 t577 t578 t562 t563 t564 t579 t580 t581 _ A11.out).mono ?_
       rintro e w84 ⟨rfl, hb⟩
       refine ⟨_, rfl, ?_⟩
       replace BK553 := Aside0.mk (bk0 BK553.out hb)
       replace BK557 := Aside0.mk (bk0 BK557.out hb)
       replace BK561 := Aside0.mk (bk0 BK561.out hb)
       replace BK565 := Aside0.mk (bk0 BK565.out hb)
       replace HB := Aside0.mk (bs HB.out hb)
       (try clear hb)
       (try clear hb2)
       (try clear hk)
       (try clear hi)
       refine hK.out _ _ ⟨(blk_cell BK557.out 0).trans rfl, (blk_cell BK557.out 1).trans rfl, (blk_cell BK557.out 2).trans rfl, (blk_cell BK553.out 0).trans rfl, (blk_cell BK553.out 1).trans rfl, (blk_cell BK553.out 2).trans rfl, (blk_cell BK565.out 0).trans rfl, (blk_cell BK565.out 1).trans rfl, (blk_cell BK565.out 2).trans rfl⟩ (fun hHeld => ?_)
       clear hK K
       refine norm_ (a' := ?_) ?_ ?_
       rotate_left
       ·show Act.put _ (some 41) _ = _
        simp only [Act.put, List.setIfInBounds_toArray, List.set_cons_zero, List.set_cons_succ, i64_w, i32_w]
        rfl
       refine one_ (i := 5) (N := some 42) #[true, true, true, true, true, true, false, false, false, false, false] rfl rfl (one_of HT_.out (by kernel_rfl)) (by decide) (fun K hK => ?_)
       refine goes_ Tryd.func14 (by kernel_rfl) rfl #[.agg #[.bool t579, .string t580, .string t581]] (by rfl) rfl rfl (by (try simp only [List.map_toArray, List.map_cons, List.map_nil]); first | done | rfl | (simp only [List.length_drop, List.length_take]; rfl)) ?_
       with_reducible refine (rational_Int64.calls k t579 t580 t581 t582 false _ A12.out).mono ?_
       rintro e w85 ⟨rfl, hb⟩
       refine ⟨_, rfl, ?_⟩
       replace BK553 := Aside0.mk (bk0 BK553.out hb)
       replace BK557 := Aside0.mk (bk0 BK557.out hb)
       replace BK561 := Aside0.mk (bk0 BK561.out hb)
       replace BK565 := Aside0.mk (bk0 BK565.out hb)
       replace HB := Aside0.mk (bs HB.out hb)
       (try clear hb)
       (try clear hb2)
       (try clear hk)
       (try clear hi)
       refine hK.out _ _ ⟨(blk_cell BK557.out 0).trans rfl, (blk_cell BK557.out 1).trans rfl, (blk_cell BK557.out 2).trans rfl, (blk_cell BK553.out 0).trans rfl, (blk_cell BK553.out 1).trans rfl, (blk_cell BK553.out 2).trans rfl, (blk_cell BK565.out 0).trans rfl, (blk_cell BK565.out 1).trans rfl, (blk_cell BK565.out 2).trans rfl⟩ (fun hHeld => ?_)
       clear hK K
       refine norm_ (a' := ?_) ?_ ?_
       rotate_left
       ·show Act.put _ (some 42) _ = _
        simp only [Act.put, List.setIfInBounds_toArray, List.set_cons_zero, List.set_cons_succ, i64_w, i32_w]
        rfl
       refine pure_ (i := 6) (N := some 36) (v := ?_) (a' := ?_) #[true, true, true, true, true, true, true, false, false, false, false] rfl rfl (any_of HT_.out (by kernel_rfl)) (fun _ _ _ h => h) (Or.inl ⟨by rfl, ?_⟩) ?_ ?_
       rotate_left
       ·intro w'
        go_simp
        with_reducible rfl
       rotate_left
       ·simp only [Act.put, List.setIfInBounds_toArray, List.set_cons_zero, List.set_cons_succ, i64_w, i32_w]
        rfl
       refine pure_ (i := 7) (N := some 43) (v := ?_) (a' := ?_) #[true, true, true, true, true, true, true, true, false, false, false] rfl rfl (any_of HT_.out (by kernel_rfl)) (fun _ _ _ h => h) (Or.inl ⟨by rfl, ?_⟩) ?_ ?_
       rotate_left
       ·intro w'
        go_simp
        with_reducible rfl
       rotate_left
       ·simp only [Act.put, List.setIfInBounds_toArray, List.set_cons_zero, List.set_cons_succ, i64_w, i32_w]
        rfl
       refine pure_ (i := 8) (N := some 44) (v := ?_) (a' := ?_) #[true, true, true, true, true, true, true, true, true, false, false] rfl rfl (any_of HT_.out (by kernel_rfl)) (fun _ _ _ h => h) (Or.inl ⟨by rfl, ?_⟩) ?_ ?_
       rotate_left
       ·intro w'
        go_simp
        with_reducible rfl
       rotate_left
       ·simp only [Act.put, List.setIfInBounds_toArray, List.set_cons_zero, List.set_cons_succ, i64_w, i32_w]
        rfl
       refine pure_ (i := 9) (N := some 11) (v := ?_) (a' := ?_) #[true, true, true, true, true, true, true, true, true, true, false] rfl rfl (any_of HT_.out (by kernel_rfl)) (fun _ _ _ h => h) (Or.inl ⟨by rfl, ?_⟩) ?_ ?_
       rotate_left
       ·intro w'
        go_simp
        with_reducible rfl
       rotate_left
       ·simp only [Act.put, List.setIfInBounds_toArray, List.set_cons_zero, List.set_cons_succ, i64_w, i32_w]
        rfl
       refine pure_ (i := 10) (N := some 12) (v := ?_) (a' := ?_) #[true, true, true, true, true, true, true, true, true, true, true] rfl rfl (any_of HT_.out (by kernel_rfl)) (fun _ _ _ h => h) (Or.inl ⟨by rfl, ?_⟩) ?_ ?_
       rotate_left
       ·intro w'
        go_simp
        with_reducible rfl
       rotate_left
       ·simp only [Act.put, List.setIfInBounds_toArray, List.set_cons_zero, List.set_cons_succ, i64_w, i32_w]
        rfl
       refine done_ (done_of HT_.out (by kernel_rfl)) ?_
       try go_wp2
       replace BK553 := Aside0.mk (blk_drew BK553.out)
       replace BK557 := Aside0.mk (blk_drew BK557.out)
       replace BK561 := Aside0.mk (blk_drew BK561.out)
       replace BK565 := Aside0.mk (blk_drew BK565.out)
       replace HB := Aside0.mk (below_drew1 HB.out)
       refine start_ (n := 11) (S := fun w' => w'.cell? ⟨gb561, 0, none⟩ = some (.bool t558) ∧ w'.cell? ⟨gb561, 1, none⟩ = some (.string t559) ∧ w'.cell? ⟨gb561, 2, none⟩ = some (.string t560) ∧ w'.cell? ⟨gb553, 0, none⟩ = some (.bool t550) ∧ w'.cell? ⟨gb553, 1, none⟩ = some (.string t551) ∧ w'.cell? ⟨gb553, 2, none⟩ = some (.string t552) ∧ w'.cell? ⟨gb565, 0, none⟩ = some (.bool t562) ∧ w'.cell? ⟨gb565, 1, none⟩ = some (.string t563) ∧ w'.cell? ⟨gb565, 2, none⟩ = some (.string t564)) (ds := []) #[false, false, false, false, false, false, false, false, false, false, false] (by kernel_rfl) rfl rfl ⟨(blk_cell BK561.out 0).trans rfl, (blk_cell BK561.out 1).trans rfl, (blk_cell BK561.out 2).trans rfl, (blk_cell BK553.out 0).trans rfl, (blk_cell BK553.out 1).trans rfl, (blk_cell BK553.out 2).trans rfl, (blk_cell BK565.out 0).trans rfl, (blk_cell BK565.out 1).trans rfl, (blk_cell BK565.out 2).trans rfl⟩ (fun hHeld => ?_); refine with_tabW insolvencylaw2_RationalEdge.tab8 insolvencylaw2_RationalEdge.bits8 (fun HT_ HW_ => ?_)
       generalize w85.drew = w86 at BK553 BK557 BK561 BK565 HB hHeld ⊢
       refine take_ (i := 0) (N := some 46) (v := ?_) (a' := ?_) #[true, false, false, false, false, false, false, false, false, false, false] rfl rfl (take_ofW HT_.out HW_.out (by kernel_rfl)) (fun _ _ _ h => h) (Or.inl ⟨by rfl, ?_⟩) hHeld ?_ ?_
       rotate_left
       ·rintro w' ⟨s0, s1, s2, s3, s4, s5, s6, s7, s8⟩
        go_simp
        with_reducible rfl
       rotate_left
       ·simp only [Act.put, List.setIfInBounds_toArray, List.set_cons_zero, List.set_cons_succ, i64_w, i32_w]
        rfl
       refine take_ (i := 1) (N := some 47) (v := ?_) (a' := ?_) #[true, true, false, false, false, false, false, false, false, false, false] rfl rfl (take_ofW HT_.out HW_.out (by kernel_rfl)) (fun _ _ _ h => h) (Or.inl ⟨by rfl, ?_⟩) hHeld ?_ ?_
       rotate_left
       ·rintro w' ⟨s0, s1, s2, s3, s4, s5, s6, s7, s8⟩
        go_simp
        with_reducible rfl
       rotate_left
       ·simp only [Act.put, List.setIfInBounds_toArray, List.set_cons_zero, List.set_cons_succ, i64_w, i32_w]
        rfl
       refine take_ (i := 3) (N := some 49) (v := ?_) (a' := ?_) #[true, true, false, true, false, false, false, false, false, false, false] rfl rfl (take_ofW HT_.out HW_.out (by kernel_rfl)) (fun _ _ _ h => h) (Or.inl ⟨by rfl, ?_⟩) hHeld ?_ ?_
       rotate_left
       ·rintro w' ⟨s0, s1, s2, s3, s4, s5, s6, s7, s8⟩
        go_simp
        with_reducible rfl
       rotate_left
       ·simp only [Act.put, List.setIfInBounds_toArray, List.set_cons_zero, List.set_cons_succ, i64_w, i32_w]
        rfl
       refine one_ (i := 2) (N := some 48) #[true, true, true, true, false, false, false, false, false, false, false] rfl rfl (one_of HT_.out (by kernel_rfl)) (by decide) (fun K hK => ?_)
       refine goes_ Tryd.func15 (by kernel_rfl) rfl #[.agg #[.bool t558, .string t559, .string t560], .agg #[.bool t550, .string t551, .string t552]] (by rfl) rfl rfl (by (try simp only [List.map_toArray, List.map_cons, List.map_nil]); first | done | rfl | (simp only [List.length_drop, List.length_take]; rfl)) ?_
       with_reducible refine (rational_Subtract.calls k t558 t559 t560 t550 t551 t552 t584 t585 t586 _ A13.out).mono ?_
       rintro e w87 ⟨rfl, hb⟩
       refine ⟨_, rfl, ?_⟩
       replace BK553 := Aside0.mk (bk0 BK553.out hb)
       replace BK557 := Aside0.mk (bk0 BK557.out hb)
       replace BK561 := Aside0.mk (bk0 BK561.out hb)
       replace BK565 := Aside0.mk (bk0 BK565.out hb)
       replace HB := Aside0.mk (bs HB.out hb)
       (try clear hb)
       (try clear hb2)
       (try clear hk)
       (try clear hi)
       refine hK.out _ _ ⟨(blk_cell BK561.out 0).trans rfl, (blk_cell BK561.out 1).trans rfl, (blk_cell BK561.out 2).trans rfl, (blk_cell BK553.out 0).trans rfl, (blk_cell BK553.out 1).trans rfl, (blk_cell BK553.out 2).trans rfl, (blk_cell BK565.out 0).trans rfl, (blk_cell BK565.out 1).trans rfl, (blk_cell BK565.out 2).trans rfl⟩ (fun hHeld => ?_)
       clear hK K
       refine norm_ (a' := ?_) ?_ ?_
       rotate_left
       ·show Act.put _ (some 48) _ = _
        simp only [Act.put, List.setIfInBounds_toArray, List.set_cons_zero, List.set_cons_succ, i64_w, i32_w]
        rfl
       refine one_ (i := 4) (N := some 50) #[true, true, true, true, true, false, false, false, false, false, false] rfl rfl (one_of HT_.out (by kernel_rfl)) (by decide) (fun K hK => ?_)
       refine goes_ Tryd.func15 (by kernel_rfl) rfl #[.agg #[.bool t584, .string t585, .string t586], .agg #[.bool t562, .string t563, .string t564]] (by rfl) rfl rfl (by (try simp only [List.map_toArray, List.map_cons, List.map_nil]); first | done | rfl | (simp only [List.length_drop, List.length_take]; rfl)) ?_
       with_reducible refine (rational_Subtract.calls k t584 t585 t586 t562 t563 t564 t587 t588 t589 _ A14.out).mono ?_
       rintro e w88 ⟨rfl, hb⟩
       refine ⟨_, rfl, ?_⟩
       replace BK553 := Aside0.mk (bk0 BK553.out hb)
       replace BK557 := Aside0.mk (bk0 BK557.out hb)
       replace BK561 := Aside0.mk (bk0 BK561.out hb)
       replace BK565 := Aside0.mk (bk0 BK565.out hb)
       replace HB := Aside0.mk (bs HB.out hb)
       (try clear hb)
       (try clear hb2)
       (try clear hk)
       (try clear hi)
       refine hK.out _ _ ⟨(blk_cell BK561.out 0).trans rfl, (blk_cell BK561.out 1).trans rfl, (blk_cell BK561.out 2).trans rfl, (blk_cell BK553.out 0).trans rfl, (blk_cell BK553.out 1).trans rfl, (blk_cell BK553.out 2).trans rfl, (blk_cell BK565.out 0).trans rfl, (blk_cell BK565.out 1).trans rfl, (blk_cell BK565.out 2).trans rfl⟩ (fun hHeld => ?_)
       clear hK K
       refine norm_ (a' := ?_) ?_ ?_
       rotate_left
       ·show Act.put _ (some 50) _ = _
        simp only [Act.put, List.setIfInBounds_toArray, List.set_cons_zero, List.set_cons_succ, i64_w, i32_w]
        rfl
       refine one_ (i := 5) (N := some 51) #[true, true, true, true, true, true, false, false, false, false, false] rfl rfl (one_of HT_.out (by kernel_rfl)) (by decide) (fun K hK => ?_)
       refine goes_ Tryd.func14 (by kernel_rfl) rfl #[.agg #[.bool t587, .string t588, .string t589]] (by rfl) rfl rfl (by (try simp only [List.map_toArray, List.map_cons, List.map_nil]); first | done | rfl | (simp only [List.length_drop, List.length_take]; rfl)) ?_
       with_reducible refine (rational_Int64.calls k t587 t588 t589 t590 t591 _ A15.out).mono ?_
       rintro e w89 ⟨rfl, hb⟩
       refine ⟨_, rfl, ?_⟩
       replace BK553 := Aside0.mk (bk0 BK553.out hb)
       replace BK557 := Aside0.mk (bk0 BK557.out hb)
       replace BK561 := Aside0.mk (bk0 BK561.out hb)
       replace BK565 := Aside0.mk (bk0 BK565.out hb)
       replace HB := Aside0.mk (bs HB.out hb)
       (try clear hb)
       (try clear hb2)
       (try clear hk)
       (try clear hi)
       refine hK.out _ _ ⟨(blk_cell BK561.out 0).trans rfl, (blk_cell BK561.out 1).trans rfl, (blk_cell BK561.out 2).trans rfl, (blk_cell BK553.out 0).trans rfl, (blk_cell BK553.out 1).trans rfl, (blk_cell BK553.out 2).trans rfl, (blk_cell BK565.out 0).trans rfl, (blk_cell BK565.out 1).trans rfl, (blk_cell BK565.out 2).trans rfl⟩ (fun hHeld => ?_)
       clear hK K
       refine norm_ (a' := ?_) ?_ ?_
       rotate_left
       ·show Act.put _ (some 51) _ = _
        simp only [Act.put, List.setIfInBounds_toArray, List.set_cons_zero, List.set_cons_succ, i64_w, i32_w]
        rfl
       refine pure_ (i := 6) (N := some 45) (v := ?_) (a' := ?_) #[true, true, true, true, true, true, true, false, false, false, false] rfl rfl (any_of HT_.out (by kernel_rfl)) (fun _ _ _ h => h) (Or.inl ⟨by rfl, ?_⟩) ?_ ?_
       rotate_left
       ·intro w'
        go_simp
        with_reducible rfl
       rotate_left
       ·simp only [Act.put, List.setIfInBounds_toArray, List.set_cons_zero, List.set_cons_succ, i64_w, i32_w]
        rfl
       refine pure_ (i := 7) (N := some 52) (v := ?_) (a' := ?_) #[true, true, true, true, true, true, true, true, false, false, false] rfl rfl (any_of HT_.out (by kernel_rfl)) (fun _ _ _ h => h) (Or.inl ⟨by rfl, ?_⟩) ?_ ?_
       rotate_left
       ·intro w'
        go_simp
        with_reducible rfl
       rotate_left
       ·simp only [Act.put, List.setIfInBounds_toArray, List.set_cons_zero, List.set_cons_succ, i64_w, i32_w]
        rfl
       refine pure_ (i := 8) (N := some 53) (v := ?_) (a' := ?_) #[true, true, true, true, true, true, true, true, true, false, false] rfl rfl (any_of HT_.out (by kernel_rfl)) (fun _ _ _ h => h) (Or.inl ⟨by rfl, ?_⟩) ?_ ?_
       rotate_left
       ·intro w'
        go_simp
        with_reducible rfl
       rotate_left
       ·simp only [Act.put, List.setIfInBounds_toArray, List.set_cons_zero, List.set_cons_succ, i64_w, i32_w]
        rfl
       refine pure_ (i := 9) (N := some 13) (v := ?_) (a' := ?_) #[true, true, true, true, true, true, true, true, true, true, false] rfl rfl (any_of HT_.out (by kernel_rfl)) (fun _ _ _ h => h) (Or.inl ⟨by rfl, ?_⟩) ?_ ?_
       rotate_left
       ·intro w'
        go_simp
        with_reducible rfl
       rotate_left
       ·simp only [Act.put, List.setIfInBounds_toArray, List.set_cons_zero, List.set_cons_succ, i64_w, i32_w]
        rfl
       refine pure_ (i := 10) (N := some 14) (v := ?_) (a' := ?_) #[true, true, true, true, true, true, true, true, true, true, true] rfl rfl (any_of HT_.out (by kernel_rfl)) (fun _ _ _ h => h) (Or.inl ⟨by rfl, ?_⟩) ?_ ?_
       rotate_left
       ·intro w'
        go_simp
        with_reducible rfl
       rotate_left
       ·simp only [Act.put, List.setIfInBounds_toArray, List.set_cons_zero, List.set_cons_succ, i64_w, i32_w]
        rfl
       refine done_ (done_of HT_.out (by kernel_rfl)) ?_
       try go_wp2_with (first | ((with_reducible refine gc 8 rfl ?_); refine gl (some 54) Tryd.func8 #[] ?_; (with_reducible refine (insolvencylaw2_awake.calls k  true _ A16.out).mono ?_); rintro e w90 ⟨rfl, hb⟩; refine ⟨_, rfl, ?_⟩; replace BK553 := Aside0.mk (bk0 BK553.out hb); replace BK557 := Aside0.mk (bk0 BK557.out hb); replace BK561 := Aside0.mk (bk0 BK561.out hb); replace BK565 := Aside0.mk (bk0 BK565.out hb); replace HB := Aside0.mk (bs HB.out hb); (try clear hb)))
       go_ret
       exact ⟨fe, bz HB.out⟩
     ·rw [if_neg c21] at H
      exact nf hr H
    ·replace c20 := Bool.eq_false_iff.mpr c20
     subst c20
     have H1 : (some false) = some r := by rw [if_neg (show ¬ (false = true) by decide)] at H; exact H
     clear H
     have H := H1
     clear H1
     exact nf hr H
   ·rw [if_neg c19] at H
    exact nf hr H
  ·replace c18 := Bool.eq_false_iff.mpr c18
   subst c18
   have H1 : (some false) = some r := by rw [if_neg (show ¬ (false = true) by decide)] at H; exact H
   clear H
   have H := H1
   clear H1
   exact nf hr H
 ·replace c17 := Bool.eq_false_iff.mpr c17
  subst c17
  have H1 : (some false) = some r := by rw [if_neg (show ¬ (false = true) by decide)] at H; exact H
  clear H
  have H := H1
  clear H1
  exact nf hr H
/-- THE ONE PURE STATEMENT of insolvencylaw2_RationalEdge: yours. -/
def insolvencylaw2_RationalEdge.Pure : Prop := ∀ (a0 : Int), (Lit.int .u8 a0).wf = true → ∃ k, insolvencylaw2_RationalEdge.f k a0 = some true
theorem insolvencylaw2_RationalEdge.walk (P : insolvencylaw2_RationalEdge.Pure) (a0 : Int) (w : World) (w0 : (Lit.int .u8 a0).wf = true) :
  Calls Tryd.prog 5 #[.int .u8 a0] w fun e w' => e = .returned (.bool true) ∧ Below w.heap.size w w' := by
 obtain ⟨k, h⟩ := P a0 w0
 refine (insolvencylaw2_RationalEdge.calls k a0 true w h).mono ?_
 rintro e w' ⟨rfl, hd⟩
 exact ⟨rfl, hd⟩

end Go.Proofs.YtgepdnoaemeofaaDoor.E
