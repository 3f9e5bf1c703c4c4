/- Printed by a program of this session (wip/tools) out of the translation: plain functions and the proofs that the code comes to their answers. -/
import Derived.Test.YtgepdnoaemeofaaDoorK
import Derived.Test.YtgepdnoaemeofaaDoorE0
import Derived.Test.YtgepdnoaemeofaaDoorE14
import Derived.Test.YtgepdnoaemeofaaDoorE17
import Derived.Test.YtgepdnoaemeofaaDoorE19
import Derived.Test.YtgepdnoaemeofaaDoorE20
import Derived.Test.YtgepdnoaemeofaaDoorE21
namespace Go.Proofs.YtgepdnoaemeofaaDoor.E
open Go.RowKit Go.Proofs.YtgepdnoaemeofaaDoorW.PrintWords Go.Proofs.YtgepdnoaemeofaaDoorW.PrintLast Go.Proofs.YtgepdnoaemeofaaDoorW.PrintMore Go.Proofs.YtgepdnoaemeofaaDoorW.PK
attribute [local go_sem] max2_int min2_int max_two min_two max_three min_three max_four min_four   -- for this text's walks alone
set_option linter.unusedVariables false
set_option linter.unusedSimpArgs false

/-! ### insolvencylaw2_RationalMonotone: function 6 -/
def insolvencylaw2_RationalMonotone.f (k : Nat) (a0_0 : Bool) (a0_1 : ByteArray) (a0_2 : ByteArray) (a1_0 : Bool) (a1_1 : ByteArray) (a1_2 : ByteArray) (a2_0 : Bool) (a2_1 : ByteArray) (a2_2 : ByteArray) : Option (Bool) := (insolvencylaw2_few.f k (([(⟨a0_0, a0_1, a0_2⟩ : S23), (⟨a1_0, a1_1, a1_2⟩ : S23), (⟨a2_0, a2_1, a2_2⟩ : S23)] : List (S23)))).bind fun t645 => (if t645 = true then ((rational_Compare.f k a0_0 a0_1 a0_2 a1_0 a1_1 a1_2).bind fun t647 => ((rational_Add.f k a0_0 a0_1 a0_2 a2_0 a2_1 a2_2).bind fun bt648 => ((rational_Add.f k a1_0 a1_1 a1_2 a2_0 a2_1 a2_2).bind fun bt651 => ((rational_Compare.f k bt648.1 bt648.2.1 bt648.2.2 bt651.1 bt651.2.1 bt651.2.2).bind fun t654 => ((rational_Multiply.f k a0_0 a0_1 a0_2 a2_0 a2_1 a2_2).bind fun bt655 => ((rational_Multiply.f k a1_0 a1_1 a1_2 a2_0 a2_1 a2_2).bind fun bt658 => ((rational_Compare.f k bt655.1 bt655.2.1 bt655.2.2 bt658.1 bt658.2.1 bt658.2.2).bind fun t661 => ((insolvencylaw2_awake.f k).bind fun t662 => (if t662 = true then (if t654 = t647 then ((rational_Sign.f k a2_0 a2_1 a2_2).bind fun t663 => (some (t661 == (wrap64 (t647 * t663))))) else (some false)) else (some false)))))))))) else ((insolvencylaw2_awake.f k).bind fun t646 => (some t646)))
theorem insolvencylaw2_RationalMonotone.mono : ∀ a0 a1 a2 a3 a4 a5 a6 a7 a8 k, LeO (insolvencylaw2_RationalMonotone.f k a0 a1 a2 a3 a4 a5 a6 a7 a8) (insolvencylaw2_RationalMonotone.f (k + 1) a0 a1 a2 a3 a4 a5 a6 a7 a8) := by
 intro a0 a1 a2 a3 a4 a5 a6 a7 a8 k
 unfold insolvencylaw2_RationalMonotone.f
 repeat' first
   | (with_reducible exact insolvencylaw2_awake.mono _)
   | (with_reducible exact insolvencylaw2_few.mono _ _)
   | (with_reducible exact rational_Add.mono _ _ _ _ _ _ _)
   | (with_reducible exact rational_Compare.mono _ _ _ _ _ _ _)
   | (with_reducible exact rational_Multiply.mono _ _ _ _ _ _ _)
   | (with_reducible exact rational_Sign.mono _ _ _ _)
   | (with_reducible exact LeO.refl _)
   | (with_reducible exact LeO.none _)
   | (with_reducible refine LeO.ite ?_ ?_)
   | (with_reducible refine LeO.bind ?_ (fun _ => ?_))
   | exact insolvencylaw2_awake.mono _
   | exact insolvencylaw2_few.mono _ _
   | exact rational_Add.mono _ _ _ _ _ _ _
   | exact rational_Compare.mono _ _ _ _ _ _ _
   | exact rational_Multiply.mono _ _ _ _ _ _ _
   | exact rational_Sign.mono _ _ _ _
   | exact LeO.none _
   | refine LeO.ite ?_ ?_
   | refine LeO.bind ?_ (fun _ => ?_)
def insolvencylaw2_RationalMonotone.T4 : Bool × List (List Nat × List Nat) := (true, [([], []), ([], []), ([0, 1], [0, 1]), ([], []), ([], []), ([3, 4, 2], [3, 4]), ([2, 5, 5], [2, 5]), ([6, 6, 0, 1, 2, 3, 4, 5, 6], [6])])
def insolvencylaw2_RationalMonotone.B4 : List Nat := [0, 0, 3, 0, 0, 31, 63, 127]
theorem insolvencylaw2_RationalMonotone.tab4 : rtab .any (opsOf Tryd.f6 4) = insolvencylaw2_RationalMonotone.T4 := by kernel_rfl
theorem insolvencylaw2_RationalMonotone.bits4 : waitsOk insolvencylaw2_RationalMonotone.T4.2 insolvencylaw2_RationalMonotone.B4 = true := by kernel_rfl
def insolvencylaw2_RationalMonotone.T5 : Bool × List (List Nat × List Nat) := (true, [([], []), ([], []), ([0, 1], [0, 1]), ([], []), ([], []), ([3, 4, 2], [3, 4]), ([2, 5, 5], [2, 5]), ([6, 6, 0, 1, 2, 3, 4, 5, 6], [6])])
def insolvencylaw2_RationalMonotone.B5 : List Nat := [0, 0, 3, 0, 0, 31, 63, 127]
theorem insolvencylaw2_RationalMonotone.tab5 : rtab .any (opsOf Tryd.f6 5) = insolvencylaw2_RationalMonotone.T5 := by kernel_rfl
theorem insolvencylaw2_RationalMonotone.bits5 : waitsOk insolvencylaw2_RationalMonotone.T5.2 insolvencylaw2_RationalMonotone.B5 = true := by kernel_rfl
set_option maxHeartbeats 8000000 in
set_option maxRecDepth 100000 in
theorem insolvencylaw2_RationalMonotone.calls (k : Nat) (a0_0 : Bool) (a0_1 : ByteArray) (a0_2 : ByteArray) (a1_0 : Bool) (a1_1 : ByteArray) (a1_2 : ByteArray) (a2_0 : Bool) (a2_1 : ByteArray) (a2_2 : ByteArray) (r : Bool) (w : World) (h : insolvencylaw2_RationalMonotone.f k a0_0 a0_1 a0_2 a1_0 a1_1 a1_2 a2_0 a2_1 a2_2 = some r) (hr : r = true := by first | rfl | assumption) :
  Calls Tryd.prog 6 #[.agg #[.bool a0_0, .string a0_1, .string a0_2], .agg #[.bool a1_0, .string a1_1, .string a1_2], .agg #[.bool a2_0, .string a2_1, .string a2_2]] w fun e w' => e = .returned (.bool r) ∧ Below w.heap.size w w' := by
 have hu23 := Tryd.underlying23
 have HB := Aside0.mk (Below.refl w.heap.size w)
 have H := h
 clear h
 unfold insolvencylaw2_RationalMonotone.f at H
 obtain ⟨y642, hy642⟩ : ∃ y_ : List (S23), y_ = (([(⟨a0_0, a0_1, a0_2⟩ : S23), (⟨a1_0, a1_1, a1_2⟩ : S23), (⟨a2_0, a2_1, a2_2⟩ : S23)] : List (S23))) := ⟨_, rfl⟩
 replace H : ((insolvencylaw2_few.f k y642).bind fun t645 => (if t645 = true then ((rational_Compare.f k a0_0 a0_1 a0_2 a1_0 a1_1 a1_2).bind fun t647 => ((rational_Add.f k a0_0 a0_1 a0_2 a2_0 a2_1 a2_2).bind fun bt648 => ((rational_Add.f k a1_0 a1_1 a1_2 a2_0 a2_1 a2_2).bind fun bt651 => ((rational_Compare.f k bt648.1 bt648.2.1 bt648.2.2 bt651.1 bt651.2.1 bt651.2.2).bind fun t654 => ((rational_Multiply.f k a0_0 a0_1 a0_2 a2_0 a2_1 a2_2).bind fun bt655 => ((rational_Multiply.f k a1_0 a1_1 a1_2 a2_0 a2_1 a2_2).bind fun bt658 => ((rational_Compare.f k bt655.1 bt655.2.1 bt655.2.2 bt658.1 bt658.2.1 bt658.2.2).bind fun t661 => ((insolvencylaw2_awake.f k).bind fun t662 => (if t662 = true then (if t654 = t647 then ((rational_Sign.f k a2_0 a2_1 a2_2).bind fun t663 => (some (t661 == (wrap64 (t647 * t663))))) else (some false)) else (some false)))))))))) else ((insolvencylaw2_awake.f k).bind fun t646 => (some t646)))) = some r := by first | (rw [hy642]; with_reducible exact H) | (have H2_ := (Option.bind_some _ _).symm.trans H; rw [hy642]; with_reducible exact H2_) | (have H2_ := (Option.bind_some _ _).symm.trans H; with_reducible exact H2_) | with_reducible exact H | (rw [hy642]; exact H) | exact H
 have Ny642 := Aside0.mk hy642
 clear hy642
 obtain ⟨t645, A4, H⟩ := bs1 H
 by_cases c5 : t645 = true
 ·subst c5
  have H1 : ((rational_Compare.f k a0_0 a0_1 a0_2 a1_0 a1_1 a1_2).bind fun t647 => ((rational_Add.f k a0_0 a0_1 a0_2 a2_0 a2_1 a2_2).bind fun bt648 => ((rational_Add.f k a1_0 a1_1 a1_2 a2_0 a2_1 a2_2).bind fun bt651 => ((rational_Compare.f k bt648.1 bt648.2.1 bt648.2.2 bt651.1 bt651.2.1 bt651.2.2).bind fun t654 => ((rational_Multiply.f k a0_0 a0_1 a0_2 a2_0 a2_1 a2_2).bind fun bt655 => ((rational_Multiply.f k a1_0 a1_1 a1_2 a2_0 a2_1 a2_2).bind fun bt658 => ((rational_Compare.f k bt655.1 bt655.2.1 bt655.2.2 bt658.1 bt658.2.1 bt658.2.2).bind fun t661 => ((insolvencylaw2_awake.f k).bind fun t662 => (if t662 = true then (if t654 = t647 then ((rational_Sign.f k a2_0 a2_1 a2_2).bind fun t663 => (some (t661 == (wrap64 (t647 * t663))))) else (some false)) else (some false)))))))))) = some r := by rw [if_pos rfl] at H; exact H
  clear H
  have H := H1
  clear H1
  obtain ⟨t647, A6, H⟩ := bs1 H
  obtain ⟨⟨t648, t649, t650⟩, A7, H⟩ := bs1 H; dsimp only at H
  obtain ⟨⟨t651, t652, t653⟩, A8, H⟩ := bs1 H; dsimp only at H
  obtain ⟨t654, A9, H⟩ := bs1 H
  obtain ⟨⟨t655, t656, t657⟩, A10, H⟩ := bs1 H; dsimp only at H
  obtain ⟨⟨t658, t659, t660⟩, A11, H⟩ := bs1 H; dsimp only at H
  obtain ⟨t661, A12, H⟩ := bs1 H
  obtain ⟨t662, A13, H⟩ := bs1 H
  by_cases c14 : t662 = true
  ·subst c14
   have H1 : (if t654 = t647 then ((rational_Sign.f k a2_0 a2_1 a2_2).bind fun t663 => (some (t661 == (wrap64 (t647 * t663))))) else (some false)) = some r := by rw [if_pos rfl] at H; exact H
   clear H
   have H := H1
   clear H1
   by_cases c15 : t654 = t647
   ·rw [if_pos c15] at H
    have c15b0 := beq_iff_eq.mpr c15
    have c15b1 := bne_eq_false_iff_eq.mpr c15
    clear c15
    obtain ⟨t663, A16, H⟩ := bs1 H
    obtain rfl := Option.some.inj H
    go_enter Tryd.func6, Tryd.ntmps6
    try go_wp2_with (first | ((with_reducible refine gd 3 rfl ?_); refine bx 3 (#[.bool a0_0, .string a0_1, .string a0_2]) 23 ?_; intro gb639 hg w17 hbox hb; have BK639 := Aside0.mk (hbox); have GW639 := sg hg HB.out; have GE639 := sg hg HB.out; replace HB := Aside0.mk (bs HB.out hb); clear hb hbox hg) | ((with_reducible refine gd 4 rfl ?_); refine bx 4 (#[.bool a1_0, .string a1_1, .string a1_2]) 23 ?_; intro gb640 hg w18 hbox hb; have BK640 := Aside0.mk (hbox); have GW640 := sg hg HB.out; have GE640 := sg hg HB.out; replace HB := Aside0.mk (bs HB.out hb); have NB639_640 := nl hg BK639.out; have NB640_639 := nr hg BK639.out; replace BK639 := Aside0.mk (bk0 BK639.out hb); clear hb hbox hg) | ((with_reducible refine gd 5 rfl ?_); refine bx 5 (#[.bool a2_0, .string a2_1, .string a2_2]) 23 ?_; intro gb641 hg w19 hbox hb; have BK641 := Aside0.mk (hbox); have GW641 := sg hg HB.out; have GE641 := sg hg HB.out; replace HB := Aside0.mk (bs HB.out hb); have NB639_641 := nl hg BK639.out; have NB641_639 := nr hg BK639.out; replace BK639 := Aside0.mk (bk0 BK639.out hb); have NB640_641 := nl hg BK640.out; have NB641_640 := nr hg BK640.out; replace BK640 := Aside0.mk (bk0 BK640.out hb); clear hb hbox hg; have hnb20 := NB639_640.out; have hnc20 := NB640_639.out; have hnb21 := NB639_641.out; have hnc21 := NB641_639.out; obtain ⟨hcz22_0, hcz22_1, hcz22_2, hfz22_0, hfz22_1, hfz22_2⟩ := c3 BK639.out; have hnb23 := NB640_641.out; have hnc23 := NB641_640.out; obtain ⟨hcz24_0, hcz24_1, hcz24_2, hfz24_0, hfz24_1, hfz24_2⟩ := c3 BK640.out; obtain ⟨hcz25_0, hcz25_1, hcz25_2, hfz25_0, hfz25_1, hfz25_2⟩ := c3 BK641.out) | ((with_reducible refine gd 13 rfl ?_); refine Kd.R_lit k23 _ 23 ?hg (N := 13) ?hd (xs := ([(⟨a0_0, a0_1, a0_2⟩ : S23), (⟨a1_0, a1_1, a1_2⟩ : S23), (⟨a2_0, a2_1, a2_2⟩ : S23)] : List (S23))) (inner := [.bool a0_0, .string a0_1, .string a0_2, .bool a1_0, .string a1_1, .string a1_2, .bool a2_0, .string a2_1, .string a2_2]) (ok := fun _ => True) (okp := fun _ => True) ?hr ?hp (fun _ hk => hk) trivial (Below.refl _ _) (Nat.le_refl _) (by simp) ?_; (case hd => rfl); (case hg => rfl); (case hr => first | (go_simp; done) | (go_simp; rfl)); (case hp => exact (Reps.c3 (show Kd.M k23 _ _ _ (⟨a0_0, a0_1, a0_2⟩ : S23) [.bool a0_0, .string a0_1, .string a0_2] from (k23_mkM _ _ _ (⟨a0_0, a0_1, a0_2⟩ : S23) )) (Reps.c3 (show Kd.M k23 _ _ _ (⟨a1_0, a1_1, a1_2⟩ : S23) [.bool a1_0, .string a1_1, .string a1_2] from (k23_mkM _ _ _ (⟨a1_0, a1_1, a1_2⟩ : S23) )) (Reps.c3 (show Kd.M k23 _ _ _ (⟨a2_0, a2_1, a2_2⟩ : S23) [.bool a2_0, .string a2_1, .string a2_2] from (k23_mkM _ _ _ (⟨a2_0, a2_1, a2_2⟩ : S23) )) (Reps.none _ _))))); intro v643 w26 ho27 hb hg_ hnew_; clear hg_ hnew_; (first | rw [← Ny642.out] at ho27 | (simp only [Int.reduceToNat] at ho27; rw [← Ny642.out] at ho27)); have HO644 := Aside0.mk (Kd.R_lower (Kd.R_newB (Kd.R_newB (Kd.R_newB ho27 (g := gb639) (o := .cells #[.bool a0_0, .string a0_1, .string a0_2] 23 (0, 0)) (bq BK639.out)) (g := gb640) (o := .cells #[.bool a1_0, .string a1_1, .string a1_2] 23 (0, 0)) (bq BK640.out)) (g := gb641) (o := .cells #[.bool a2_0, .string a2_1, .string a2_2] 23 (0, 0)) (bq BK641.out)) (sz HB.out)); replace BK639 := Aside0.mk (bk0 BK639.out hb); replace BK640 := Aside0.mk (bk0 BK640.out hb); replace BK641 := Aside0.mk (bk0 BK641.out hb); replace HB := Aside0.mk (bs HB.out hb); clear hb ho27; obtain ⟨Ao28, co28, eo28⟩ := Kd.R_slice HO644.out; subst eo28) | ((with_reducible refine gc 7 rfl ?_); refine gl (some 14) Tryd.func7 #[.slice Ao28 y642.length co28] ?_; (with_reducible refine (insolvencylaw2_few.calls k _ _ y642 true _ ?side1 ?side2 A4.out).mono ?_); (case side1 => exact vs (Kd.R_reads' HO644.out).2.2); (case side2 => exact (Kd.R_reads' HO644.out).2.1); rintro e w29 ⟨rfl, hb⟩; refine ⟨_, rfl, ?_⟩; replace HO644 := Aside0.mk (rb HO644.out hb); replace BK639 := Aside0.mk (bk0 BK639.out hb); replace BK640 := Aside0.mk (bk0 BK640.out hb); replace BK641 := Aside0.mk (bk0 BK641.out hb); replace HB := Aside0.mk (bs HB.out hb); (try clear hb); obtain ⟨hcz30_0, hcz30_1, hcz30_2, hfz30_0, hfz30_1, hfz30_2⟩ := c3 BK639.out; obtain ⟨hcz31_0, hcz31_1, hcz31_2, hfz31_0, hfz31_1, hfz31_2⟩ := c3 BK640.out) | ((with_reducible refine gc 17 rfl ?_); refine gl (some 19) Tryd.func17 #[.agg #[.bool a0_0, .string a0_1, .string a0_2], .agg #[.bool a1_0, .string a1_1, .string a1_2]] ?_; (with_reducible refine (rational_Compare.calls k a0_0 a0_1 a0_2 a1_0 a1_1 a1_2 t647 _ A6.out).mono ?_); rintro e w32 ⟨rfl, hb⟩; refine ⟨_, rfl, ?_⟩; replace HO644 := Aside0.mk (rb HO644.out hb); replace BK639 := Aside0.mk (bk0 BK639.out hb); replace BK640 := Aside0.mk (bk0 BK640.out hb); replace BK641 := Aside0.mk (bk0 BK641.out hb); replace HB := Aside0.mk (bs HB.out hb); (try clear hb)))
    replace HO644 := Aside0.mk (Kd.R_drew HO644.out)
    replace BK639 := Aside0.mk (blk_drew BK639.out)
    replace BK640 := Aside0.mk (blk_drew BK640.out)
    replace BK641 := Aside0.mk (blk_drew BK641.out)
    replace HB := Aside0.mk (below_drew1 HB.out)
    refine start_ (n := 8) (S := fun w' => w'.cell? ⟨gb639, 0, none⟩ = some (.bool a0_0) ∧ w'.cell? ⟨gb639, 1, none⟩ = some (.string a0_1) ∧ w'.cell? ⟨gb639, 2, none⟩ = some (.string a0_2) ∧ w'.cell? ⟨gb641, 0, none⟩ = some (.bool a2_0) ∧ w'.cell? ⟨gb641, 1, none⟩ = some (.string a2_1) ∧ w'.cell? ⟨gb641, 2, none⟩ = some (.string a2_2) ∧ w'.cell? ⟨gb640, 0, none⟩ = some (.bool a1_0) ∧ w'.cell? ⟨gb640, 1, none⟩ = some (.string a1_1) ∧ w'.cell? ⟨gb640, 2, none⟩ = some (.string a1_2)) (ds := []) #[false, false, false, false, false, false, false, false] (by kernel_rfl) rfl rfl ⟨(blk_cell BK639.out 0).trans rfl, (blk_cell BK639.out 1).trans rfl, (blk_cell BK639.out 2).trans rfl, (blk_cell BK641.out 0).trans rfl, (blk_cell BK641.out 1).trans rfl, (blk_cell BK641.out 2).trans rfl, (blk_cell BK640.out 0).trans rfl, (blk_cell BK640.out 1).trans rfl, (blk_cell BK640.out 2).trans rfl⟩ (fun hHeld => ?_); refine with_tabW insolvencylaw2_RationalMonotone.tab4 insolvencylaw2_RationalMonotone.bits4 (fun HT_ HW_ => ?_)
    generalize w32.drew = w33 at HO644 BK639 BK640 BK641 HB hHeld ⊢
    refine take_ (i := 0) (N := some 20) (v := ?_) (a' := ?_) #[true, false, false, false, false, false, false, false] rfl rfl (take_ofW HT_.out HW_.out (by kernel_rfl)) (fun _ _ _ h => h) (Or.inl ⟨by rfl, ?_⟩) hHeld ?_ ?_
    rotate_left
    ·rintro w' ⟨s0, s1, s2, s3, s4, s5, s6, s7, s8⟩
     go_simp
     with_reducible rfl
    rotate_left
    ·simp only [Act.put, List.setIfInBounds_toArray, List.set_cons_zero, List.set_cons_succ, i64_w, i32_w]
     rfl
    refine take_ (i := 1) (N := some 21) (v := ?_) (a' := ?_) #[true, true, false, false, false, false, false, false] rfl rfl (take_ofW HT_.out HW_.out (by kernel_rfl)) (fun _ _ _ h => h) (Or.inl ⟨by rfl, ?_⟩) hHeld ?_ ?_
    rotate_left
    ·rintro w' ⟨s0, s1, s2, s3, s4, s5, s6, s7, s8⟩
     go_simp
     with_reducible rfl
    rotate_left
    ·simp only [Act.put, List.setIfInBounds_toArray, List.set_cons_zero, List.set_cons_succ, i64_w, i32_w]
     rfl
    refine take_ (i := 3) (N := some 23) (v := ?_) (a' := ?_) #[true, true, false, true, false, false, false, false] rfl rfl (take_ofW HT_.out HW_.out (by kernel_rfl)) (fun _ _ _ h => h) (Or.inl ⟨by rfl, ?_⟩) hHeld ?_ ?_
    rotate_left
    ·rintro w' ⟨s0, s1, s2, s3, s4, s5, s6, s7, s8⟩
     go_simp
     with_reducible rfl
    rotate_left
    ·simp only [Act.put, List.setIfInBounds_toArray, List.set_cons_zero, List.set_cons_succ, i64_w, i32_w]
     rfl
    refine take_ (i := 4) (N := some 24) (v := ?_) (a' := ?_) #[true, true, false, true, true, false, false, false] rfl rfl (take_ofW HT_.out HW_.out (by kernel_rfl)) (fun _ _ _ h => h) (Or.inl ⟨by rfl, ?_⟩) hHeld ?_ ?_
    rotate_left
    ·rintro w' ⟨s0, s1, s2, s3, s4, s5, s6, s7, s8⟩
     go_simp
     with_reducible rfl
    rotate_left
    ·simp only [Act.put, List.setIfInBounds_toArray, List.set_cons_zero, List.set_cons_succ, i64_w, i32_w]
     rfl
    refine one_ (i := 2) (N := some 22) #[true, true, true, true, true, false, false, false] rfl rfl (one_of HT_.out (by kernel_rfl)) (by decide) (fun K hK => ?_)
    refine goes_ Tryd.func16 (by kernel_rfl) rfl #[.agg #[.bool a0_0, .string a0_1, .string a0_2], .agg #[.bool a2_0, .string a2_1, .string a2_2]] (by rfl) rfl rfl (by (try simp only [List.map_toArray, List.map_cons, List.map_nil]); first | done | rfl | (simp only [List.length_drop, List.length_take]; rfl)) ?_
    with_reducible refine (rational_Add.calls k a0_0 a0_1 a0_2 a2_0 a2_1 a2_2 t648 t649 t650 _ A7.out).mono ?_
    rintro e w34 ⟨rfl, hb⟩
    refine ⟨_, rfl, ?_⟩
    replace HO644 := Aside0.mk (rb HO644.out hb)
    replace BK639 := Aside0.mk (bk0 BK639.out hb)
    replace BK640 := Aside0.mk (bk0 BK640.out hb)
    replace BK641 := Aside0.mk (bk0 BK641.out hb)
    replace HB := Aside0.mk (bs HB.out hb)
    (try clear hb)
    (try clear hb2)
    (try clear hk)
    (try clear hi)
    refine hK.out _ _ ⟨(blk_cell BK639.out 0).trans rfl, (blk_cell BK639.out 1).trans rfl, (blk_cell BK639.out 2).trans rfl, (blk_cell BK641.out 0).trans rfl, (blk_cell BK641.out 1).trans rfl, (blk_cell BK641.out 2).trans rfl, (blk_cell BK640.out 0).trans rfl, (blk_cell BK640.out 1).trans rfl, (blk_cell BK640.out 2).trans rfl⟩ (fun hHeld => ?_)
    clear hK K
    refine norm_ (a' := ?_) ?_ ?_
    rotate_left
    ·show Act.put _ (some 22) _ = _
     simp only [Act.put, List.setIfInBounds_toArray, List.set_cons_zero, List.set_cons_succ, i64_w, i32_w]
     rfl
    refine one_ (i := 5) (N := some 25) #[true, true, true, true, true, true, false, false] rfl rfl (one_of HT_.out (by kernel_rfl)) (by decide) (fun K hK => ?_)
    refine goes_ Tryd.func16 (by kernel_rfl) rfl #[.agg #[.bool a1_0, .string a1_1, .string a1_2], .agg #[.bool a2_0, .string a2_1, .string a2_2]] (by rfl) rfl rfl (by (try simp only [List.map_toArray, List.map_cons, List.map_nil]); first | done | rfl | (simp only [List.length_drop, List.length_take]; rfl)) ?_
    with_reducible refine (rational_Add.calls k a1_0 a1_1 a1_2 a2_0 a2_1 a2_2 t651 t652 t653 _ A8.out).mono ?_
    rintro e w35 ⟨rfl, hb⟩
    refine ⟨_, rfl, ?_⟩
    replace HO644 := Aside0.mk (rb HO644.out hb)
    replace BK639 := Aside0.mk (bk0 BK639.out hb)
    replace BK640 := Aside0.mk (bk0 BK640.out hb)
    replace BK641 := Aside0.mk (bk0 BK641.out hb)
    replace HB := Aside0.mk (bs HB.out hb)
    (try clear hb)
    (try clear hb2)
    (try clear hk)
    (try clear hi)
    refine hK.out _ _ ⟨(blk_cell BK639.out 0).trans rfl, (blk_cell BK639.out 1).trans rfl, (blk_cell BK639.out 2).trans rfl, (blk_cell BK641.out 0).trans rfl, (blk_cell BK641.out 1).trans rfl, (blk_cell BK641.out 2).trans rfl, (blk_cell BK640.out 0).trans rfl, (blk_cell BK640.out 1).trans rfl, (blk_cell BK640.out 2).trans rfl⟩ (fun hHeld => ?_)
    clear hK K
    refine norm_ (a' := ?_) ?_ ?_
    rotate_left
    ·show Act.put _ (some 25) _ = _
     simp only [Act.put, List.setIfInBounds_toArray, List.set_cons_zero, List.set_cons_succ, i64_w, i32_w]
     rfl
    refine one_ (i := 6) (N := some 26) #[true, true, true, true, true, true, true, false] rfl rfl (one_of HT_.out (by kernel_rfl)) (by decide) (fun K hK => ?_)
    refine goes_ Tryd.func17 (by kernel_rfl) rfl #[.agg #[.bool t648, .string t649, .string t650], .agg #[.bool t651, .string t652, .string t653]] (by rfl) rfl rfl (by (try simp only [List.map_toArray, List.map_cons, List.map_nil]); first | done | rfl | (simp only [List.length_drop, List.length_take]; rfl)) ?_
    with_reducible refine (rational_Compare.calls k t648 t649 t650 t651 t652 t653 t654 _ A9.out).mono ?_
    rintro e w36 ⟨rfl, hb⟩
    refine ⟨_, rfl, ?_⟩
    replace HO644 := Aside0.mk (rb HO644.out hb)
    replace BK639 := Aside0.mk (bk0 BK639.out hb)
    replace BK640 := Aside0.mk (bk0 BK640.out hb)
    replace BK641 := Aside0.mk (bk0 BK641.out hb)
    replace HB := Aside0.mk (bs HB.out hb)
    (try clear hb)
    (try clear hb2)
    (try clear hk)
    (try clear hi)
    refine hK.out _ _ ⟨(blk_cell BK639.out 0).trans rfl, (blk_cell BK639.out 1).trans rfl, (blk_cell BK639.out 2).trans rfl, (blk_cell BK641.out 0).trans rfl, (blk_cell BK641.out 1).trans rfl, (blk_cell BK641.out 2).trans rfl, (blk_cell BK640.out 0).trans rfl, (blk_cell BK640.out 1).trans rfl, (blk_cell BK640.out 2).trans rfl⟩ (fun hHeld => ?_)
    clear hK K
    refine norm_ (a' := ?_) ?_ ?_
    rotate_left
    ·show Act.put _ (some 26) _ = _
     simp only [Act.put, List.setIfInBounds_toArray, List.set_cons_zero, List.set_cons_succ, i64_w, i32_w]
     rfl
    refine pure_ (i := 7) (N := some 8) (v := ?_) (a' := ?_) #[true, true, true, true, true, true, true, true] rfl rfl (any_of HT_.out (by kernel_rfl)) (fun _ _ _ h => h) (Or.inl ⟨by rfl, ?_⟩) ?_ ?_
    rotate_left
    ·intro w'
     go_simp
     with_reducible rfl
    rotate_left
    ·simp only [Act.put, List.setIfInBounds_toArray, List.set_cons_zero, List.set_cons_succ, i64_w, i32_w]
     rfl
    refine done_ (done_of HT_.out (by kernel_rfl)) ?_
    try go_wp2
    replace HO644 := Aside0.mk (Kd.R_drew HO644.out)
    replace BK639 := Aside0.mk (blk_drew BK639.out)
    replace BK640 := Aside0.mk (blk_drew BK640.out)
    replace BK641 := Aside0.mk (blk_drew BK641.out)
    replace HB := Aside0.mk (below_drew1 HB.out)
    refine start_ (n := 8) (S := fun w' => w'.cell? ⟨gb639, 0, none⟩ = some (.bool a0_0) ∧ w'.cell? ⟨gb639, 1, none⟩ = some (.string a0_1) ∧ w'.cell? ⟨gb639, 2, none⟩ = some (.string a0_2) ∧ w'.cell? ⟨gb641, 0, none⟩ = some (.bool a2_0) ∧ w'.cell? ⟨gb641, 1, none⟩ = some (.string a2_1) ∧ w'.cell? ⟨gb641, 2, none⟩ = some (.string a2_2) ∧ w'.cell? ⟨gb640, 0, none⟩ = some (.bool a1_0) ∧ w'.cell? ⟨gb640, 1, none⟩ = some (.string a1_1) ∧ w'.cell? ⟨gb640, 2, none⟩ = some (.string a1_2)) (ds := []) #[false, false, false, false, false, false, false, false] (by kernel_rfl) rfl rfl ⟨(blk_cell BK639.out 0).trans rfl, (blk_cell BK639.out 1).trans rfl, (blk_cell BK639.out 2).trans rfl, (blk_cell BK641.out 0).trans rfl, (blk_cell BK641.out 1).trans rfl, (blk_cell BK641.out 2).trans rfl, (blk_cell BK640.out 0).trans rfl, (blk_cell BK640.out 1).trans rfl, (blk_cell BK640.out 2).trans rfl⟩ (fun hHeld => ?_); refine with_tabW insolvencylaw2_RationalMonotone.tab5 insolvencylaw2_RationalMonotone.bits5 (fun HT_ HW_ => ?_)
    generalize w36.drew = w37 at HO644 BK639 BK640 BK641 HB hHeld ⊢
    refine take_ (i := 0) (N := some 27) (v := ?_) (a' := ?_) #[true, false, false, false, false, false, false, false] rfl rfl (take_ofW HT_.out HW_.out (by kernel_rfl)) (fun _ _ _ h => h) (Or.inl ⟨by rfl, ?_⟩) hHeld ?_ ?_
    rotate_left
    ·rintro w' ⟨s0, s1, s2, s3, s4, s5, s6, s7, s8⟩
     go_simp
     with_reducible rfl
    rotate_left
    ·simp only [Act.put, List.setIfInBounds_toArray, List.set_cons_zero, List.set_cons_succ, i64_w, i32_w]
     rfl
    refine take_ (i := 1) (N := some 28) (v := ?_) (a' := ?_) #[true, true, false, false, false, false, false, false] rfl rfl (take_ofW HT_.out HW_.out (by kernel_rfl)) (fun _ _ _ h => h) (Or.inl ⟨by rfl, ?_⟩) hHeld ?_ ?_
    rotate_left
    ·rintro w' ⟨s0, s1, s2, s3, s4, s5, s6, s7, s8⟩
     go_simp
     with_reducible rfl
    rotate_left
    ·simp only [Act.put, List.setIfInBounds_toArray, List.set_cons_zero, List.set_cons_succ, i64_w, i32_w]
     rfl
    refine take_ (i := 3) (N := some 30) (v := ?_) (a' := ?_) #[true, true, false, true, false, false, false, false] rfl rfl (take_ofW HT_.out HW_.out (by kernel_rfl)) (fun _ _ _ h => h) (Or.inl ⟨by rfl, ?_⟩) hHeld ?_ ?_
    rotate_left
    ·rintro w' ⟨s0, s1, s2, s3, s4, s5, s6, s7, s8⟩
     go_simp
     with_reducible rfl
    rotate_left
    ·simp only [Act.put, List.setIfInBounds_toArray, List.set_cons_zero, List.set_cons_succ, i64_w, i32_w]
     rfl
    refine take_ (i := 4) (N := some 31) (v := ?_) (a' := ?_) #[true, true, false, true, true, false, false, false] rfl rfl (take_ofW HT_.out HW_.out (by kernel_rfl)) (fun _ _ _ h => h) (Or.inl ⟨by rfl, ?_⟩) hHeld ?_ ?_
    rotate_left
    ·rintro w' ⟨s0, s1, s2, s3, s4, s5, s6, s7, s8⟩
     go_simp
     with_reducible rfl
    rotate_left
    ·simp only [Act.put, List.setIfInBounds_toArray, List.set_cons_zero, List.set_cons_succ, i64_w, i32_w]
     rfl
    refine one_ (i := 2) (N := some 29) #[true, true, true, true, true, false, false, false] rfl rfl (one_of HT_.out (by kernel_rfl)) (by decide) (fun K hK => ?_)
    refine goes_ Tryd.func18 (by kernel_rfl) rfl #[.agg #[.bool a0_0, .string a0_1, .string a0_2], .agg #[.bool a2_0, .string a2_1, .string a2_2]] (by rfl) rfl rfl (by (try simp only [List.map_toArray, List.map_cons, List.map_nil]); first | done | rfl | (simp only [List.length_drop, List.length_take]; rfl)) ?_
    with_reducible refine (rational_Multiply.calls k a0_0 a0_1 a0_2 a2_0 a2_1 a2_2 t655 t656 t657 _ A10.out).mono ?_
    rintro e w38 ⟨rfl, hb⟩
    refine ⟨_, rfl, ?_⟩
    replace HO644 := Aside0.mk (rb HO644.out hb)
    replace BK639 := Aside0.mk (bk0 BK639.out hb)
    replace BK640 := Aside0.mk (bk0 BK640.out hb)
    replace BK641 := Aside0.mk (bk0 BK641.out hb)
    replace HB := Aside0.mk (bs HB.out hb)
    (try clear hb)
    (try clear hb2)
    (try clear hk)
    (try clear hi)
    refine hK.out _ _ ⟨(blk_cell BK639.out 0).trans rfl, (blk_cell BK639.out 1).trans rfl, (blk_cell BK639.out 2).trans rfl, (blk_cell BK641.out 0).trans rfl, (blk_cell BK641.out 1).trans rfl, (blk_cell BK641.out 2).trans rfl, (blk_cell BK640.out 0).trans rfl, (blk_cell BK640.out 1).trans rfl, (blk_cell BK640.out 2).trans rfl⟩ (fun hHeld => ?_)
    clear hK K
    refine norm_ (a' := ?_) ?_ ?_
    rotate_left
    ·show Act.put _ (some 29) _ = _
     simp only [Act.put, List.setIfInBounds_toArray, List.set_cons_zero, List.set_cons_succ, i64_w, i32_w]
     rfl
    refine one_ (i := 5) (N := some 32) #[true, true, true, true, true, true, false, false] rfl rfl (one_of HT_.out (by kernel_rfl)) (by decide) (fun K hK => ?_)
    refine goes_ Tryd.func18 (by kernel_rfl) rfl #[.agg #[.bool a1_0, .string a1_1, .string a1_2], .agg #[.bool a2_0, .string a2_1, .string a2_2]] (by rfl) rfl rfl (by (try simp only [List.map_toArray, List.map_cons, List.map_nil]); first | done | rfl | (simp only [List.length_drop, List.length_take]; rfl)) ?_
    with_reducible refine (rational_Multiply.calls k a1_0 a1_1 a1_2 a2_0 a2_1 a2_2 t658 t659 t660 _ A11.out).mono ?_
    rintro e w39 ⟨rfl, hb⟩
    refine ⟨_, rfl, ?_⟩
    replace HO644 := Aside0.mk (rb HO644.out hb)
    replace BK639 := Aside0.mk (bk0 BK639.out hb)
    replace BK640 := Aside0.mk (bk0 BK640.out hb)
    replace BK641 := Aside0.mk (bk0 BK641.out hb)
    replace HB := Aside0.mk (bs HB.out hb)
    (try clear hb)
    (try clear hb2)
    (try clear hk)
    (try clear hi)
    refine hK.out _ _ ⟨(blk_cell BK639.out 0).trans rfl, (blk_cell BK639.out 1).trans rfl, (blk_cell BK639.out 2).trans rfl, (blk_cell BK641.out 0).trans rfl, (blk_cell BK641.out 1).trans rfl, (blk_cell BK641.out 2).trans rfl, (blk_cell BK640.out 0).trans rfl, (blk_cell BK640.out 1).trans rfl, (blk_cell BK640.out 2).trans rfl⟩ (fun hHeld => ?_)
    clear hK K
    refine norm_ (a' := ?_) ?_ ?_
    rotate_left
    ·show Act.put _ (some 32) _ = _
     simp only [Act.put, List.setIfInBounds_toArray, List.set_cons_zero, List.set_cons_succ, i64_w, i32_w]
     rfl
    refine one_ (i := 6) (N := some 33) #[true, true, true, true, true, true, true, false] rfl rfl (one_of HT_.out (by kernel_rfl)) (by decide) (fun K hK => ?_)
    refine goes_ Tryd.func17 (by kernel_rfl) rfl #[.agg #[.bool t655, .string t656, .string t657], .agg #[.bool t658, .string t659, .string t660]] (by rfl) rfl rfl (by (try simp only [List.map_toArray, List.map_cons, List.map_nil]); first | done | rfl | (simp only [List.length_drop, List.length_take]; rfl)) ?_
    with_reducible refine (rational_Compare.calls k t655 t656 t657 t658 t659 t660 t661 _ A12.out).mono ?_
    rintro e w40 ⟨rfl, hb⟩
    refine ⟨_, rfl, ?_⟩
    replace HO644 := Aside0.mk (rb HO644.out hb)
    replace BK639 := Aside0.mk (bk0 BK639.out hb)
    replace BK640 := Aside0.mk (bk0 BK640.out hb)
    replace BK641 := Aside0.mk (bk0 BK641.out hb)
    replace HB := Aside0.mk (bs HB.out hb)
    (try clear hb)
    (try clear hb2)
    (try clear hk)
    (try clear hi)
    refine hK.out _ _ ⟨(blk_cell BK639.out 0).trans rfl, (blk_cell BK639.out 1).trans rfl, (blk_cell BK639.out 2).trans rfl, (blk_cell BK641.out 0).trans rfl, (blk_cell BK641.out 1).trans rfl, (blk_cell BK641.out 2).trans rfl, (blk_cell BK640.out 0).trans rfl, (blk_cell BK640.out 1).trans rfl, (blk_cell BK640.out 2).trans rfl⟩ (fun hHeld => ?_)
    clear hK K
    refine norm_ (a' := ?_) ?_ ?_
    rotate_left
    ·show Act.put _ (some 33) _ = _
     simp only [Act.put, List.setIfInBounds_toArray, List.set_cons_zero, List.set_cons_succ, i64_w, i32_w]
     rfl
    refine pure_ (i := 7) (N := some 9) (v := ?_) (a' := ?_) #[true, true, true, true, true, true, true, true] rfl rfl (any_of HT_.out (by kernel_rfl)) (fun _ _ _ h => h) (Or.inl ⟨by rfl, ?_⟩) ?_ ?_
    rotate_left
    ·intro w'
     go_simp
     with_reducible rfl
    rotate_left
    ·simp only [Act.put, List.setIfInBounds_toArray, List.set_cons_zero, List.set_cons_succ, i64_w, i32_w]
     rfl
    refine done_ (done_of HT_.out (by kernel_rfl)) ?_
    try go_wp2_with (first | ((with_reducible refine gc 8 rfl ?_); refine gl (some 34) Tryd.func8 #[] ?_; (with_reducible refine (insolvencylaw2_awake.calls k  true _ A13.out).mono ?_); rintro e w41 ⟨rfl, hb⟩; refine ⟨_, rfl, ?_⟩; replace HO644 := Aside0.mk (rb HO644.out hb); replace BK639 := Aside0.mk (bk0 BK639.out hb); replace BK640 := Aside0.mk (bk0 BK640.out hb); replace BK641 := Aside0.mk (bk0 BK641.out hb); replace HB := Aside0.mk (bs HB.out hb); (try clear hb); obtain ⟨hcz42_0, hcz42_1, hcz42_2, hfz42_0, hfz42_1, hfz42_2⟩ := c3 BK641.out) | (go_at_call 19; (with_reducible refine (rational_Sign.calls k a2_0 a2_1 a2_2 t663 _ A16.out).mono ?_); rintro e w43 ⟨rfl, hb⟩; replace HO644 := Aside0.mk (rb HO644.out hb); replace BK639 := Aside0.mk (bk0 BK639.out hb); replace BK640 := Aside0.mk (bk0 BK640.out hb); replace BK641 := Aside0.mk (bk0 BK641.out hb); replace HB := Aside0.mk (bs HB.out hb); (try clear hb)))
    go_ret
    exact ⟨fe, bz HB.out⟩
   ·rw [if_neg c15] at H
    exact nf hr H
  ·replace c14 := Bool.eq_false_iff.mpr c14
   subst c14
   have H1 : (some false) = some r := by rw [if_neg (show ¬ (false = true) by decide)] at H; exact H
   clear H
   have H := H1
   clear H1
   exact nf hr H
 ·replace c5 := Bool.eq_false_iff.mpr c5
  subst c5
  have H1 : ((insolvencylaw2_awake.f k).bind fun t646 => (some t646)) = some r := by rw [if_neg (show ¬ (false = true) by decide)] at H; exact H
  clear H
  have H := H1
  clear H1
  obtain ⟨t646, A94, H⟩ := bs1 H
  obtain rfl := Option.some.inj H
  go_enter Tryd.func6, Tryd.ntmps6
  go_wp2_with (first | ((with_reducible refine gd 3 rfl ?_); refine bx 3 (#[.bool a0_0, .string a0_1, .string a0_2]) 23 ?_; intro gb639 hg w95 hbox hb; have BK639 := Aside0.mk (hbox); have GW639 := sg hg HB.out; have GE639 := sg hg HB.out; replace HB := Aside0.mk (bs HB.out hb); clear hb hbox hg) | ((with_reducible refine gd 4 rfl ?_); refine bx 4 (#[.bool a1_0, .string a1_1, .string a1_2]) 23 ?_; intro gb640 hg w96 hbox hb; have BK640 := Aside0.mk (hbox); have GW640 := sg hg HB.out; have GE640 := sg hg HB.out; replace HB := Aside0.mk (bs HB.out hb); have NB639_640 := nl hg BK639.out; have NB640_639 := nr hg BK639.out; replace BK639 := Aside0.mk (bk0 BK639.out hb); clear hb hbox hg) | ((with_reducible refine gd 5 rfl ?_); refine bx 5 (#[.bool a2_0, .string a2_1, .string a2_2]) 23 ?_; intro gb641 hg w97 hbox hb; have BK641 := Aside0.mk (hbox); have GW641 := sg hg HB.out; have GE641 := sg hg HB.out; replace HB := Aside0.mk (bs HB.out hb); have NB639_641 := nl hg BK639.out; have NB641_639 := nr hg BK639.out; replace BK639 := Aside0.mk (bk0 BK639.out hb); have NB640_641 := nl hg BK640.out; have NB641_640 := nr hg BK640.out; replace BK640 := Aside0.mk (bk0 BK640.out hb); clear hb hbox hg; have hnb98 := NB639_640.out; have hnc98 := NB640_639.out; have hnb99 := NB639_641.out; have hnc99 := NB641_639.out; obtain ⟨hcz100_0, hcz100_1, hcz100_2, hfz100_0, hfz100_1, hfz100_2⟩ := c3 BK639.out; have hnb101 := NB640_641.out; have hnc101 := NB641_640.out; obtain ⟨hcz102_0, hcz102_1, hcz102_2, hfz102_0, hfz102_1, hfz102_2⟩ := c3 BK640.out; obtain ⟨hcz103_0, hcz103_1, hcz103_2, hfz103_0, hfz103_1, hfz103_2⟩ := c3 BK641.out) | ((with_reducible refine gd 13 rfl ?_); refine Kd.R_lit k23 _ 23 ?hg (N := 13) ?hd (xs := ([(⟨a0_0, a0_1, a0_2⟩ : S23), (⟨a1_0, a1_1, a1_2⟩ : S23), (⟨a2_0, a2_1, a2_2⟩ : S23)] : List (S23))) (inner := [.bool a0_0, .string a0_1, .string a0_2, .bool a1_0, .string a1_1, .string a1_2, .bool a2_0, .string a2_1, .string a2_2]) (ok := fun _ => True) (okp := fun _ => True) ?hr ?hp (fun _ hk => hk) trivial (Below.refl _ _) (Nat.le_refl _) (by simp) ?_; (case hd => rfl); (case hg => rfl); (case hr => first | (go_simp; done) | (go_simp; rfl)); (case hp => exact (Reps.c3 (show Kd.M k23 _ _ _ (⟨a0_0, a0_1, a0_2⟩ : S23) [.bool a0_0, .string a0_1, .string a0_2] from (k23_mkM _ _ _ (⟨a0_0, a0_1, a0_2⟩ : S23) )) (Reps.c3 (show Kd.M k23 _ _ _ (⟨a1_0, a1_1, a1_2⟩ : S23) [.bool a1_0, .string a1_1, .string a1_2] from (k23_mkM _ _ _ (⟨a1_0, a1_1, a1_2⟩ : S23) )) (Reps.c3 (show Kd.M k23 _ _ _ (⟨a2_0, a2_1, a2_2⟩ : S23) [.bool a2_0, .string a2_1, .string a2_2] from (k23_mkM _ _ _ (⟨a2_0, a2_1, a2_2⟩ : S23) )) (Reps.none _ _))))); intro v643 w104 ho105 hb hg_ hnew_; clear hg_ hnew_; (first | rw [← Ny642.out] at ho105 | (simp only [Int.reduceToNat] at ho105; rw [← Ny642.out] at ho105)); have HO644 := Aside0.mk (Kd.R_lower (Kd.R_newB (Kd.R_newB (Kd.R_newB ho105 (g := gb639) (o := .cells #[.bool a0_0, .string a0_1, .string a0_2] 23 (0, 0)) (bq BK639.out)) (g := gb640) (o := .cells #[.bool a1_0, .string a1_1, .string a1_2] 23 (0, 0)) (bq BK640.out)) (g := gb641) (o := .cells #[.bool a2_0, .string a2_1, .string a2_2] 23 (0, 0)) (bq BK641.out)) (sz HB.out)); replace BK639 := Aside0.mk (bk0 BK639.out hb); replace BK640 := Aside0.mk (bk0 BK640.out hb); replace BK641 := Aside0.mk (bk0 BK641.out hb); replace HB := Aside0.mk (bs HB.out hb); clear hb ho105; obtain ⟨Ao106, co106, eo106⟩ := Kd.R_slice HO644.out; subst eo106) | ((with_reducible refine gc 7 rfl ?_); refine gl (some 14) Tryd.func7 #[.slice Ao106 y642.length co106] ?_; (with_reducible refine (insolvencylaw2_few.calls k _ _ y642 false _ ?side1 ?side2 A4.out).mono ?_); (case side1 => exact vs (Kd.R_reads' HO644.out).2.2); (case side2 => exact (Kd.R_reads' HO644.out).2.1); rintro e w107 ⟨rfl, hb⟩; refine ⟨_, rfl, ?_⟩; replace HO644 := Aside0.mk (rb HO644.out hb); replace BK639 := Aside0.mk (bk0 BK639.out hb); replace BK640 := Aside0.mk (bk0 BK640.out hb); replace BK641 := Aside0.mk (bk0 BK641.out hb); replace HB := Aside0.mk (bs HB.out hb); (try clear hb)) | ((with_reducible refine gc 8 rfl ?_); refine gl (some 16) Tryd.func8 #[] ?_; (with_reducible refine (insolvencylaw2_awake.calls k  t646 _ A94.out).mono ?_); rintro e w108 ⟨rfl, hb⟩; refine ⟨_, rfl, ?_⟩; replace HO644 := Aside0.mk (rb HO644.out hb); replace BK639 := Aside0.mk (bk0 BK639.out hb); replace BK640 := Aside0.mk (bk0 BK640.out hb); replace BK641 := Aside0.mk (bk0 BK641.out hb); replace HB := Aside0.mk (bs HB.out hb); (try clear hb)))
  go_ret
  exact ⟨fe, bz HB.out⟩

end Go.Proofs.YtgepdnoaemeofaaDoor.E
