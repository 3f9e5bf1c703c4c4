/- Printed by a program of this session (wip/tools) out of the translation: plain functions and the proofs that the code comes to their answers. -/
import Derived.Test.YtgepdnoaemeofaaDoorK
import Derived.Test.YtgepdnoaemeofaaDoorR0
import Derived.Test.YtgepdnoaemeofaaDoorR2
import Derived.Test.YtgepdnoaemeofaaDoorR7
namespace Go.Proofs.YtgepdnoaemeofaaDoor.R
open Go.RowKit Go.Proofs.YtgepdnoaemeofaaDoorW.PrintWords Go.Proofs.YtgepdnoaemeofaaDoorW.PrintLast Go.Proofs.YtgepdnoaemeofaaDoorW.PrintMore Go.Proofs.YtgepdnoaemeofaaDoorW.PK
attribute [local go_sem] max2_int min2_int max_two min_two max_three min_three max_four min_four   -- for this text's walks alone
set_option linter.unusedVariables false
set_option linter.unusedSimpArgs false

/-! ### rational_Valid: function 9 -/
def rational_Valid.j0 : Nat → Bool → Bool → ByteArray → ByteArray → Option (Bool)
 | 0, _, _, _, _ => none
 | k + 1, x16, x382000, x382001, x382002 => if x16 = true then (some false) else (if x382001.toList = ([] : List UInt8) then (if x382000 = true then (some false) else (some (x382002.toList == ([] : List UInt8)))) else (if x382002.toList = ([] : List UInt8) then (some true) else (if x382002.toList = ([1] : List UInt8) then (some false) else ((natural_GCD.f k x382001 x382002).bind fun t384 => (some (t384.toList == ([1] : List UInt8)))))))
def rational_Valid.f (k : Nat) (a0_0 : Bool) (a0_1 : ByteArray) (a0_2 : ByteArray) : Option (Bool) := (natural_Normalize.f k a0_1).bind fun t382 => (if t382.toList = a0_1.toList then ((natural_Normalize.f k a0_2).bind fun t383 => (rational_Valid.j0 k (t383.toList != a0_2.toList) a0_0 a0_1 a0_2)) else (rational_Valid.j0 k true a0_0 a0_1 a0_2))
theorem rational_Valid.mono_l : ∀ k, (∀ y0 y1 y2 y3, LeO (rational_Valid.j0 k y0 y1 y2 y3) (rational_Valid.j0 (k + 1) y0 y1 y2 y3))
 | 0 => fun _ _ _ _ r h => by simp [rational_Valid.j0] at h
 | k + 1 => by
  have ih0 := rational_Valid.mono_l k
  ·intro y0 y1 y2 y3
   unfold rational_Valid.j0
   repeat' with_reducible first | exact ih0 _ _ _ _ | exact natural_GCD.mono _ _ _ | exact natural_Normalize.mono _ _ | exact LeO.refl _ | exact LeO.none _ | refine LeO.ite ?_ ?_ | refine LeO.bind ?_ (fun _ => ?_)
theorem rational_Valid.mono : ∀ a0 a1 a2 k, LeO (rational_Valid.f k a0 a1 a2) (rational_Valid.f (k + 1) a0 a1 a2) := by
 intro a0 a1 a2 k
 have ih0 := rational_Valid.mono_l k
 unfold rational_Valid.f
 repeat' with_reducible first | exact ih0 _ _ _ _ | exact natural_GCD.mono _ _ _ | exact natural_Normalize.mono _ _ | exact LeO.refl _ | exact LeO.none _ | refine LeO.ite ?_ ?_ | refine LeO.bind ?_ (fun _ => ?_)
def rational_Valid.T1 : Bool × List (List Nat × List Nat) := (true, [([], []), ([0], [0]), ([1], [1]), ([], []), ([3], [3]), ([2, 4], [2, 4]), ([5, 2], [5]), ([6], [6]), ([7, 6], [6, 7]), ([8, 6, 6], [6, 8]), ([6], [6]), ([10, 6], [6, 10]), ([9, 11, 6], [6, 9, 11]), ([6, 12], [6, 12])])
def rational_Valid.B1 : List Nat := [0, 1, 3, 0, 8, 31, 63, 127, 255, 511, 127, 1151, 4095, 8191]
theorem rational_Valid.tab1 : rtab .any (opsOf Tryd.f9 1) = rational_Valid.T1 := by kernel_rfl
theorem rational_Valid.bits1 : waitsOk rational_Valid.T1.2 rational_Valid.B1 = true := by kernel_rfl
set_option maxHeartbeats 8000000 in
set_option maxRecDepth 100000 in
theorem rational_Valid.calls (k : Nat) (a0_0 : Bool) (a0_1 : ByteArray) (a0_2 : ByteArray) (r : Bool) (w : World) (h : rational_Valid.f k a0_0 a0_1 a0_2 = some r) :
  Calls Tryd.prog 9 #[.agg #[.bool a0_0, .string a0_1, .string a0_2]] w fun e w' => e = .returned (.bool r) ∧ Below w.heap.size w w' := by
 have hu23 := Tryd.underlying23
 have HB := Aside0.mk (Below.refl w.heap.size w)
 have H := h
 clear h
 unfold rational_Valid.f at H
 have HC2 := Aside0.mk H
 clear H
 go_enter Tryd.func9, Tryd.ntmps9
 (try (simp only [Exit.then]; refine (by assumption : ∀ (a : Act) (w : World), Code.wp _ _ _ a w → _) _ _ ?_))
 go_upto_region 1 with (first | ((with_reducible refine gd 1 rfl ?_); refine bx 1 (#[.bool a0_0, .string a0_1, .string a0_2]) 23 ?_; intro gb381 hg w3 hbox hb; have BK381 := Aside0.mk (hbox); have GW381 := sg hg HB.out; have GE381 := sg hg HB.out; replace HB := Aside0.mk (bs HB.out hb); clear hb hbox hg))
 (try simp only [Act.put, List.setIfInBounds_toArray, List.set_cons_zero, List.set_cons_succ])
 go_cut [16] (fun v16 wc => ∃ (kq : Nat) (x16_1 : Bool), v16 = .bool x16_1 ∧ Aside0 (rational_Valid.j0 kq x16_1 a0_0 a0_1 a0_2 = some r) ∧ Aside0 (kq ≤ k) ∧ Aside0 (wc.heap[gb381]? = some (.cells #[.bool a0_0, .string a0_1, .string a0_2] 23 (0, 0))) ∧ Aside0 (Below w.heap.size w wc))
 case first =>
  have H := HC2.out
  clear HC2
  obtain ⟨t382, A4, H⟩ := bs1 H
  by_cases c5 : t382.toList = a0_1.toList
  ·rw [if_pos c5] at H
   have c5b0 := beq_iff_eq.mpr c5
   have c5b1 := bne_eq_false_iff_eq.mpr c5
   clear c5
   (first | rw [c5b0] | (simp only [i64_w, i32_w]; rw [c5b0]) | skip)
   obtain ⟨t383, A6, H⟩ := bs1 H
   have H' := Aside0.mk H
   clear H
   try go_wp2
   replace BK381 := Aside0.mk (blk_drew BK381.out)
   replace HB := Aside0.mk (below_drew1 HB.out)
   refine start_ (n := 14) (S := fun w' => w'.cell? ⟨gb381, 0, none⟩ = some (.bool a0_0) ∧ w'.cell? ⟨gb381, 1, none⟩ = some (.string a0_1) ∧ w'.cell? ⟨gb381, 2, none⟩ = some (.string a0_2)) (ds := []) #[false, false, false, false, false, false, false, false, false, false, false, false, false, false] (by kernel_rfl) rfl rfl ⟨(blk_cell BK381.out 0).trans rfl, (blk_cell BK381.out 1).trans rfl, (blk_cell BK381.out 2).trans rfl⟩ (fun hHeld => ?_); refine with_tabW rational_Valid.tab1 rational_Valid.bits1 (fun HT_ HW_ => ?_)
   generalize w3.drew = w7 at BK381 HB hHeld ⊢
   refine py 0 (some 3) #[true, false, false, false, false, false, false, false, false, false, false, false, false, false] HT_ ?_
   refine py 3 (some 6) #[true, false, false, true, false, false, false, false, false, false, false, false, false, false] HT_ ?_
   refine take_ (i := 1) (N := some 4) (v := ?_) (a' := ?_) #[true, true, false, true, false, false, false, false, false, false, false, false, false, false] rfl rfl (take_ofW HT_.out HW_.out (by kernel_rfl)) (fun _ _ _ h => h) (Or.inl ⟨by rfl, ?_⟩) hHeld ?_ ?_
   rotate_left
   ·rintro w' ⟨s0, s1, s2⟩
    go_simp
    with_reducible rfl
   rotate_left
   ·simp only [Act.put, List.setIfInBounds_toArray, List.set_cons_zero, List.set_cons_succ, i64_w, i32_w]
    rfl
   refine take_ (i := 4) (N := some 7) (v := ?_) (a' := ?_) #[true, true, false, true, true, false, false, false, false, false, false, false, false, false] rfl rfl (take_ofW HT_.out HW_.out (by kernel_rfl)) (fun _ _ _ h => h) (Or.inl ⟨by rfl, ?_⟩) hHeld ?_ ?_
   rotate_left
   ·rintro w' ⟨s0, s1, s2⟩
    go_simp
    with_reducible rfl
   rotate_left
   ·simp only [Act.put, List.setIfInBounds_toArray, List.set_cons_zero, List.set_cons_succ, i64_w, i32_w]
    rfl
   refine one_ (i := 2) (N := some 5) #[true, true, true, true, true, false, false, false, false, false, false, false, false, false] rfl rfl (one_of HT_.out (by kernel_rfl)) (by decide) (fun K hK => ?_)
   refine gs Tryd.func26 #[.string a0_1] ?_
   with_reducible refine (natural_Normalize.calls k a0_1 t382 _ A4.out).mono ?_
   rintro e w8 ⟨rfl, hb⟩
   refine ⟨_, rfl, ?_⟩
   replace BK381 := Aside0.mk (bk0 BK381.out hb)
   replace HB := Aside0.mk (bs HB.out hb)
   (try clear hb)
   refine hK.out _ _ ⟨(blk_cell BK381.out 0).trans rfl, (blk_cell BK381.out 1).trans rfl, (blk_cell BK381.out 2).trans rfl⟩ (fun hHeld => ?_)
   clear hK K
   refine nm ?_
   refine py 5 (some 8) #[true, true, true, true, true, true, false, false, false, false, false, false, false, false] HT_ ?_
   refine py 6 (some 9) #[true, true, true, true, true, true, true, false, false, false, false, false, false, false] HT_ ?_
   refine py 7 (some 10) #[true, true, true, true, true, true, true, true, false, false, false, false, false, false] HT_ ?_
   refine py 10 (some 13) #[true, true, true, true, true, true, true, true, false, false, true, false, false, false] HT_ ?_
   refine take_ (i := 8) (N := some 11) (v := ?_) (a' := ?_) #[true, true, true, true, true, true, true, true, true, false, true, false, false, false] rfl rfl (take_ofW HT_.out HW_.out (by kernel_rfl)) (fun _ _ _ h => h) (Or.inl ⟨by rfl, ?_⟩) hHeld ?_ ?_
   rotate_left
   ·rintro w' ⟨s0, s1, s2⟩
    go_simp
    with_reducible rfl
   rotate_left
   ·simp only [Act.put, List.setIfInBounds_toArray, List.set_cons_zero, List.set_cons_succ, i64_w, i32_w]
    rfl
   refine take_ (i := 11) (N := some 14) (v := ?_) (a' := ?_) #[true, true, true, true, true, true, true, true, true, false, true, true, false, false] rfl rfl (take_ofW HT_.out HW_.out (by kernel_rfl)) (fun _ _ _ h => h) (Or.inl ⟨by rfl, ?_⟩) hHeld ?_ ?_
   rotate_left
   ·rintro w' ⟨s0, s1, s2⟩
    go_simp
    with_reducible rfl
   rotate_left
   ·simp only [Act.put, List.setIfInBounds_toArray, List.set_cons_zero, List.set_cons_succ, i64_w, i32_w]
    rfl
   refine one_ (i := 9) (N := some 12) #[true, true, true, true, true, true, true, true, true, true, true, true, false, false] rfl rfl (one_of HT_.out (by kernel_rfl)) (by decide) (fun K hK => ?_)
   refine gs Tryd.func26 #[.string a0_2] ?_
   with_reducible refine (natural_Normalize.calls k a0_2 t383 _ A6.out).mono ?_
   rintro e w9 ⟨rfl, hb⟩
   refine ⟨_, rfl, ?_⟩
   replace BK381 := Aside0.mk (bk0 BK381.out hb)
   replace HB := Aside0.mk (bs HB.out hb)
   (try clear hb)
   refine hK.out _ _ ⟨(blk_cell BK381.out 0).trans rfl, (blk_cell BK381.out 1).trans rfl, (blk_cell BK381.out 2).trans rfl⟩ (fun hHeld => ?_)
   clear hK K
   refine nm ?_
   refine py 12 (some 15) #[true, true, true, true, true, true, true, true, true, true, true, true, true, false] HT_ ?_
   refine py 13 (some 16) #[true, true, true, true, true, true, true, true, true, true, true, true, true, true] HT_ ?_
   refine done_ (done_of HT_.out (by kernel_rfl)) ?_
   try go_wp2
   go_meet
   case rel => exact ⟨_, ((t383.toList != a0_2.toList)), fs, H', ⟨by first | omega | exact Nat.le_refl _⟩, ⟨bq BK381.out⟩, ⟨bz HB.out⟩⟩
  ·rw [if_neg c5] at H
   have c5b0 := beq_eq_false_iff_ne.mpr c5
   have c5b1 := bne_iff_ne.mpr c5
   (first | rw [c5b0] | (simp only [i64_w, i32_w]; rw [c5b0]) | skip)
   have H' := Aside0.mk H
   clear H
   try go_wp2
   replace BK381 := Aside0.mk (blk_drew BK381.out)
   replace HB := Aside0.mk (below_drew1 HB.out)
   refine start_ (n := 14) (S := fun w' => w'.cell? ⟨gb381, 0, none⟩ = some (.bool a0_0) ∧ w'.cell? ⟨gb381, 1, none⟩ = some (.string a0_1) ∧ w'.cell? ⟨gb381, 2, none⟩ = some (.string a0_2)) (ds := []) #[false, false, false, false, false, false, false, false, false, false, false, false, false, false] (by kernel_rfl) rfl rfl ⟨(blk_cell BK381.out 0).trans rfl, (blk_cell BK381.out 1).trans rfl, (blk_cell BK381.out 2).trans rfl⟩ (fun hHeld => ?_); refine with_tabW rational_Valid.tab1 rational_Valid.bits1 (fun HT_ HW_ => ?_)
   generalize w3.drew = w10 at BK381 HB hHeld ⊢
   refine py 0 (some 3) #[true, false, false, false, false, false, false, false, false, false, false, false, false, false] HT_ ?_
   refine py 3 (some 6) #[true, false, false, true, false, false, false, false, false, false, false, false, false, false] HT_ ?_
   refine take_ (i := 1) (N := some 4) (v := ?_) (a' := ?_) #[true, true, false, true, false, false, false, false, false, false, false, false, false, false] rfl rfl (take_ofW HT_.out HW_.out (by kernel_rfl)) (fun _ _ _ h => h) (Or.inl ⟨by rfl, ?_⟩) hHeld ?_ ?_
   rotate_left
   ·rintro w' ⟨s0, s1, s2⟩
    go_simp
    with_reducible rfl
   rotate_left
   ·simp only [Act.put, List.setIfInBounds_toArray, List.set_cons_zero, List.set_cons_succ, i64_w, i32_w]
    rfl
   refine take_ (i := 4) (N := some 7) (v := ?_) (a' := ?_) #[true, true, false, true, true, false, false, false, false, false, false, false, false, false] rfl rfl (take_ofW HT_.out HW_.out (by kernel_rfl)) (fun _ _ _ h => h) (Or.inl ⟨by rfl, ?_⟩) hHeld ?_ ?_
   rotate_left
   ·rintro w' ⟨s0, s1, s2⟩
    go_simp
    with_reducible rfl
   rotate_left
   ·simp only [Act.put, List.setIfInBounds_toArray, List.set_cons_zero, List.set_cons_succ, i64_w, i32_w]
    rfl
   refine one_ (i := 2) (N := some 5) #[true, true, true, true, true, false, false, false, false, false, false, false, false, false] rfl rfl (one_of HT_.out (by kernel_rfl)) (by decide) (fun K hK => ?_)
   refine gs Tryd.func26 #[.string a0_1] ?_
   with_reducible refine (natural_Normalize.calls k a0_1 t382 _ A4.out).mono ?_
   rintro e w11 ⟨rfl, hb⟩
   refine ⟨_, rfl, ?_⟩
   replace BK381 := Aside0.mk (bk0 BK381.out hb)
   replace HB := Aside0.mk (bs HB.out hb)
   (try clear hb)
   refine hK.out _ _ ⟨(blk_cell BK381.out 0).trans rfl, (blk_cell BK381.out 1).trans rfl, (blk_cell BK381.out 2).trans rfl⟩ (fun hHeld => ?_)
   clear hK K
   refine nm ?_
   refine py 5 (some 8) #[true, true, true, true, true, true, false, false, false, false, false, false, false, false] HT_ ?_
   refine py 6 (some 9) #[true, true, true, true, true, true, true, false, false, false, false, false, false, false] HT_ ?_
   refine pu 7 (some 10) #[true, true, true, true, true, true, true, true, false, false, false, false, false, false] HT_ ?_
   refine pu 8 (some 11) #[true, true, true, true, true, true, true, true, true, false, false, false, false, false] HT_ ?_
   refine pu 9 (some 12) #[true, true, true, true, true, true, true, true, true, true, false, false, false, false] HT_ ?_
   refine pu 10 (some 13) #[true, true, true, true, true, true, true, true, true, true, true, false, false, false] HT_ ?_
   refine pu 11 (some 14) #[true, true, true, true, true, true, true, true, true, true, true, true, false, false] HT_ ?_
   refine pu 12 (some 15) #[true, true, true, true, true, true, true, true, true, true, true, true, true, false] HT_ ?_
   refine py 13 (some 16) #[true, true, true, true, true, true, true, true, true, true, true, true, true, true] HT_ ?_
   refine done_ (done_of HT_.out (by kernel_rfl)) ?_
   try go_wp2
   go_meet
   case rel => exact ⟨_, (true), fs, H', ⟨by first | omega | exact Nat.le_refl _⟩, ⟨bq BK381.out⟩, ⟨bz HB.out⟩⟩
 case rest =>
  clear HC2
  (try clear c5b0); (try clear c5b1)
  obtain ⟨kq, x16_1, rfl, HA, HJ1, BK381, HB⟩ := hcut
  cases kq with
  | zero => exact absurd HA.out (by simp [rational_Valid.j0])
  | succ kj1 =>
   have H := HA.out
   clear HA
   simp only [rational_Valid.j0] at H
   by_cases c12 : x16_1 = true
   ·subst c12
    have H1 : (some false) = some r := by rw [if_pos rfl] at H; exact H
    clear H
    have H := H1
    clear H1
    obtain rfl := Option.some.inj H
    go_wp2
    go_ret
    exact ⟨fe, bz HB.out⟩
   ·replace c12 := Bool.eq_false_iff.mpr c12
    subst c12
    have H1 : (if a0_1.toList = ([] : List UInt8) then (if a0_0 = true then (some false) else (some (a0_2.toList == ([] : List UInt8)))) else (if a0_2.toList = ([] : List UInt8) then (some true) else (if a0_2.toList = ([1] : List UInt8) then (some false) else ((natural_GCD.f kj1 a0_1 a0_2).bind fun t384 => (some (t384.toList == ([1] : List UInt8))))))) = some r := by rw [if_neg (show ¬ (false = true) by decide)] at H; exact H
    clear H
    have H := H1
    clear H1
    by_cases c13 : a0_1.toList = ([] : List UInt8)
    ·rw [if_pos c13] at H
     have c13b0 := beq_iff_eq.mpr c13
     have c13b1 := bne_eq_false_iff_eq.mpr c13
     clear c13
     by_cases c14 : a0_0 = true
     ·subst c14
      have H1 : (some false) = some r := by rw [if_pos rfl] at H; exact H
      clear H
      have H := H1
      clear H1
      obtain rfl := Option.some.inj H
      obtain ⟨hcz15_0, hcz15_1, hcz15_2, hfz15_0, hfz15_1, hfz15_2⟩ := c3 BK381.out
      go_wp2
      go_ret
      exact ⟨fe, bz HB.out⟩
     ·replace c14 := Bool.eq_false_iff.mpr c14
      subst c14
      have H1 : (some (a0_2.toList == ([] : List UInt8))) = some r := by rw [if_neg (show ¬ (false = true) by decide)] at H; exact H
      clear H
      have H := H1
      clear H1
      obtain rfl := Option.some.inj H
      obtain ⟨hcz16_0, hcz16_1, hcz16_2, hfz16_0, hfz16_1, hfz16_2⟩ := c3 BK381.out
      go_wp2
      go_ret
      exact ⟨fe, bz HB.out⟩
    ·rw [if_neg c13] at H
     have c13b0 := beq_eq_false_iff_ne.mpr c13
     have c13b1 := bne_iff_ne.mpr c13
     by_cases c17 : a0_2.toList = ([] : List UInt8)
     ·rw [if_pos c17] at H
      have c17b0 := beq_iff_eq.mpr c17
      have c17b1 := bne_eq_false_iff_eq.mpr c17
      clear c17
      obtain rfl := Option.some.inj H
      obtain ⟨hcz18_0, hcz18_1, hcz18_2, hfz18_0, hfz18_1, hfz18_2⟩ := c3 BK381.out
      go_wp2
      go_ret
      exact ⟨fe, bz HB.out⟩
     ·rw [if_neg c17] at H
      have c17b0 := beq_eq_false_iff_ne.mpr c17
      have c17b1 := bne_iff_ne.mpr c17
      by_cases c19 : a0_2.toList = ([1] : List UInt8)
      ·rw [if_pos c19] at H
       have c19b0 := beq_iff_eq.mpr c19
       have c19b1 := bne_eq_false_iff_eq.mpr c19
       clear c19
       obtain rfl := Option.some.inj H
       obtain ⟨hcz20_0, hcz20_1, hcz20_2, hfz20_0, hfz20_1, hfz20_2⟩ := c3 BK381.out
       go_wp2
       go_ret
       exact ⟨fe, bz HB.out⟩
      ·rw [if_neg c19] at H
       have c19b0 := beq_eq_false_iff_ne.mpr c19
       have c19b1 := bne_iff_ne.mpr c19
       obtain ⟨t384, A21, H⟩ := bs1 H
       obtain rfl := Option.some.inj H
       obtain ⟨hcz22_0, hcz22_1, hcz22_2, hfz22_0, hfz22_1, hfz22_2⟩ := c3 BK381.out
       go_wp2_with (first | (go_at_call 27; (with_reducible refine (natural_GCD.calls kj1 a0_1 a0_2 t384 _ A21.out).mono ?_); rintro e w23 ⟨rfl, hb⟩; replace BK381 := Aside0.mk (bk0 BK381.out hb); replace HB := Aside0.mk (bs HB.out hb); (try clear hb)))
       go_ret
       exact ⟨fe, bz HB.out⟩

/-! ### rational_clean: function 34 -/
def rational_clean.f (k : Nat) (a0_0 : Bool) (a0_1 : ByteArray) (a0_2 : ByteArray) : Option (Bool × ByteArray × ByteArray) := (rational_Valid.f k a0_0 a0_1 a0_2).bind fun t387 => (if t387 = true then (some (a0_0, a0_1, a0_2)) else (some (false, (⟨#[]⟩ : ByteArray), (⟨#[]⟩ : ByteArray))))
theorem rational_clean.mono : ∀ a0 a1 a2 k, LeO (rational_clean.f k a0 a1 a2) (rational_clean.f (k + 1) a0 a1 a2) := by
 intro a0 a1 a2 k
 unfold rational_clean.f
 repeat' with_reducible first | exact rational_Valid.mono _ _ _ _ | exact LeO.refl _ | exact LeO.none _ | refine LeO.ite ?_ ?_ | refine LeO.bind ?_ (fun _ => ?_)
set_option maxHeartbeats 8000000 in
set_option maxRecDepth 100000 in
theorem rational_clean.calls (k : Nat) (a0_0 : Bool) (a0_1 : ByteArray) (a0_2 : ByteArray) (r1 : Bool) (r2 : ByteArray) (r3 : ByteArray) (w : World) (h : rational_clean.f k a0_0 a0_1 a0_2 = some (r1, r2, r3)) :
  Calls Tryd.prog 34 #[.agg #[.bool a0_0, .string a0_1, .string a0_2]] w fun e w' => e = .returned (.agg #[.bool r1, .string r2, .string r3]) ∧ Below w.heap.size w w' := by
 have hu23 := Tryd.underlying23
 have HB := Aside0.mk (Below.refl w.heap.size w)
 have H := h
 clear h
 unfold rational_clean.f at H
 obtain ⟨t387, A2, H⟩ := bs1 H
 by_cases c3 : t387 = true
 ·subst c3
  have H1 : (some (a0_0, a0_1, a0_2)) = some (r1, r2, r3) := by rw [if_pos rfl] at H; exact H
  clear H
  have H := H1
  clear H1
  simp only [Option.some.injEq, Prod.mk.injEq] at H
  obtain ⟨rfl, rfl, rfl⟩ := H
  go_enter Tryd.func34, Tryd.ntmps34
  go_wp2_with (first | ((with_reducible refine gd 1 rfl ?_); refine bx 1 (#[.bool a0_0, .string a0_1, .string a0_2]) 23 ?_; intro gb385 hg w4 hbox hb; have BK385 := Aside0.mk (hbox); have GW385 := sg hg HB.out; have GE385 := sg hg HB.out; replace HB := Aside0.mk (bs HB.out hb); clear hb hbox hg) | ((with_reducible refine gd 2 rfl ?_); refine bx 2 (#[.bool false, .string (⟨#[]⟩ : ByteArray), .string (⟨#[]⟩ : ByteArray)]) 23 ?_; intro gb386 hg w5 hbox hb; have BK386 := Aside0.mk (hbox); have GW386 := sg hg HB.out; have GE386 := sg hg HB.out; replace HB := Aside0.mk (bs HB.out hb); have NB385_386 := nl hg BK385.out; have NB386_385 := nr hg BK385.out; replace BK385 := Aside0.mk (bk0 BK385.out hb); clear hb hbox hg; have hnb6 := NB385_386.out; have hnc6 := NB386_385.out; obtain ⟨hcz7_0, hcz7_1, hcz7_2, hfz7_0, hfz7_1, hfz7_2⟩ := c3 BK385.out) | ((with_reducible refine gc 9 rfl ?_); refine gl (some 4) Tryd.func9 #[.agg #[.bool a0_0, .string a0_1, .string a0_2]] ?_; (with_reducible refine (rational_Valid.calls k a0_0 a0_1 a0_2 true _ A2.out).mono ?_); rintro e w8 ⟨rfl, hb⟩; refine ⟨_, rfl, ?_⟩; replace BK385 := Aside0.mk (bk0 BK385.out hb); replace BK386 := Aside0.mk (bk0 BK386.out hb); replace HB := Aside0.mk (bs HB.out hb); (try clear hb); obtain ⟨hcz9_0, hcz9_1, hcz9_2, hfz9_0, hfz9_1, hfz9_2⟩ := c3 BK385.out; obtain ⟨hcz10_0, hcz10_1, hcz10_2, hfz10_0, hfz10_1, hfz10_2⟩ := c3 BK386.out))
  refine bodyPost_ret (results_cell_row rfl _ _ gb386 23 #[.bool a0_0, .string a0_1, .string a0_2] (0, 0) _ rfl (bq BK386.out) Tryd.underlying23 rfl (by kernel_rfl)) rfl ?_
  exact ⟨fe, bz HB.out⟩
 ·replace c3 := Bool.eq_false_iff.mpr c3
  subst c3
  have H1 : (some (false, (⟨#[]⟩ : ByteArray), (⟨#[]⟩ : ByteArray))) = some (r1, r2, r3) := by rw [if_neg (show ¬ (false = true) by decide)] at H; exact H
  clear H
  have H := H1
  clear H1
  simp only [Option.some.injEq, Prod.mk.injEq] at H
  obtain ⟨rfl, rfl, rfl⟩ := H
  go_enter Tryd.func34, Tryd.ntmps34
  go_wp2_with (first | ((with_reducible refine gd 1 rfl ?_); refine bx 1 (#[.bool a0_0, .string a0_1, .string a0_2]) 23 ?_; intro gb385 hg w11 hbox hb; have BK385 := Aside0.mk (hbox); have GW385 := sg hg HB.out; have GE385 := sg hg HB.out; replace HB := Aside0.mk (bs HB.out hb); clear hb hbox hg) | ((with_reducible refine gd 2 rfl ?_); refine bx 2 (#[.bool false, .string (⟨#[]⟩ : ByteArray), .string (⟨#[]⟩ : ByteArray)]) 23 ?_; intro gb386 hg w12 hbox hb; have BK386 := Aside0.mk (hbox); have GW386 := sg hg HB.out; have GE386 := sg hg HB.out; replace HB := Aside0.mk (bs HB.out hb); have NB385_386 := nl hg BK385.out; have NB386_385 := nr hg BK385.out; replace BK385 := Aside0.mk (bk0 BK385.out hb); clear hb hbox hg; have hnb13 := NB385_386.out; have hnc13 := NB386_385.out; obtain ⟨hcz14_0, hcz14_1, hcz14_2, hfz14_0, hfz14_1, hfz14_2⟩ := c3 BK385.out) | ((with_reducible refine gc 9 rfl ?_); refine gl (some 4) Tryd.func9 #[.agg #[.bool a0_0, .string a0_1, .string a0_2]] ?_; (with_reducible refine (rational_Valid.calls k a0_0 a0_1 a0_2 false _ A2.out).mono ?_); rintro e w15 ⟨rfl, hb⟩; refine ⟨_, rfl, ?_⟩; replace BK385 := Aside0.mk (bk0 BK385.out hb); replace BK386 := Aside0.mk (bk0 BK386.out hb); replace HB := Aside0.mk (bs HB.out hb); (try clear hb); obtain ⟨hcz16_0, hcz16_1, hcz16_2, hfz16_0, hfz16_1, hfz16_2⟩ := c3 BK386.out))
  refine bodyPost_ret (results_cell_row rfl _ _ gb386 23 #[.bool false, .string (⟨#[]⟩ : ByteArray), .string (⟨#[]⟩ : ByteArray)] (0, 0) _ rfl (bq BK386.out) Tryd.underlying23 rfl (by kernel_rfl)) rfl ?_
  exact ⟨fe, bz HB.out⟩

/-! ### slices_Reverse_byte_byte: function 69 -/
def slices_Reverse_byte_byte.l0 : Nat → List Int → Int → Int → Option (List Int)
 | 0, _, _, _ => none
 | k + 1, x0, x2, x3 => if x2 < x3 then (if 0 ≤ x3 then (if x3 < (x0.length : Int) then (if 0 ≤ x2 then (if x2 < (x0.length : Int) then (slices_Reverse_byte_byte.l0 k ((x0.set (x2 : Int).toNat (rd x0 x3)).set (x3 : Int).toNat (rd x0 x2)) (wrap64 (x2 + 1)) (wrap64 (x3 - 1))) else (none)) else (none)) else (none)) else (none)) else (some x0)
def slices_Reverse_byte_byte.f (k : Nat) (l0 : List Int) : Option (List Int) := slices_Reverse_byte_byte.l0 k l0 0 (wrap64 ((l0.length : Int) - 1))
theorem slices_Reverse_byte_byte.mono_l : ∀ k, (∀ y0 y1 y2, LeO (slices_Reverse_byte_byte.l0 k y0 y1 y2) (slices_Reverse_byte_byte.l0 (k + 1) y0 y1 y2))
 | 0 => fun _ _ _ r h => by simp [slices_Reverse_byte_byte.l0] at h
 | k + 1 => by
  have ih0 := slices_Reverse_byte_byte.mono_l k
  ·intro y0 y1 y2
   unfold slices_Reverse_byte_byte.l0
   repeat' with_reducible first | exact ih0 _ _ _ | exact LeO.refl _ | exact LeO.none _ | refine LeO.ite ?_ ?_ | refine LeO.bind ?_ (fun _ => ?_)
theorem slices_Reverse_byte_byte.mono : ∀ a0 k, LeO (slices_Reverse_byte_byte.f k a0) (slices_Reverse_byte_byte.f (k + 1) a0) := by
 intro a0 k
 have ih0 := slices_Reverse_byte_byte.mono_l k
 unfold slices_Reverse_byte_byte.f
 repeat' with_reducible first | exact ih0 _ _ _ | exact LeO.refl _ | exact LeO.none _ | refine LeO.ite ?_ ?_ | refine LeO.bind ?_ (fun _ => ?_)
def slices_Reverse_byte_byte.T3 : Bool × List (List Nat × List Nat) := (true, [([], []), ([], []), ([], []), ([], []), ([], []), ([], []), ([4, 5], [4, 5]), ([6], [6]), ([], []), ([], []), ([8, 9], [8, 9]), ([10], [10]), ([0, 1, 0, 1, 4, 5, 6, 7, 11], [0, 1]), ([12, 7, 0, 1, 4, 5, 6, 7, 11], [7, 12]), ([2, 3, 0, 1, 2, 3, 4, 5, 6, 7, 8, 9, 10, 11, 12, 13], [2, 3]), ([14, 11, 13, 0, 1, 2, 3, 4, 5, 6, 7, 8, 9, 10, 11, 12, 13], [11, 14])])
def slices_Reverse_byte_byte.B3 : List Nat := [0, 0, 0, 0, 0, 0, 48, 112, 0, 0, 768, 1792, 4083, 8179, 16383, 32767]
theorem slices_Reverse_byte_byte.tab3 : rtab .any (opsOf Tryd.f69 3) = slices_Reverse_byte_byte.T3 := by kernel_rfl
theorem slices_Reverse_byte_byte.bits3 : waitsOk slices_Reverse_byte_byte.T3.2 slices_Reverse_byte_byte.B3 = true := by kernel_rfl
set_option maxHeartbeats 8000000 in
set_option maxRecDepth 100000 in
theorem slices_Reverse_byte_byte.calls (k : Nat) (P0_ : Nat → Prop) (u9000_ : Value) (l0 : List Int) (r : List Int) (w0 w : World) (hB : Below w0.heap.size w0 w) (ho0 : Kd.R (Kd.int .u8) 5 w w0.heap.size P0_ u9000_ l0) (h : slices_Reverse_byte_byte.f k l0 = some r) :
  Calls Tryd.prog 69 #[u9000_] w fun e w' => e = .returned (.tuple #[]) ∧ Kd.R (Kd.int .u8) 5 w' w0.heap.size (fun k_ => (P0_ k_ ∨ w.heap.size ≤ k_)) u9000_ r ∧ Below w0.heap.size w0 w' ∧ Kept w w' (fun k_ => P0_ k_) := by
 have HO0 := Aside0.mk (show Kd.R (Kd.int .u8) 5 w w0.heap.size (fun k_ => (P0_ k_ ∨ w.heap.size ≤ k_)) u9000_ l0 from Kd.R_mono ho0 (fun k_ hk => (.inl hk)))
 have HK := Aside0.mk (Kept.refl w (fun k_ => P0_ k_))
 have HW0 := Aside0.mk hB.size
 have HB := Aside0.mk hB
 clear hB
 have H := h
 clear h
 unfold slices_Reverse_byte_byte.f at H
 have H' := Aside0.mk H
 clear H
 obtain ⟨Ao2, co2, eo2⟩ := Kd.R_slice HO0.out
 subst eo2
 go_enter Tryd.func69, Tryd.ntmps69
 go_wp2
 go_loopg [2, 3] k (fun kq v2 v3 w' => ∃ (x0_1 : List Int) (x2_1 : Int) (x3_1 : Int), v2 = .int .i64 x2_1 ∧ v3 = .int .i64 x3_1 ∧ Aside0 (slices_Reverse_byte_byte.l0 kq x0_1 x2_1 x3_1 = some r) ∧ Aside0 (kq ≤ k) ∧ Aside0 (Kd.R (Kd.int .u8) 5 w' w0.heap.size (fun k_ => (P0_ k_ ∨ w.heap.size ≤ k_)) (.slice Ao2 l0.length co2) x0_1) ∧ Aside0 (Kept w w' (fun k_ => P0_ k_)) ∧ Aside0 (Below w0.heap.size w0 w'))
 case atStart => exact ⟨(l0), (0), (wrap64 ((l0.length : Int) - 1)), fs, fs, H', ⟨Nat.le_refl _⟩, ⟨vs HO0.out⟩, ⟨by repeat (first | (with_reducible first | exact HK.out | apply Kept.alloc | apply Kept.drewN | apply Kept.drew) | exact HK.out)⟩, ⟨bz HB.out⟩⟩
 case round =>
  clear H'
  obtain ⟨x0_1, x2_1, x3_1, rfl, rfl, HA, HK1, HO_0, HK, HB⟩ := hrel
  have hl0_1 := (Kd.R_reads' HO_0.out).1
  rw [hl0_1] at HO_0
  (try simp only [hl0_1])
  cases gk with
  | zero => exact absurd HA.out (by simp [slices_Reverse_byte_byte.l0])
  | succ k1 =>
   have H := HA.out
   clear HA
   simp only [slices_Reverse_byte_byte.l0] at H
   by_cases c3 : x2_1 < x3_1
   ·rw [if_pos c3] at H
    have c3b0 : decide (x2_1 < x3_1) = true := decide_eq_true c3
    clear c3
    obtain ⟨c4, H⟩ := iN H
    have c4b0 : decide (0 ≤ x3_1) = true := decide_eq_true c4
    clear c4
    obtain ⟨c5, H⟩ := iN H
    have c5b0 : decide (x3_1 < (x0_1.length : Int)) = true := decide_eq_true c5
    (try (have c5b0_hl0_1 := c5b0; rw [hl0_1] at c5b0_hl0_1))
    clear c5
    obtain ⟨c6, H⟩ := iN H
    have c6b0 : decide (0 ≤ x2_1) = true := decide_eq_true c6
    clear c6
    obtain ⟨c7, H⟩ := iN H
    have c7b0 : decide (x2_1 < (x0_1.length : Int)) = true := decide_eq_true c7
    (try (have c7b0_hl0_1 := c7b0; rw [hl0_1] at c7b0_hl0_1))
    clear c7
    obtain ⟨y390, hy390⟩ : ∃ y_ : List Int, y_ = (x0_1.set (x2_1 : Int).toNat (rd x0_1 x3_1)) := ⟨_, rfl⟩
    (try first | rw [← hy390] at H | (dsimp only at H; rw [← hy390] at H)); (try rw [Option.bind_some] at H)
    have Ny390 := Aside0.mk hy390
    clear hy390
    obtain ⟨y391, hy391⟩ : ∃ y_ : List Int, y_ = (y390.set (x3_1 : Int).toNat (rd x0_1 x2_1)) := ⟨_, rfl⟩
    (try first | rw [← hy391] at H | (dsimp only at H; rw [← hy391] at H)); (try rw [Option.bind_some] at H)
    have Ny391 := Aside0.mk hy391
    clear hy391
    have H' := Aside0.mk H
    clear H
    try go_wp2
    replace HO_0 := Aside0.mk (Kd.R_drew HO_0.out)
    replace HK := Aside0.mk (Kept.drew HK.out)
    replace HB := Aside0.mk (below_drew1 HB.out)
    have p388 : 0 ≤ (x3_1 : Int) := oa
    have q388 : x3_1 < (x0_1.length : Int) := oa
    obtain ⟨ad388, e388, hx388_0⟩ := Kd.at_int (Kd.R_reads' HO_0.out).2.2 x3_1 p388 q388
    cases e388
    replace p388 := eq_true p388
    replace q388 := eq_true q388
    have p389 : 0 ≤ (x2_1 : Int) := oa
    have q389 : x2_1 < (x0_1.length : Int) := oa
    obtain ⟨ad389, e389, hx389_0⟩ := Kd.at_int (Kd.R_reads' HO_0.out).2.2 x2_1 p389 q389
    obtain rfl : ad388 = ad389 := (by injection e389)
    replace p389 := eq_true p389
    replace q389 := eq_true q389
    have p8 : 0 ≤ (x2_1 : Int) := oa
    have q8 : (x2_1 : Int) < ((x0_1.length : Int) : Int) := oa
    obtain ⟨go8, co8, eo8, gb8, gl8, cl8, HG8⟩ := Kd.R_form HO_0.out (by omega)
    (first | cases eo8 | (injection eo8 with ea_ en_ ec_; (first | subst ea_ | (injection ea_ with ea_; subst ea_)); subst ec_; clear en_))
    have GB8 := Aside0.mk gb8
    have GG8 := Aside0.mk HG8
    clear gb8 gl8 HG8
    have HMgo8 := Aside0.mk (show (P0_ go8 ∨ w.heap.size ≤ go8) from (HO_0.out.1 _ rfl))
    (first | simp only [add_plain] at hx388_0 | skip)
    (first | simp only [add_plain] at hx389_0 | skip)
    obtain ⟨hx8_0, hf8_0⟩ := Kd.R_celln 0 HO_0.out (x2_1 : Int) p8 q8
    replace p8 := eq_true p8
    replace q8 := eq_true q8
    have HP11 := Kd.R_putn HO_0.out (x2_1 : Int) (rd x0_1 x3_1)
    rw [← Ny390.out] at HP11
    have HQ11 := Aside0.mk HP11
    clear HP11
    have p9 : 0 ≤ (x3_1 : Int) := oa
    have q9 : (x3_1 : Int) < ((x0_1.length : Int) : Int) := oa
    obtain ⟨hx9_0, hf9_0⟩ := Kd.R_celln 0 HQ11.out (x3_1 : Int) p9 q9
    replace p9 := eq_true p9
    replace q9 := eq_true q9
    have HP12 := Kd.R_putn HQ11.out (x3_1 : Int) (rd x0_1 x2_1)
    rw [← Ny391.out] at HP12
    have HQ12 := Aside0.mk HP12
    clear HP12
    refine start_ (n := 16) (S := fun w' => w'.cell? ⟨go8, (x3_1).toNat, none⟩ = some (.int .u8 (rd x0_1 x3_1)) ∧ w'.cell? ⟨go8, (x2_1).toNat, none⟩ = some (.int .u8 (rd x0_1 x2_1))) (ds := [13, 15]) #[false, false, false, false, false, false, false, false, false, false, false, false, false, false, false, false] (by kernel_rfl) rfl rfl ⟨hx388_0, hx389_0⟩ (fun hHeld => ?_); refine with_tabW slices_Reverse_byte_byte.tab3 slices_Reverse_byte_byte.bits3 (fun HT_ HW_ => ?_)
    generalize wr.drew = w10 at HO_0 HK HB GG8 HQ11 HQ12 hf8_0 hf9_0 hx388_0 hx389_0 hx8_0 hx9_0 hHeld ⊢
    refine py 0 (some 14) #[true, false, false, false, false, false, false, false, false, false, false, false, false, false, false, false] HT_ ?_
    refine py 1 (some 15) #[true, true, false, false, false, false, false, false, false, false, false, false, false, false, false, false] HT_ ?_
    refine py 2 (some 16) #[true, true, true, false, false, false, false, false, false, false, false, false, false, false, false, false] HT_ ?_
    refine py 3 (some 17) #[true, true, true, true, false, false, false, false, false, false, false, false, false, false, false, false] HT_ ?_
    refine py 4 (some 18) #[true, true, true, true, true, false, false, false, false, false, false, false, false, false, false, false] HT_ ?_
    refine py 5 (some 19) #[true, true, true, true, true, true, false, false, false, false, false, false, false, false, false, false] HT_ ?_
    refine py 6 (some 20) #[true, true, true, true, true, true, true, false, false, false, false, false, false, false, false, false] HT_ ?_
    refine py 8 (some 22) #[true, true, true, true, true, true, true, false, true, false, false, false, false, false, false, false] HT_ ?_
    refine py 9 (some 23) #[true, true, true, true, true, true, true, false, true, true, false, false, false, false, false, false] HT_ ?_
    refine py 10 (some 24) #[true, true, true, true, true, true, true, false, true, true, true, false, false, false, false, false] HT_ ?_
    refine take_ (i := 7) (N := some 21) (v := ?_) (a' := ?_) #[true, true, true, true, true, true, true, true, true, true, true, false, false, false, false, false] rfl rfl (take_ofW HT_.out HW_.out (by kernel_rfl)) (fun _ _ _ h => h) (Or.inl ⟨by rfl, ?_⟩) hHeld ?_ ?_
    rotate_left
    ·rintro w' ⟨s0, s1⟩
     go_simp
     with_reducible rfl
    rotate_left
    ·simp only [Act.put, List.setIfInBounds_toArray, List.set_cons_zero, List.set_cons_succ, i64_w, i32_w]
     rfl
    refine take_ (i := 11) (N := some 25) (v := ?_) (a' := ?_) #[true, true, true, true, true, true, true, true, true, true, true, true, false, false, false, false] rfl rfl (take_ofW HT_.out HW_.out (by kernel_rfl)) (fun _ _ _ h => h) (Or.inl ⟨by rfl, ?_⟩) hHeld ?_ ?_
    rotate_left
    ·rintro w' ⟨s0, s1⟩
     go_simp
     with_reducible rfl
    rotate_left
    ·simp only [Act.put, List.setIfInBounds_toArray, List.set_cons_zero, List.set_cons_succ, i64_w, i32_w]
     rfl
    refine py 12 (some 26) #[true, true, true, true, true, true, true, true, true, true, true, true, true, false, false, false] HT_ ?_
    refine last_ (i := 13) (N := none) #[true, true, true, true, true, true, true, true, true, true, true, true, true, true, false, false] rfl rfl (one_of HT_.out (by kernel_rfl)) (by decide) (fun K hK => ?_)
    refine skip_ (w1 := ?_) (by rfl) rfl ?_ ?_
    rotate_left
    ·go_simp
     rfl
    refine hK.out _ _ ?_
    clear hK K
    refine py 14 (some 27) #[true, true, true, true, true, true, true, true, true, true, true, true, true, true, true, false] HT_ ?_
    refine last_ (i := 15) (N := none) #[true, true, true, true, true, true, true, true, true, true, true, true, true, true, true, true] rfl rfl (one_of HT_.out (by kernel_rfl)) (by decide) (fun K hK => ?_)
    refine skip_ (w1 := ?_) (by rfl) rfl ?_ ?_
    rotate_left
    ·go_simp
     rfl
    refine hK.out _ _ ?_
    clear hK K
    refine done_ (done_of HT_.out (by kernel_rfl)) ?_
    try go_wp2
    (try simp only [← hl0_1])
    go_roundg k1
    case measure => have := HK1.out; omega
    case rel => exact ⟨(y391), (wrap64 (x2_1 + 1)), (wrap64 (x3_1 - 1)), fs, fs, H', ⟨by have := HK1.out; omega⟩, ⟨by (try simp only [hl0_1]); (with_reducible repeat (first | apply Kd.R_alloc | apply Kd.R_drewN | apply Kd.R_drew)); exact HQ12.out⟩, ⟨by repeat (first | (with_reducible first | exact HK.out | apply Kept.alloc | apply Kept.drewN | apply Kept.drew | refine Kept.setCell ?_ HMgo8.out _ | refine Kept.setCell ?_ HMgo8.out _) | exact HK.out)⟩, ⟨bz HB.out⟩⟩
   ·rw [if_neg c3] at H
    have c3b0 : decide (x2_1 < x3_1) = false := decide_eq_false c3
    clear c3
    obtain rfl := Option.some.inj H
    go_wp2
    first | go_end0 | ((try simp only [Exit.inBlock, Exit.then]); refine bodyPost_ret (results_none rfl _ _ _) rfl ?_)
    exact ⟨fe, (by first | exact (vs HO_0.out) | (simp only [hl0_1]; exact (vs HO_0.out))), bz HB.out, by repeat (first | (with_reducible first | exact HK.out | apply Kept.alloc | apply Kept.drewN | apply Kept.drew) | exact HK.out)⟩

end Go.Proofs.YtgepdnoaemeofaaDoor.R
