/- Printed by a program of this session (wip/tools) out of the translation: plain functions and the proofs that the code comes to their answers. -/
import Derived.Test.YtgepdnoaemeofaaDoorXRationalMake4
namespace Go.Proofs.YtgepdnoaemeofaaDoor.M
open Go.RowKit Go.Proofs.YtgepdnoaemeofaaDoorW.PrintWords Go.Proofs.YtgepdnoaemeofaaDoorW.PrintLast Go.Proofs.YtgepdnoaemeofaaDoorW.PrintMore Go.Proofs.YtgepdnoaemeofaaDoorW.PK
attribute [local go_sem] max2_int min2_int max_two min_two max_three min_three max_four min_four   -- for this text's walks alone
set_option linter.unusedVariables false
set_option linter.unusedSimpArgs false

/-! ### rational_Floor: function 24 -/
def rational_Floor.j0 : Nat → ByteArray → Bool → Bool → ByteArray → ByteArray → Option (Bool × ByteArray × ByteArray)
 | 0, _, _, _, _, _ => none
 | k + 1, x3, x22, x408000, x408001, x408002 => if x22 = true then ((natural_Add.f k x3 (⟨#[1]⟩ : ByteArray)).bind fun t416 => ((rational_reduced.f k x408000 t416 (⟨#[1]⟩ : ByteArray)).bind fun bt417 => (some (bt417.1, bt417.2.1, bt417.2.2)))) else ((rational_reduced.f k x408000 x3 (⟨#[1]⟩ : ByteArray)).bind fun bt420 => (some (bt420.1, bt420.2.1, bt420.2.2)))
def rational_Floor.f (k : Nat) (a0_0 : Bool) (a0_1 : ByteArray) (a0_2 : ByteArray) : Option (Bool × ByteArray × ByteArray) := (rational_clean.f k a0_0 a0_1 a0_2).bind fun bt409 => ((rational_den.f bt409.1 bt409.2.1 bt409.2.2).bind fun t412 => ((natural_Divide.f k bt409.2.1 t412).bind fun bt413 => (if bt409.1 = true then (rational_Floor.j0 k bt413.1 (bt413.2.1.toList != ([] : List UInt8)) bt409.1 bt409.2.1 bt409.2.2) else (rational_Floor.j0 k bt413.1 false bt409.1 bt409.2.1 bt409.2.2))))
theorem rational_Floor.mono_l : ∀ k, (∀ y0 y1 y2 y3 y4, LeO (rational_Floor.j0 k y0 y1 y2 y3 y4) (rational_Floor.j0 (k + 1) y0 y1 y2 y3 y4))
 | 0 => fun _ _ _ _ _ r h => by simp [rational_Floor.j0] at h
 | k + 1 => by
  have ih0 := rational_Floor.mono_l k
  ·intro y0 y1 y2 y3 y4
   unfold rational_Floor.j0
   repeat' with_reducible first | exact ih0 _ _ _ _ _ | exact natural_Add.mono _ _ _ | exact natural_Divide.mono _ _ _ | exact rational_clean.mono _ _ _ _ | exact rational_reduced.mono _ _ _ _ | exact LeO.refl _ | exact LeO.none _ | refine LeO.ite ?_ ?_ | refine LeO.bind ?_ (fun _ => ?_)
theorem rational_Floor.mono : ∀ a0 a1 a2 k, LeO (rational_Floor.f k a0 a1 a2) (rational_Floor.f (k + 1) a0 a1 a2) := by
 intro a0 a1 a2 k
 have ih0 := rational_Floor.mono_l k
 unfold rational_Floor.f
 repeat' with_reducible first | exact ih0 _ _ _ _ _ | exact natural_Add.mono _ _ _ | exact natural_Divide.mono _ _ _ | exact rational_clean.mono _ _ _ _ | exact rational_reduced.mono _ _ _ _ | exact LeO.refl _ | exact LeO.none _ | refine LeO.ite ?_ ?_ | refine LeO.bind ?_ (fun _ => ?_)
def rational_Floor.T2 : Bool × List (List Nat × List Nat) := (true, [([], []), ([0], [0]), ([], []), ([2], [2]), ([1, 3, 3], [1, 3]), ([4], [4]), ([5], [5]), ([5], [5]), ([5], [5]), ([6, 4, 0, 1, 2, 3, 4, 5, 6], [6]), ([7, 9, 0, 1, 2, 3, 4, 5, 6, 7, 9], [7]), ([8, 10, 0, 1, 2, 3, 4, 5, 6, 7, 8, 9, 10], [8])])
def rational_Floor.B2 : List Nat := [0, 1, 0, 4, 15, 31, 63, 63, 63, 127, 767, 2047]
theorem rational_Floor.tab2 : rtab .any (opsOf Tryd.f24 2) = rational_Floor.T2 := by kernel_rfl
theorem rational_Floor.bits2 : waitsOk rational_Floor.T2.2 rational_Floor.B2 = true := by kernel_rfl
set_option maxHeartbeats 8000000 in
set_option maxRecDepth 100000 in
theorem rational_Floor.calls (k : Nat) (a0_0 : Bool) (a0_1 : ByteArray) (a0_2 : ByteArray) (r1 : Bool) (r2 : ByteArray) (r3 : ByteArray) (w : World) (h : rational_Floor.f k a0_0 a0_1 a0_2 = some (r1, r2, r3)) :
  Calls Tryd.prog 24 #[.agg #[.bool a0_0, .string a0_1, .string a0_2]] w fun e w' => e = .returned (.agg #[.bool r1, .string r2, .string r3]) ∧ Below w.heap.size w w' := by
 have hu23 := Tryd.underlying23
 have HB := Aside0.mk (Below.refl w.heap.size w)
 have H := h
 clear h
 unfold rational_Floor.f at H
 obtain ⟨⟨t409, t410, t411⟩, A2, H⟩ := bs1 H; dsimp only at H
 obtain ⟨t412, A3, H⟩ := bs1 H
 obtain ⟨⟨t413, t414, t415⟩, A4, H⟩ := bs1 H; dsimp only at H
 have HC5 := Aside0.mk H
 clear H
 go_enter Tryd.func24, Tryd.ntmps24
 try go_wp2_with (first | ((with_reducible refine gd 1 rfl ?_); refine bx 1 (#[.bool a0_0, .string a0_1, .string a0_2]) 23 ?_; intro gb407 hg w6 hbox hb; have BK407 := Aside0.mk (hbox); have GW407 := sg hg HB.out; have GE407 := sg hg HB.out; replace HB := Aside0.mk (bs HB.out hb); clear hb hbox hg) | ((with_reducible refine gd 2 rfl ?_); refine bx 2 (#[.bool false, .string (⟨#[]⟩ : ByteArray), .string (⟨#[]⟩ : ByteArray)]) 23 ?_; intro gb408 hg w7 hbox hb; have BK408 := Aside0.mk (hbox); have GW408 := sg hg HB.out; have GE408 := sg hg HB.out; replace HB := Aside0.mk (bs HB.out hb); have NB407_408 := nl hg BK407.out; have NB408_407 := nr hg BK407.out; replace BK407 := Aside0.mk (bk0 BK407.out hb); clear hb hbox hg; have hnb8 := NB407_408.out; have hnc8 := NB408_407.out; obtain ⟨hcz9_0, hcz9_1, hcz9_2, hfz9_0, hfz9_1, hfz9_2⟩ := c3 BK407.out) | ((with_reducible refine gc 34 rfl ?_); refine gl (some 7) Tryd.func34 #[.agg #[.bool a0_0, .string a0_1, .string a0_2]] ?_; (with_reducible refine (rational_clean.calls k a0_0 a0_1 a0_2 t409 t410 t411 _ A2.out).mono ?_); rintro e w10 ⟨rfl, hb⟩; refine ⟨_, rfl, ?_⟩; replace BK407 := Aside0.mk (bk0 BK407.out hb); replace BK408 := Aside0.mk (bk0 BK408.out hb); replace HB := Aside0.mk (bs HB.out hb); (try clear hb); obtain ⟨hcz11_0, hcz11_1, hcz11_2, hfz11_0, hfz11_1, hfz11_2⟩ := c3 BK407.out))
 have n0_ : Aside0 ((((w10.setCell ⟨gb407, 0, none⟩ (.bool t409)).setCell ⟨gb407, 1, none⟩ (.string t410)).setCell ⟨gb407, 2, none⟩ (.string t411)).heap[gb407]? = some (.cells #[.bool t409, .string t410, .string t411] 23 (0, 0))) := ⟨bq BK407.out⟩
 have n1_ : Aside0 ((((w10.setCell ⟨gb407, 0, none⟩ (.bool t409)).setCell ⟨gb407, 1, none⟩ (.string t410)).setCell ⟨gb407, 2, none⟩ (.string t411)).heap[gb408]? = some (.cells #[.bool false, .string (⟨#[]⟩ : ByteArray), .string (⟨#[]⟩ : ByteArray)] 23 (0, 0))) := ⟨bq BK408.out⟩
 have n2_ : Aside0 (Below w.heap.size w (((w10.setCell ⟨gb407, 0, none⟩ (.bool t409)).setCell ⟨gb407, 1, none⟩ (.string t410)).setCell ⟨gb407, 2, none⟩ (.string t411))) := ⟨bz HB.out⟩
 (try clear BK407); (try clear BK408); (try clear HB)
 generalize (((w10.setCell ⟨gb407, 0, none⟩ (.bool t409)).setCell ⟨gb407, 1, none⟩ (.string t410)).setCell ⟨gb407, 2, none⟩ (.string t411)) = w12 at n0_ n1_ n2_ ⊢
 have BK407 := n0_
 have BK408 := n1_
 have HB := n2_
 clear n0_ n1_ n2_
 replace BK407 := Aside0.mk (blk_drew BK407.out)
 replace BK408 := Aside0.mk (blk_drew BK408.out)
 replace HB := Aside0.mk (below_drew1 HB.out)
 refine start_ (n := 12) (S := fun w' => w'.cell? ⟨gb407, 0, none⟩ = some (.bool t409) ∧ w'.cell? ⟨gb407, 1, none⟩ = some (.string t410) ∧ w'.cell? ⟨gb407, 2, none⟩ = some (.string t411)) (ds := []) #[false, false, false, false, false, false, false, false, false, false, false, false] (by kernel_rfl) rfl rfl ⟨(blk_cell BK407.out 0).trans rfl, (blk_cell BK407.out 1).trans rfl, (blk_cell BK407.out 2).trans rfl⟩ (fun hHeld => ?_); refine with_tabW rational_Floor.tab2 rational_Floor.bits2 (fun HT_ HW_ => ?_)
 generalize w12.drew = w13 at BK407 BK408 HB hHeld ⊢
 refine py 0 (some 9) #[true, false, false, false, false, false, false, false, false, false, false, false] HT_ ?_
 refine take_ (i := 1) (N := some 10) (v := ?_) (a' := ?_) #[true, true, false, false, false, false, false, false, false, false, false, false] rfl rfl (take_ofW HT_.out HW_.out (by kernel_rfl)) (fun _ _ _ h => h) (Or.inl ⟨by rfl, ?_⟩) hHeld ?_ ?_
 rotate_left
 ·rintro w' ⟨s0, s1, s2⟩
  go_simp
  with_reducible rfl
 rotate_left
 ·simp only [Act.put, List.setIfInBounds_toArray, List.set_cons_zero, List.set_cons_succ, i64_w, i32_w]
  rfl
 refine take_ (i := 2) (N := some 11) (v := ?_) (a' := ?_) #[true, true, true, false, false, false, false, false, false, false, false, false] rfl rfl (take_ofW HT_.out HW_.out (by kernel_rfl)) (fun _ _ _ h => h) (Or.inl ⟨by rfl, ?_⟩) hHeld ?_ ?_
 rotate_left
 ·rintro w' ⟨s0, s1, s2⟩
  go_simp
  with_reducible rfl
 rotate_left
 ·simp only [Act.put, List.setIfInBounds_toArray, List.set_cons_zero, List.set_cons_succ, i64_w, i32_w]
  rfl
 refine one_ (i := 3) (N := some 12) #[true, true, true, true, false, false, false, false, false, false, false, false] rfl rfl (one_of HT_.out (by kernel_rfl)) (by decide) (fun K hK => ?_)
 refine gs Tryd.func41 #[.agg #[.bool t409, .string t410, .string t411]] ?_
 with_reducible refine (rational_den.calls t409 t410 t411 t412 _ A3.out).mono ?_
 rintro e w14 ⟨rfl, hb⟩
 refine ⟨_, rfl, ?_⟩
 replace BK407 := Aside0.mk (bk0 BK407.out hb)
 replace BK408 := Aside0.mk (bk0 BK408.out hb)
 replace HB := Aside0.mk (bs HB.out hb)
 (try clear hb); (try clear hb2); (try clear hk); (try clear hi)
 refine hK.out _ _ ⟨(blk_cell BK407.out 0).trans rfl, (blk_cell BK407.out 1).trans rfl, (blk_cell BK407.out 2).trans rfl⟩ (fun hHeld => ?_)
 clear hK K
 refine nm ?_
 refine one_ (i := 4) (N := some 13) #[true, true, true, true, true, false, false, false, false, false, false, false] rfl rfl (one_of HT_.out (by kernel_rfl)) (by decide) (fun K hK => ?_)
 refine gs Tryd.func51 #[.string t410, .string t412] ?_
 with_reducible refine (natural_Divide.calls k t410 t412 t413 t414 t415 _ A4.out).mono ?_
 rintro e w15 ⟨rfl, hb⟩
 refine ⟨_, rfl, ?_⟩
 replace BK407 := Aside0.mk (bk0 BK407.out hb)
 replace BK408 := Aside0.mk (bk0 BK408.out hb)
 replace HB := Aside0.mk (bs HB.out hb)
 (try clear hb); (try clear hb2); (try clear hk); (try clear hi)
 refine hK.out _ _ ⟨(blk_cell BK407.out 0).trans rfl, (blk_cell BK407.out 1).trans rfl, (blk_cell BK407.out 2).trans rfl⟩ (fun hHeld => ?_)
 clear hK K
 refine nm ?_
 refine py 5 (some 8) #[true, true, true, true, true, true, false, false, false, false, false, false] HT_ ?_
 refine py 6 (some 14) #[true, true, true, true, true, true, true, false, false, false, false, false] HT_ ?_
 refine py 7 (some 15) #[true, true, true, true, true, true, true, true, false, false, false, false] HT_ ?_
 refine py 8 (some 16) #[true, true, true, true, true, true, true, true, true, false, false, false] HT_ ?_
 refine py 9 (some 3) #[true, true, true, true, true, true, true, true, true, true, false, false] HT_ ?_
 refine py 10 (some 4) #[true, true, true, true, true, true, true, true, true, true, true, false] HT_ ?_
 refine py 11 (some 5) #[true, true, true, true, true, true, true, true, true, true, true, true] HT_ ?_
 refine done_ (done_of HT_.out (by kernel_rfl)) ?_
 (try (simp only [Exit.then]; refine (by assumption : ∀ (a : Act) (w : World), Code.wp _ _ _ a w → _) _ _ ?_))
 go_upto_region 3 with (fail)
 go_cut [22] (fun v22 wc => ∃ (kq : Nat) (x22_4 : Bool), v22 = .bool x22_4 ∧ Aside0 (rational_Floor.j0 kq t413 x22_4 t409 t410 t411 = some (r1, r2, r3)) ∧ Aside0 (kq ≤ k) ∧ Aside0 (wc.heap[gb407]? = some (.cells #[.bool t409, .string t410, .string t411] 23 (0, 0))) ∧ Aside0 (wc.heap[gb408]? = some (.cells #[.bool false, .string (⟨#[]⟩ : ByteArray), .string (⟨#[]⟩ : ByteArray)] 23 (0, 0))) ∧ Aside0 (Below w.heap.size w wc))
 case first =>
  have H := HC5.out
  clear HC5
  by_cases c16 : t409 = true
  ·subst c16
   have H1 : (rational_Floor.j0 k t413 (t414.toList != ([] : List UInt8)) true t410 t411) = some (r1, r2, r3) := by rw [if_pos rfl] at H; exact H
   clear H
   have H := H1
   clear H1
   have H' := Aside0.mk H
   clear H
   have hnb17 := NB407_408.out
   have hnc17 := NB408_407.out
   obtain ⟨hcz18_0, hcz18_1, hcz18_2, hfz18_0, hfz18_1, hfz18_2⟩ := c3 BK407.out
   go_wp2
   go_meet
   case rel => exact ⟨_, ((t414.toList != ([] : List UInt8))), fs, H', ⟨by first | omega | exact Nat.le_refl _⟩, ⟨bq BK407.out⟩, ⟨bq BK408.out⟩, ⟨bz HB.out⟩⟩
  ·replace c16 := Bool.eq_false_iff.mpr c16
   subst c16
   have H1 : (rational_Floor.j0 k t413 false false t410 t411) = some (r1, r2, r3) := by rw [if_neg (show ¬ (false = true) by decide)] at H; exact H
   clear H
   have H := H1
   clear H1
   have H' := Aside0.mk H
   clear H
   have hnb19 := NB407_408.out
   have hnc19 := NB408_407.out
   obtain ⟨hcz20_0, hcz20_1, hcz20_2, hfz20_0, hfz20_1, hfz20_2⟩ := c3 BK407.out
   go_wp2
   go_meet
   case rel => exact ⟨_, (false), fs, H', ⟨by first | omega | exact Nat.le_refl _⟩, ⟨bq BK407.out⟩, ⟨bq BK408.out⟩, ⟨bz HB.out⟩⟩
 case rest =>
  clear HC5
  (try clear c16); (try clear hcz11_0); (try clear hcz11_1); (try clear hcz11_2); (try clear hcz18_0); (try clear hcz18_1); (try clear hcz18_2); (try clear hcz20_0); (try clear hcz20_1); (try clear hcz20_2); (try clear hcz9_0); (try clear hcz9_1); (try clear hcz9_2); (try clear hfz11_0); (try clear hfz11_1); (try clear hfz11_2); (try clear hfz18_0); (try clear hfz18_1); (try clear hfz18_2); (try clear hfz20_0); (try clear hfz20_1); (try clear hfz20_2); (try clear hfz9_0); (try clear hfz9_1); (try clear hfz9_2)
  obtain ⟨kq, x22_4, rfl, HA, HJ4, BK407, BK408, HB⟩ := hcut
  cases kq with
  | zero => exact absurd HA.out (by simp [rational_Floor.j0])
  | succ kj4 =>
   have H := HA.out
   clear HA
   simp only [rational_Floor.j0] at H
   by_cases c21 : x22_4 = true
   ·subst c21
    have H1 : ((natural_Add.f kj4 t413 (⟨#[1]⟩ : ByteArray)).bind fun t416 => ((rational_reduced.f kj4 t409 t416 (⟨#[1]⟩ : ByteArray)).bind fun bt417 => (some (bt417.1, bt417.2.1, bt417.2.2)))) = some (r1, r2, r3) := by rw [if_pos rfl] at H; exact H
    clear H
    have H := H1
    clear H1
    obtain ⟨t416, A22, H⟩ := bs1 H
    obtain ⟨⟨t417, t418, t419⟩, A23, H⟩ := bs1 H; dsimp only at H
    simp only [Option.some.injEq, Prod.mk.injEq] at H
    obtain ⟨rfl, rfl, rfl⟩ := H
    go_wp2_with (first | ((with_reducible refine gc 48 rfl ?_); refine gl (some 24) Tryd.func48 #[.string t413, .string (⟨#[1]⟩ : ByteArray)] ?_; (with_reducible refine (natural_Add.calls kj4 t413 (⟨#[1]⟩ : ByteArray) t416 _ A22.out).mono ?_); rintro e w24 ⟨rfl, hb⟩; refine ⟨_, rfl, ?_⟩; replace BK407 := Aside0.mk (bk0 BK407.out hb); replace BK408 := Aside0.mk (bk0 BK408.out hb); replace HB := Aside0.mk (bs HB.out hb); (try clear hb); have hnb25 := NB407_408.out; have hnc25 := NB408_407.out; obtain ⟨hcz26_0, hcz26_1, hcz26_2, hfz26_0, hfz26_1, hfz26_2⟩ := c3 BK407.out) | ((with_reducible refine gc 30 rfl ?_); refine gl (some 28) Tryd.func30 #[.bool t409, .string t416, .string (⟨#[1]⟩ : ByteArray)] ?_; (with_reducible refine (rational_reduced.calls kj4 t409 t416 (⟨#[1]⟩ : ByteArray) t417 t418 t419 _ A23.out).mono ?_); rintro e w27 ⟨rfl, hb⟩; refine ⟨_, rfl, ?_⟩; replace BK407 := Aside0.mk (bk0 BK407.out hb); replace BK408 := Aside0.mk (bk0 BK408.out hb); replace HB := Aside0.mk (bs HB.out hb); (try clear hb); obtain ⟨hcz28_0, hcz28_1, hcz28_2, hfz28_0, hfz28_1, hfz28_2⟩ := c3 BK408.out))
    refine bodyPost_ret (results_cell_row rfl _ _ gb408 23 #[.bool t417, .string t418, .string t419] (0, 0) _ rfl (bq BK408.out) Tryd.underlying23 rfl (by kernel_rfl)) rfl ?_
    exact ⟨fe, bz HB.out⟩
   ·replace c21 := Bool.eq_false_iff.mpr c21
    subst c21
    have H1 : ((rational_reduced.f kj4 t409 t413 (⟨#[1]⟩ : ByteArray)).bind fun bt420 => (some (bt420.1, bt420.2.1, bt420.2.2))) = some (r1, r2, r3) := by rw [if_neg (show ¬ (false = true) by decide)] at H; exact H
    clear H
    have H := H1
    clear H1
    obtain ⟨⟨t420, t421, t422⟩, A29, H⟩ := bs1 H; dsimp only at H
    simp only [Option.some.injEq, Prod.mk.injEq] at H
    obtain ⟨rfl, rfl, rfl⟩ := H
    have hnb30 := NB407_408.out
    have hnc30 := NB408_407.out
    obtain ⟨hcz31_0, hcz31_1, hcz31_2, hfz31_0, hfz31_1, hfz31_2⟩ := c3 BK407.out
    go_wp2_with (first | ((with_reducible refine gc 30 rfl ?_); refine gl (some 28) Tryd.func30 #[.bool t409, .string t413, .string (⟨#[1]⟩ : ByteArray)] ?_; (with_reducible refine (rational_reduced.calls kj4 t409 t413 (⟨#[1]⟩ : ByteArray) t420 t421 t422 _ A29.out).mono ?_); rintro e w32 ⟨rfl, hb⟩; refine ⟨_, rfl, ?_⟩; replace BK407 := Aside0.mk (bk0 BK407.out hb); replace BK408 := Aside0.mk (bk0 BK408.out hb); replace HB := Aside0.mk (bs HB.out hb); (try clear hb); obtain ⟨hcz33_0, hcz33_1, hcz33_2, hfz33_0, hfz33_1, hfz33_2⟩ := c3 BK408.out))
    refine bodyPost_ret (results_cell_row rfl _ _ gb408 23 #[.bool t420, .string t421, .string t422] (0, 0) _ rfl (bq BK408.out) Tryd.underlying23 rfl (by kernel_rfl)) rfl ?_
    exact ⟨fe, bz HB.out⟩

-- NOT PRINTED: function 96 (bits_Mul32)

-- NOT PRINTED: function 97 (bits_Mul64)

-- NOT PRINTED: function 70 (bits_Mul)

/-! ### strings_Repeat: function 52 (by hand) -/
def strings_Repeat.f (a0 : ByteArray) (a1 : Int) : Option (ByteArray) := if 0 ≤ a1 ∧ a1 ≤ 9223372036854775807 ∧ a0.size * a1.toNat ≤ 140737488355328 then some ⟨(Lib.repeatL a0.data.toList a1.toNat).toArray⟩ else none
theorem strings_Repeat.calls (a0 : ByteArray) (a1 : Int) (r : ByteArray) (w : World) (h : strings_Repeat.f a0 a1 = some r) :
  Calls Tryd.prog 52 #[.string a0, .int .i64 a1] w fun e w' => e = .returned (.string r) ∧ Below w.heap.size w w' := by
 unfold strings_Repeat.f at h
 split at h
 ·rename_i hc
  obtain rfl := Option.some.inj h
  obtain ⟨c, rfl⟩ := Int.eq_ofNat_of_zero_le hc.1
  simp only [Int.toNat_natCast] at hc ⊢
  exact Tryd.strings_Repeat a0 c w (by omega) hc.2.2
 ·cases h

/-! ### rational_Decimal: function 25 -/
def rational_Decimal.j0 : Nat → Int → ByteArray → ByteArray → Bool → ByteArray → ByteArray → Option (ByteArray)
 | 0, _, _, _, _, _, _ => none
 | k + 1, x1, x5, x8, x425000, x425001, x425002 => if x1 > 0 then (if 0 ≤ (wrap64 ((x8.size : Int) - x1)) then (if (wrap64 ((x8.size : Int) - x1)) ≤ (x8.size : Int) then (if (x8.extract 0 ((wrap64 ((x8.size : Int) - x1)) : Int).toNat).size + 1 ≤ 9223372036854775807 then (if ((x8.extract 0 ((wrap64 ((x8.size : Int) - x1)) : Int).toNat) ++ (⟨#[46]⟩ : ByteArray)).size + (x8.extract ((wrap64 ((x8.size : Int) - x1)) : Int).toNat x8.size).size ≤ 9223372036854775807 then (if x425000 = true then (if x5.toList = ([] : List UInt8) then (some (((x8.extract 0 ((wrap64 ((x8.size : Int) - x1)) : Int).toNat) ++ (⟨#[46]⟩ : ByteArray)) ++ (x8.extract ((wrap64 ((x8.size : Int) - x1)) : Int).toNat x8.size))) else (if 1 + (((x8.extract 0 ((wrap64 ((x8.size : Int) - x1)) : Int).toNat) ++ (⟨#[46]⟩ : ByteArray)) ++ (x8.extract ((wrap64 ((x8.size : Int) - x1)) : Int).toNat x8.size)).size ≤ 9223372036854775807 then (some ((⟨#[45]⟩ : ByteArray) ++ (((x8.extract 0 ((wrap64 ((x8.size : Int) - x1)) : Int).toNat) ++ (⟨#[46]⟩ : ByteArray)) ++ (x8.extract ((wrap64 ((x8.size : Int) - x1)) : Int).toNat x8.size)))) else (none))) else (some (((x8.extract 0 ((wrap64 ((x8.size : Int) - x1)) : Int).toNat) ++ (⟨#[46]⟩ : ByteArray)) ++ (x8.extract ((wrap64 ((x8.size : Int) - x1)) : Int).toNat x8.size)))) else (none)) else (none)) else (none)) else (none)) else (if x425000 = true then (if x5.toList = ([] : List UInt8) then (some x8) else (if 1 + x8.size ≤ 9223372036854775807 then (some ((⟨#[45]⟩ : ByteArray) ++ x8)) else (none))) else (some x8))
def rational_Decimal.f (k : Nat) (a0_0 : Bool) (a0_1 : ByteArray) (a0_2 : ByteArray) (a1 : Int) : Option (ByteArray) := (rational_clean.f k a0_0 a0_1 a0_2).bind fun bt425 => ((rational_tenTo.f k (mn (mx a1 0) 20)).bind fun t428 => ((natural_Multiply.f k bt425.2.1 t428).bind fun t429 => ((rational_den.f bt425.1 bt425.2.1 bt425.2.2).bind fun t430 => ((natural_Divide.f k t429 t430).bind fun bt431 => ((natural_Format.f k bt431.1).bind fun t434 => (if (t434.size : Int) ≤ (mn (mx a1 0) 20) then ((strings_Repeat.f (⟨#[48]⟩ : ByteArray) (wrap64 (((mn (mx a1 0) 20) + 1) - (t434.size : Int)))).bind fun t435 => (if t435.size + t434.size ≤ 9223372036854775807 then (rational_Decimal.j0 k (mn (mx a1 0) 20) bt431.1 (t435 ++ t434) bt425.1 bt425.2.1 bt425.2.2) else (none))) else (rational_Decimal.j0 k (mn (mx a1 0) 20) bt431.1 t434 bt425.1 bt425.2.1 bt425.2.2)))))))
theorem rational_Decimal.mono_l : ∀ k, (∀ y0 y1 y2 y3 y4 y5, LeO (rational_Decimal.j0 k y0 y1 y2 y3 y4 y5) (rational_Decimal.j0 (k + 1) y0 y1 y2 y3 y4 y5))
 | 0 => fun _ _ _ _ _ _ r h => by simp [rational_Decimal.j0] at h
 | k + 1 => by
  have ih0 := rational_Decimal.mono_l k
  ·intro y0 y1 y2 y3 y4 y5
   unfold rational_Decimal.j0
   repeat' with_reducible first | exact ih0 _ _ _ _ _ _ | exact natural_Divide.mono _ _ _ | exact natural_Format.mono _ _ | exact natural_Multiply.mono _ _ _ | exact rational_clean.mono _ _ _ _ | exact rational_tenTo.mono _ _ | exact LeO.refl _ | exact LeO.none _ | refine LeO.ite ?_ ?_ | refine LeO.bind ?_ (fun _ => ?_)
theorem rational_Decimal.mono : ∀ a0 a1 a2 a3 k, LeO (rational_Decimal.f k a0 a1 a2 a3) (rational_Decimal.f (k + 1) a0 a1 a2 a3) := by
 intro a0 a1 a2 a3 k
 have ih0 := rational_Decimal.mono_l k
 unfold rational_Decimal.f
 repeat' with_reducible first | exact ih0 _ _ _ _ _ _ | exact natural_Divide.mono _ _ _ | exact natural_Format.mono _ _ | exact natural_Multiply.mono _ _ _ | exact rational_clean.mono _ _ _ _ | exact rational_tenTo.mono _ _ | exact LeO.refl _ | exact LeO.none _ | refine LeO.ite ?_ ?_ | refine LeO.bind ?_ (fun _ => ?_)
def rational_Decimal.T3 : Bool × List (List Nat × List Nat) := (true, [([], []), ([0], [0]), ([], []), ([2], [2]), ([1, 3, 3], [1, 3]), ([], []), ([5, 4], [5]), ([4, 6, 6], [4, 6]), ([7], [7]), ([8], [8]), ([8], [8]), ([8], [8]), ([9, 7, 0, 1, 2, 3, 4, 5, 6, 7, 8, 9], [9]), ([10, 12, 0, 1, 2, 3, 4, 5, 6, 7, 8, 9, 10, 12], [10]), ([11, 13, 0, 1, 2, 3, 4, 5, 6, 7, 8, 9, 10, 11, 12, 13], [11])])
def rational_Decimal.B3 : List Nat := [0, 1, 0, 4, 15, 0, 63, 127, 255, 511, 511, 511, 1023, 6143, 16383]
theorem rational_Decimal.tab3 : rtab .any (opsOf Tryd.f25 3) = rational_Decimal.T3 := by kernel_rfl
theorem rational_Decimal.bits3 : waitsOk rational_Decimal.T3.2 rational_Decimal.B3 = true := by kernel_rfl
def rational_Decimal.T8 : Bool × List (List Nat × List Nat) := (true, [([], []), ([], []), ([1], [1]), ([], []), ([2, 3], [2, 3]), ([0, 4], [0, 4]), ([5], [5]), ([], []), ([], []), ([8], [8]), ([], []), ([9, 10], [9, 10]), ([7, 11], [7, 11]), ([6, 12], [6, 12]), ([13, 0, 1, 2, 3, 4, 5, 6, 7, 8, 9, 10, 11, 12, 13], [0, 1, 7, 8, 13])])
def rational_Decimal.B8 : List Nat := [0, 0, 2, 0, 14, 31, 63, 0, 0, 256, 0, 1792, 3968, 8191, 16383]
theorem rational_Decimal.tab8 : rtab .any (opsOf Tryd.f25 8) = rational_Decimal.T8 := by kernel_rfl
theorem rational_Decimal.bits8 : waitsOk rational_Decimal.T8.2 rational_Decimal.B8 = true := by kernel_rfl
set_option maxHeartbeats 8000000 in
set_option maxRecDepth 100000 in
theorem rational_Decimal.calls (k : Nat) (a0_0 : Bool) (a0_1 : ByteArray) (a0_2 : ByteArray) (a1 : Int) (r : ByteArray) (w : World) (h : rational_Decimal.f k a0_0 a0_1 a0_2 a1 = some r) :
  Calls Tryd.prog 25 #[.agg #[.bool a0_0, .string a0_1, .string a0_2], .int .i64 a1] w fun e w' => e = .returned (.string r) ∧ Below w.heap.size w w' := by
 have hu23 := Tryd.underlying23
 have HB := Aside0.mk (Below.refl w.heap.size w)
 have H := h
 clear h
 unfold rational_Decimal.f at H
 obtain ⟨⟨t425, t426, t427⟩, A3, H⟩ := bs1 H; dsimp only at H
 obtain ⟨ji4, hji4⟩ : ∃ j_ : Int, (mx a1 0) = j_ := ⟨_, rfl⟩
 first | rw [hji4] at H | simp only [hji4] at H
 (try rw [hji4] at A3)
 (try (have hji4l : 0 ≤ ji4 := by (rw [← hji4]; unfold mx; (repeat' split) <;> omega)))
 (try (have hji4m : 0 ≤ ji4 := by omega))
 have hji4_ : (if a1 < 0 then 0 else a1) = ji4 := hji4
 obtain ⟨ji5, hji5⟩ : ∃ j_ : Int, (mn (ji4) 20) = j_ := ⟨_, rfl⟩
 first | rw [hji5] at H | simp only [hji5] at H
 (try rw [hji5] at A3)
 have hji5_ : (if 20 < (ji4) then 20 else (ji4)) = ji5 := hji5
 obtain ⟨t428, A6, H⟩ := bs1 H
 obtain ⟨t429, A7, H⟩ := bs1 H
 obtain ⟨t430, A8, H⟩ := bs1 H
 obtain ⟨⟨t431, t432, t433⟩, A9, H⟩ := bs1 H; dsimp only at H
 obtain ⟨t434, A10, H⟩ := bs1 H
 have HC11 := Aside0.mk H
 clear H
 go_enter Tryd.func25, Tryd.ntmps25
 try go_wp2_with (first | ((with_reducible refine gd 2 rfl ?_); refine bx 2 (#[.bool a0_0, .string a0_1, .string a0_2]) 23 ?_; intro gb424 hg w12 hbox hb; have BK424 := Aside0.mk (hbox); have GW424 := sg hg HB.out; have GE424 := sg hg HB.out; replace HB := Aside0.mk (bs HB.out hb); clear hb hbox hg; obtain ⟨hcz13_0, hcz13_1, hcz13_2, hfz13_0, hfz13_1, hfz13_2⟩ := c3 BK424.out) | ((with_reducible refine gc 34 rfl ?_); refine gl (some 10) Tryd.func34 #[.agg #[.bool a0_0, .string a0_1, .string a0_2]] ?_; (with_reducible refine (rational_clean.calls k a0_0 a0_1 a0_2 t425 t426 t427 _ A3.out).mono ?_); rintro e w14 ⟨rfl, hb⟩; refine ⟨_, rfl, ?_⟩; replace BK424 := Aside0.mk (bk0 BK424.out hb); replace HB := Aside0.mk (bs HB.out hb); (try clear hb); obtain ⟨hcz15_0, hcz15_1, hcz15_2, hfz15_0, hfz15_1, hfz15_2⟩ := c3 BK424.out))
 have n0_ : Aside0 ((((w14.setCell ⟨gb424, 0, none⟩ (.bool t425)).setCell ⟨gb424, 1, none⟩ (.string t426)).setCell ⟨gb424, 2, none⟩ (.string t427)).heap[gb424]? = some (.cells #[.bool t425, .string t426, .string t427] 23 (0, 0))) := ⟨bq BK424.out⟩
 have n1_ : Aside0 (Below w.heap.size w (((w14.setCell ⟨gb424, 0, none⟩ (.bool t425)).setCell ⟨gb424, 1, none⟩ (.string t426)).setCell ⟨gb424, 2, none⟩ (.string t427))) := ⟨bz HB.out⟩
 (try clear BK424); (try clear HB)
 generalize (((w14.setCell ⟨gb424, 0, none⟩ (.bool t425)).setCell ⟨gb424, 1, none⟩ (.string t426)).setCell ⟨gb424, 2, none⟩ (.string t427)) = w16 at n0_ n1_ ⊢
 have BK424 := n0_
 have HB := n1_
 clear n0_ n1_
 replace BK424 := Aside0.mk (blk_drew BK424.out)
 replace HB := Aside0.mk (below_drew1 HB.out)
 refine start_ (n := 15) (S := fun w' => w'.cell? ⟨gb424, 0, none⟩ = some (.bool t425) ∧ w'.cell? ⟨gb424, 1, none⟩ = some (.string t426) ∧ w'.cell? ⟨gb424, 2, none⟩ = some (.string t427)) (ds := []) #[false, false, false, false, false, false, false, false, false, false, false, false, false, false, false] (by kernel_rfl) rfl rfl ⟨(blk_cell BK424.out 0).trans rfl, (blk_cell BK424.out 1).trans rfl, (blk_cell BK424.out 2).trans rfl⟩ (fun hHeld => ?_); refine with_tabW rational_Decimal.tab3 rational_Decimal.bits3 (fun HT_ HW_ => ?_)
 generalize w16.drew = w17 at BK424 HB hHeld ⊢
 refine py 0 (some 15) #[true, false, false, false, false, false, false, false, false, false, false, false, false, false, false] HT_ ?_
 refine py 2 (some 17) #[true, false, true, false, false, false, false, false, false, false, false, false, false, false, false] HT_ ?_
 refine take_ (i := 1) (N := some 16) (v := ?_) (a' := ?_) #[true, true, true, false, false, false, false, false, false, false, false, false, false, false, false] rfl rfl (take_ofW HT_.out HW_.out (by kernel_rfl)) (fun _ _ _ h => h) (Or.inl ⟨by rfl, ?_⟩) hHeld ?_ ?_
 rotate_left
 ·rintro w' ⟨s0, s1, s2⟩
  go_simp
  with_reducible rfl
 rotate_left
 ·simp only [Act.put, List.setIfInBounds_toArray, List.set_cons_zero, List.set_cons_succ, i64_w, i32_w]
  rfl
 refine take_ (i := 5) (N := some 20) (v := ?_) (a' := ?_) #[true, true, true, false, false, true, false, false, false, false, false, false, false, false, false] rfl rfl (take_ofW HT_.out HW_.out (by kernel_rfl)) (fun _ _ _ h => h) (Or.inl ⟨by rfl, ?_⟩) hHeld ?_ ?_
 rotate_left
 ·rintro w' ⟨s0, s1, s2⟩
  go_simp
  with_reducible rfl
 rotate_left
 ·simp only [Act.put, List.setIfInBounds_toArray, List.set_cons_zero, List.set_cons_succ, i64_w, i32_w]
  rfl
 refine one_ (i := 3) (N := some 18) #[true, true, true, true, false, true, false, false, false, false, false, false, false, false, false] rfl rfl (one_of HT_.out (by kernel_rfl)) (by decide) (fun K hK => ?_)
 refine goes_ Tryd.func47 (by kernel_rfl) rfl #[.int .i64 ji5] (by rfl) rfl rfl (by (try simp only [List.map_toArray, List.map_cons, List.map_nil]); first | done | (simp only [hji5]; rfl) | rfl | (simp only [List.length_drop, List.length_take]; rfl)) ?_
 with_reducible refine (rational_tenTo.calls k ji5 t428 _ A6.out).mono ?_
 rintro e w18 ⟨rfl, hb⟩
 refine ⟨_, rfl, ?_⟩
 replace BK424 := Aside0.mk (bk0 BK424.out hb)
 replace HB := Aside0.mk (bs HB.out hb)
 (try clear hb); (try clear hb2); (try clear hk); (try clear hi)
 refine hK.out _ _ ⟨(blk_cell BK424.out 0).trans rfl, (blk_cell BK424.out 1).trans rfl, (blk_cell BK424.out 2).trans rfl⟩ (fun hHeld => ?_)
 clear hK K
 refine nm ?_
 refine one_ (i := 4) (N := some 19) #[true, true, true, true, true, true, false, false, false, false, false, false, false, false, false] rfl rfl (one_of HT_.out (by kernel_rfl)) (by decide) (fun K hK => ?_)
 refine gs Tryd.func40 #[.string t426, .string t428] ?_
 with_reducible refine (natural_Multiply.calls k t426 t428 t429 _ A7.out).mono ?_
 rintro e w19 ⟨rfl, hb⟩
 refine ⟨_, rfl, ?_⟩
 replace BK424 := Aside0.mk (bk0 BK424.out hb)
 replace HB := Aside0.mk (bs HB.out hb)
 (try clear hb); (try clear hb2); (try clear hk); (try clear hi)
 refine hK.out _ _ ⟨(blk_cell BK424.out 0).trans rfl, (blk_cell BK424.out 1).trans rfl, (blk_cell BK424.out 2).trans rfl⟩ (fun hHeld => ?_)
 clear hK K
 refine nm ?_
 refine one_ (i := 6) (N := some 21) #[true, true, true, true, true, true, true, false, false, false, false, false, false, false, false] rfl rfl (one_of HT_.out (by kernel_rfl)) (by decide) (fun K hK => ?_)
 refine gs Tryd.func41 #[.agg #[.bool t425, .string t426, .string t427]] ?_
 with_reducible refine (rational_den.calls t425 t426 t427 t430 _ A8.out).mono ?_
 rintro e w20 ⟨rfl, hb⟩
 refine ⟨_, rfl, ?_⟩
 replace BK424 := Aside0.mk (bk0 BK424.out hb)
 replace HB := Aside0.mk (bs HB.out hb)
 (try clear hb); (try clear hb2); (try clear hk); (try clear hi)
 refine hK.out _ _ ⟨(blk_cell BK424.out 0).trans rfl, (blk_cell BK424.out 1).trans rfl, (blk_cell BK424.out 2).trans rfl⟩ (fun hHeld => ?_)
 clear hK K
 refine nm ?_
 refine one_ (i := 7) (N := some 22) #[true, true, true, true, true, true, true, true, false, false, false, false, false, false, false] rfl rfl (one_of HT_.out (by kernel_rfl)) (by decide) (fun K hK => ?_)
 refine gs Tryd.func51 #[.string t429, .string t430] ?_
 with_reducible refine (natural_Divide.calls k t429 t430 t431 t432 t433 _ A9.out).mono ?_
 rintro e w21 ⟨rfl, hb⟩
 refine ⟨_, rfl, ?_⟩
 replace BK424 := Aside0.mk (bk0 BK424.out hb)
 replace HB := Aside0.mk (bs HB.out hb)
 (try clear hb); (try clear hb2); (try clear hk); (try clear hi)
 refine hK.out _ _ ⟨(blk_cell BK424.out 0).trans rfl, (blk_cell BK424.out 1).trans rfl, (blk_cell BK424.out 2).trans rfl⟩ (fun hHeld => ?_)
 clear hK K
 refine nm ?_
 refine py 8 (some 14) #[true, true, true, true, true, true, true, true, true, false, false, false, false, false, false] HT_ ?_
 refine py 9 (some 23) #[true, true, true, true, true, true, true, true, true, true, false, false, false, false, false] HT_ ?_
 refine py 10 (some 24) #[true, true, true, true, true, true, true, true, true, true, true, false, false, false, false] HT_ ?_
 refine py 11 (some 25) #[true, true, true, true, true, true, true, true, true, true, true, true, false, false, false] HT_ ?_
 refine py 12 (some 5) #[true, true, true, true, true, true, true, true, true, true, true, true, true, false, false] HT_ ?_
 refine py 13 (some 6) #[true, true, true, true, true, true, true, true, true, true, true, true, true, true, false] HT_ ?_
 refine py 14 (some 7) #[true, true, true, true, true, true, true, true, true, true, true, true, true, true, true] HT_ ?_
 refine done_ (done_of HT_.out (by kernel_rfl)) ?_
 (try (simp only [Exit.then]; refine (by assumption : ∀ (a : Act) (w : World), Code.wp _ _ _ a w → _) _ _ ?_))
 go_upto_if 31 with (first | ((with_reducible refine gc 50 rfl ?_); refine gl (some 27) Tryd.func50 #[.string t431] ?_; (with_reducible refine (natural_Format.calls k t431 t434 _ A10.out).mono ?_); rintro e w22 ⟨rfl, hb⟩; refine ⟨_, rfl, ?_⟩; replace BK424 := Aside0.mk (bk0 BK424.out hb); replace HB := Aside0.mk (bs HB.out hb); (try clear hb)))
 (try simp only [Act.put, List.setIfInBounds_toArray, List.set_cons_zero, List.set_cons_succ])
 go_cut [8] (fun v8 wc => ∃ (kq : Nat) (x8_10 : ByteArray), v8 = .string x8_10 ∧ Aside0 (rational_Decimal.j0 kq ji5 t431 x8_10 t425 t426 t427 = some r) ∧ Aside0 (kq ≤ k) ∧ Aside0 (wc.heap[gb424]? = some (.cells #[.bool t425, .string t426, .string t427] 23 (0, 0))) ∧ Aside0 (Below w.heap.size w wc))
 case first =>
  have H := HC11.out
  clear HC11
  by_cases c23 : (t434.size : Int) ≤ (ji5)
  ·rw [if_pos c23] at H
   have c23b0 : decide ((t434.size : Int) ≤ (ji5)) = true := decide_eq_true c23
   clear c23
   (first | rw [c23b0] | (simp only [i64_w, i32_w]; rw [c23b0]) | skip)
   obtain ⟨t435, A24, H⟩ := bs1 H
   obtain ⟨c25, H⟩ := iN H
   have c25b0 := eq_true c25
   have c25b1 : decide (t435.size + t434.size ≤ 9223372036854775807) = true := decide_eq_true c25
   try have c25b2 : (9223372036854775807 < t435.size + t434.size) = False := eq_false (Nat.not_lt.2 c25)
   have H' := Aside0.mk H
   clear H
   go_wp2_with (first | ((with_reducible refine gc 52 rfl ?_); refine goesL_ (some 37) rfl rfl Tryd.func52 (by kernel_rfl) rfl #[.string (⟨#[48]⟩ : ByteArray), .int .i64 (wrap64 (((ji5) + 1) - (t434.size : Int)))] rfl (by (try simp only [List.map_toArray, List.map_cons, List.map_nil]); first | done | (rw [show wrap64 (((ji5) + 1) - (t434.size : Int)) = ji5 + 1 - (t434.size : Int) from by (have h1_ := of_decide_eq_true c23b0; unfold wrap64; omega)]; rfl) | (simp only [hji5]; rfl) | rfl | (simp only [List.length_drop, List.length_take]; rfl)) ?_; (with_reducible refine (strings_Repeat.calls (⟨#[48]⟩ : ByteArray) (wrap64 (((ji5) + 1) - (t434.size : Int))) t435 _ A24.out).mono ?_); rintro e w26 ⟨rfl, hb⟩; refine ⟨_, rfl, ?_⟩; replace BK424 := Aside0.mk (bk0 BK424.out hb); replace HB := Aside0.mk (bs HB.out hb); (try clear hb)))
   go_meet
   case rel => exact ⟨_, (t435 ++ t434), fs, H', ⟨by first | omega | exact Nat.le_refl _⟩, ⟨bq BK424.out⟩, ⟨bz HB.out⟩⟩
  ·rw [if_neg c23] at H
   have c23b0 : decide ((t434.size : Int) ≤ (ji5)) = false := decide_eq_false c23
   clear c23
   (first | rw [c23b0] | (simp only [i64_w, i32_w]; rw [c23b0]) | skip)
   have H' := Aside0.mk H
   clear H
   go_wp2
   go_meet
   case rel => exact ⟨_, (t434), fs, H', ⟨by first | omega | exact Nat.le_refl _⟩, ⟨bq BK424.out⟩, ⟨bz HB.out⟩⟩
 case rest =>
  clear HC11
  (try clear c23b0); (try clear c25); (try clear c25b0); (try clear c25b1); (try clear c25b2); (try clear hcz13_0); (try clear hcz13_1); (try clear hcz13_2); (try clear hcz15_0); (try clear hcz15_1); (try clear hcz15_2); (try clear hfz13_0); (try clear hfz13_1); (try clear hfz13_2); (try clear hfz15_0); (try clear hfz15_1); (try clear hfz15_2)
  obtain ⟨kq, x8_10, rfl, HA, HJ10, BK424, HB⟩ := hcut
  cases kq with
  | zero => exact absurd HA.out (by simp [rational_Decimal.j0])
  | succ kj10 =>
   have H := HA.out
   clear HA
   simp only [rational_Decimal.j0] at H
   by_cases c27 : ji5 > 0
   ·rw [if_pos c27] at H
    have c27b0 : decide (0 < ji5) = true := decide_eq_true c27
    clear c27
    obtain ⟨ji28, hji28⟩ : ∃ j_ : Int, (wrap64 ((x8_10.size : Int) - ji5)) = j_ := ⟨_, rfl⟩
    first | rw [hji28] at H | simp only [hji28] at H
    have hji28w : (IntKind.i64.wrap ((x8_10.size : Int) - ji5)) = ji28 := (i64_w _).trans hji28
    obtain ⟨c29, H⟩ := iN H
    have c29b0 := eq_true c29
    have c29b1 : decide (0 ≤ (ji28)) = true := decide_eq_true c29
    clear c29
    obtain ⟨c30, H⟩ := iN H
    have c30b0 := eq_true c30
    have c30b1 : decide ((ji28) ≤ (x8_10.size : Int)) = true := decide_eq_true c30
    clear c30
    obtain ⟨c31, H⟩ := iN H
    have c31b0 := eq_true c31
    have c31b1 : decide ((x8_10.extract 0 ((ji28) : Int).toNat).size + 1 ≤ 9223372036854775807) = true := decide_eq_true c31
    try have c31b2 : (9223372036854775807 < (x8_10.extract 0 ((ji28) : Int).toNat).size + 1) = False := eq_false (Nat.not_lt.2 c31)
    have c32b0 := eq_true (oa : 0 ≤ (ji28))
    have c33b0 := eq_true (oa : (ji28) ≤ (x8_10.size : Int))
    have hE1_ : (x8_10.extract 0 ((ji28) : Int).toNat).size = ji28.toNat := by (have h33 := of_eq_true c33b0; rw [ByteArray.size_extract]; omega)
    have hE2_ : (x8_10.extract ((ji28) : Int).toNat x8_10.size).size = x8_10.size - ji28.toNat := by (rw [ByteArray.size_extract]; omega)
    have d1_ := c31b2
    rw [hE1_] at d1_
    obtain ⟨c34, H⟩ := iN H
    have c34b0 := eq_true c34
    have c34b1 : decide (((x8_10.extract 0 ((ji28) : Int).toNat) ++ (⟨#[46]⟩ : ByteArray)).size + (x8_10.extract ((ji28) : Int).toNat x8_10.size).size ≤ 9223372036854775807) = true := decide_eq_true c34
    try have c34b2 : (9223372036854775807 < ((x8_10.extract 0 ((ji28) : Int).toNat) ++ (⟨#[46]⟩ : ByteArray)).size + (x8_10.extract ((ji28) : Int).toNat x8_10.size).size) = False := eq_false (Nat.not_lt.2 c34)
    have c34b2d := c34b2
    simp only [ByteArray.size_append, hE1_, hE2_, show (⟨#[46]⟩ : ByteArray).size = 1 from rfl] at c34b2d
    by_cases c35 : t425 = true
    ·subst c35
     have H1 : (if t431.toList = ([] : List UInt8) then (some (((x8_10.extract 0 ((ji28) : Int).toNat) ++ (⟨#[46]⟩ : ByteArray)) ++ (x8_10.extract ((ji28) : Int).toNat x8_10.size))) else (if 1 + (((x8_10.extract 0 ((ji28) : Int).toNat) ++ (⟨#[46]⟩ : ByteArray)) ++ (x8_10.extract ((ji28) : Int).toNat x8_10.size)).size ≤ 9223372036854775807 then (some ((⟨#[45]⟩ : ByteArray) ++ (((x8_10.extract 0 ((ji28) : Int).toNat) ++ (⟨#[46]⟩ : ByteArray)) ++ (x8_10.extract ((ji28) : Int).toNat x8_10.size)))) else (none))) = some r := by rw [if_pos rfl] at H; exact H
     clear H
     have H := H1
     clear H1
     by_cases c36 : t431.toList = ([] : List UInt8)
     ·rw [if_pos c36] at H
      have c36b0 := beq_iff_eq.mpr c36
      have c36b1 := bne_eq_false_iff_eq.mpr c36
      clear c36
      obtain rfl := Option.some.inj H
      try go_wp2
      replace BK424 := Aside0.mk (blk_drew BK424.out)
      replace HB := Aside0.mk (below_drew1 HB.out)
      refine start_ (n := 15) (S := fun w' => True) (ds := []) #[false, false, false, false, false, false, false, false, false, false, false, false, false, false, false] (by kernel_rfl) rfl rfl trivial (fun hHeld => ?_); refine with_tabW rational_Decimal.tab8 rational_Decimal.bits8 (fun HT_ HW_ => ?_)
      generalize wc.drew = w37 at BK424 HB hHeld ⊢
      refine py 0 (some 42) #[true, false, false, false, false, false, false, false, false, false, false, false, false, false, false] HT_ ?_
      refine py 1 (some 43) #[true, true, false, false, false, false, false, false, false, false, false, false, false, false, false] HT_ ?_
      refine py 2 (some 44) #[true, true, true, false, false, false, false, false, false, false, false, false, false, false, false] HT_ ?_
      refine py 3 (some 45) #[true, true, true, true, false, false, false, false, false, false, false, false, false, false, false] HT_ ?_
      refine py 4 (some 46) #[true, true, true, true, true, false, false, false, false, false, false, false, false, false, false] HT_ ?_
      refine py 5 (some 47) #[true, true, true, true, true, true, false, false, false, false, false, false, false, false, false] HT_ ?_
      refine py 6 (some 48) #[true, true, true, true, true, true, true, false, false, false, false, false, false, false, false] HT_ ?_
      refine py 7 (some 49) #[true, true, true, true, true, true, true, true, false, false, false, false, false, false, false] HT_ ?_
      refine py 8 (some 50) #[true, true, true, true, true, true, true, true, true, false, false, false, false, false, false] HT_ ?_
      refine py 9 (some 51) #[true, true, true, true, true, true, true, true, true, true, false, false, false, false, false] HT_ ?_
      refine py 10 (some 52) #[true, true, true, true, true, true, true, true, true, true, true, false, false, false, false] HT_ ?_
      refine py 11 (some 53) #[true, true, true, true, true, true, true, true, true, true, true, true, false, false, false] HT_ ?_
      refine py 12 (some 54) #[true, true, true, true, true, true, true, true, true, true, true, true, true, false, false] HT_ ?_
      refine py 13 (some 55) #[true, true, true, true, true, true, true, true, true, true, true, true, true, true, false] HT_ ?_
      refine py 14 (some 8) #[true, true, true, true, true, true, true, true, true, true, true, true, true, true, true] HT_ ?_
      refine done_ (done_of HT_.out (by kernel_rfl)) ?_
      obtain ⟨hcz38_0, hcz38_1, hcz38_2, hfz38_0, hfz38_1, hfz38_2⟩ := c3 BK424.out
      try go_wp2
      go_ret
      exact ⟨by first | rfl | (simp [errW_none, errW_some] <;> rfl) | (simp only [← hji4, ← hji5, ← hji28]; first | rfl | (simp [errW_none, errW_some] <;> rfl)) | (simp [*, errW_none, errW_some] <;> rfl), bz HB.out⟩
     ·rw [if_neg c36] at H
      have c36b0 := beq_eq_false_iff_ne.mpr c36
      have c36b1 := bne_iff_ne.mpr c36
      obtain ⟨c39, H⟩ := iN H
      have c39b0 := eq_true c39
      have c39b1 : decide (1 + (((x8_10.extract 0 ((ji28) : Int).toNat) ++ (⟨#[46]⟩ : ByteArray)) ++ (x8_10.extract ((ji28) : Int).toNat x8_10.size)).size ≤ 9223372036854775807) = true := decide_eq_true c39
      try have c39b2 : (9223372036854775807 < 1 + (((x8_10.extract 0 ((ji28) : Int).toNat) ++ (⟨#[46]⟩ : ByteArray)) ++ (x8_10.extract ((ji28) : Int).toNat x8_10.size)).size) = False := eq_false (Nat.not_lt.2 c39)
      have c39b2d := c39b2
      simp only [ByteArray.size_append, hE1_, hE2_, show (⟨#[46]⟩ : ByteArray).size = 1 from rfl] at c39b2d
      obtain rfl := Option.some.inj H
      try go_wp2
      replace BK424 := Aside0.mk (blk_drew BK424.out)
      replace HB := Aside0.mk (below_drew1 HB.out)
      refine start_ (n := 15) (S := fun w' => True) (ds := []) #[false, false, false, false, false, false, false, false, false, false, false, false, false, false, false] (by kernel_rfl) rfl rfl trivial (fun hHeld => ?_); refine with_tabW rational_Decimal.tab8 rational_Decimal.bits8 (fun HT_ HW_ => ?_)
      generalize wc.drew = w40 at BK424 HB hHeld ⊢
      refine py 0 (some 42) #[true, false, false, false, false, false, false, false, false, false, false, false, false, false, false] HT_ ?_
      refine py 1 (some 43) #[true, true, false, false, false, false, false, false, false, false, false, false, false, false, false] HT_ ?_
      refine py 2 (some 44) #[true, true, true, false, false, false, false, false, false, false, false, false, false, false, false] HT_ ?_
      refine py 3 (some 45) #[true, true, true, true, false, false, false, false, false, false, false, false, false, false, false] HT_ ?_
      refine py 4 (some 46) #[true, true, true, true, true, false, false, false, false, false, false, false, false, false, false] HT_ ?_
      refine py 5 (some 47) #[true, true, true, true, true, true, false, false, false, false, false, false, false, false, false] HT_ ?_
      refine py 6 (some 48) #[true, true, true, true, true, true, true, false, false, false, false, false, false, false, false] HT_ ?_
      refine py 7 (some 49) #[true, true, true, true, true, true, true, true, false, false, false, false, false, false, false] HT_ ?_
      refine py 8 (some 50) #[true, true, true, true, true, true, true, true, true, false, false, false, false, false, false] HT_ ?_
      refine py 9 (some 51) #[true, true, true, true, true, true, true, true, true, true, false, false, false, false, false] HT_ ?_
      refine py 10 (some 52) #[true, true, true, true, true, true, true, true, true, true, true, false, false, false, false] HT_ ?_
      refine py 11 (some 53) #[true, true, true, true, true, true, true, true, true, true, true, true, false, false, false] HT_ ?_
      refine py 12 (some 54) #[true, true, true, true, true, true, true, true, true, true, true, true, true, false, false] HT_ ?_
      refine py 13 (some 55) #[true, true, true, true, true, true, true, true, true, true, true, true, true, true, false] HT_ ?_
      refine py 14 (some 8) #[true, true, true, true, true, true, true, true, true, true, true, true, true, true, true] HT_ ?_
      refine done_ (done_of HT_.out (by kernel_rfl)) ?_
      obtain ⟨hcz41_0, hcz41_1, hcz41_2, hfz41_0, hfz41_1, hfz41_2⟩ := c3 BK424.out
      try go_wp2
      go_ret
      exact ⟨by first | rfl | (simp [errW_none, errW_some] <;> rfl) | (simp only [← hji4, ← hji5, ← hji28]; first | rfl | (simp [errW_none, errW_some] <;> rfl)) | (simp [*, errW_none, errW_some] <;> rfl), bz HB.out⟩
    ·replace c35 := Bool.eq_false_iff.mpr c35
     subst c35
     have H1 : (some (((x8_10.extract 0 ((ji28) : Int).toNat) ++ (⟨#[46]⟩ : ByteArray)) ++ (x8_10.extract ((ji28) : Int).toNat x8_10.size))) = some r := by rw [if_neg (show ¬ (false = true) by decide)] at H; exact H
     clear H
     have H := H1
     clear H1
     obtain rfl := Option.some.inj H
     try go_wp2
     replace BK424 := Aside0.mk (blk_drew BK424.out)
     replace HB := Aside0.mk (below_drew1 HB.out)
     refine start_ (n := 15) (S := fun w' => True) (ds := []) #[false, false, false, false, false, false, false, false, false, false, false, false, false, false, false] (by kernel_rfl) rfl rfl trivial (fun hHeld => ?_); refine with_tabW rational_Decimal.tab8 rational_Decimal.bits8 (fun HT_ HW_ => ?_)
     generalize wc.drew = w42 at BK424 HB hHeld ⊢
     refine py 0 (some 42) #[true, false, false, false, false, false, false, false, false, false, false, false, false, false, false] HT_ ?_
     refine py 1 (some 43) #[true, true, false, false, false, false, false, false, false, false, false, false, false, false, false] HT_ ?_
     refine py 2 (some 44) #[true, true, true, false, false, false, false, false, false, false, false, false, false, false, false] HT_ ?_
     refine py 3 (some 45) #[true, true, true, true, false, false, false, false, false, false, false, false, false, false, false] HT_ ?_
     refine py 4 (some 46) #[true, true, true, true, true, false, false, false, false, false, false, false, false, false, false] HT_ ?_
     refine py 5 (some 47) #[true, true, true, true, true, true, false, false, false, false, false, false, false, false, false] HT_ ?_
     refine py 6 (some 48) #[true, true, true, true, true, true, true, false, false, false, false, false, false, false, false] HT_ ?_
     refine py 7 (some 49) #[true, true, true, true, true, true, true, true, false, false, false, false, false, false, false] HT_ ?_
     refine py 8 (some 50) #[true, true, true, true, true, true, true, true, true, false, false, false, false, false, false] HT_ ?_
     refine py 9 (some 51) #[true, true, true, true, true, true, true, true, true, true, false, false, false, false, false] HT_ ?_
     refine py 10 (some 52) #[true, true, true, true, true, true, true, true, true, true, true, false, false, false, false] HT_ ?_
     refine py 11 (some 53) #[true, true, true, true, true, true, true, true, true, true, true, true, false, false, false] HT_ ?_
     refine py 12 (some 54) #[true, true, true, true, true, true, true, true, true, true, true, true, true, false, false] HT_ ?_
     refine py 13 (some 55) #[true, true, true, true, true, true, true, true, true, true, true, true, true, true, false] HT_ ?_
     refine py 14 (some 8) #[true, true, true, true, true, true, true, true, true, true, true, true, true, true, true] HT_ ?_
     refine done_ (done_of HT_.out (by kernel_rfl)) ?_
     obtain ⟨hcz43_0, hcz43_1, hcz43_2, hfz43_0, hfz43_1, hfz43_2⟩ := c3 BK424.out
     try go_wp2
     go_ret
     exact ⟨by first | rfl | (simp [errW_none, errW_some] <;> rfl) | (simp only [← hji4, ← hji5, ← hji28]; first | rfl | (simp [errW_none, errW_some] <;> rfl)) | (simp [*, errW_none, errW_some] <;> rfl), bz HB.out⟩
   ·rw [if_neg c27] at H
    have c27b0 : decide (0 < ji5) = false := decide_eq_false c27
    clear c27
    by_cases c44 : t425 = true
    ·subst c44
     have H1 : (if t431.toList = ([] : List UInt8) then (some x8_10) else (if 1 + x8_10.size ≤ 9223372036854775807 then (some ((⟨#[45]⟩ : ByteArray) ++ x8_10)) else (none))) = some r := by rw [if_pos rfl] at H; exact H
     clear H
     have H := H1
     clear H1
     by_cases c45 : t431.toList = ([] : List UInt8)
     ·rw [if_pos c45] at H
      have c45b0 := beq_iff_eq.mpr c45
      have c45b1 := bne_eq_false_iff_eq.mpr c45
      clear c45
      obtain rfl := Option.some.inj H
      obtain ⟨hcz46_0, hcz46_1, hcz46_2, hfz46_0, hfz46_1, hfz46_2⟩ := c3 BK424.out
      go_wp2
      go_ret
      exact ⟨by first | rfl | (simp [errW_none, errW_some] <;> rfl) | (simp only [← hji4, ← hji5]; first | rfl | (simp [errW_none, errW_some] <;> rfl)) | (simp [*, errW_none, errW_some] <;> rfl), bz HB.out⟩
     ·rw [if_neg c45] at H
      have c45b0 := beq_eq_false_iff_ne.mpr c45
      have c45b1 := bne_iff_ne.mpr c45
      obtain ⟨c47, H⟩ := iN H
      have c47b0 := eq_true c47
      have c47b1 : decide (1 + x8_10.size ≤ 9223372036854775807) = true := decide_eq_true c47
      try have c47b2 : (9223372036854775807 < 1 + x8_10.size) = False := eq_false (Nat.not_lt.2 c47)
      obtain rfl := Option.some.inj H
      obtain ⟨hcz48_0, hcz48_1, hcz48_2, hfz48_0, hfz48_1, hfz48_2⟩ := c3 BK424.out
      go_wp2
      go_ret
      exact ⟨by first | rfl | (simp [errW_none, errW_some] <;> rfl) | (simp only [← hji4, ← hji5]; first | rfl | (simp [errW_none, errW_some] <;> rfl)) | (simp [*, errW_none, errW_some] <;> rfl), bz HB.out⟩
    ·replace c44 := Bool.eq_false_iff.mpr c44
     subst c44
     have H1 : (some x8_10) = some r := by rw [if_neg (show ¬ (false = true) by decide)] at H; exact H
     clear H
     have H := H1
     clear H1
     obtain rfl := Option.some.inj H
     obtain ⟨hcz49_0, hcz49_1, hcz49_2, hfz49_0, hfz49_1, hfz49_2⟩ := c3 BK424.out
     go_wp2
     go_ret
     exact ⟨by first | rfl | (simp [errW_none, errW_some] <;> rfl) | (simp only [← hji4, ← hji5]; first | rfl | (simp [errW_none, errW_some] <;> rfl)) | (simp [*, errW_none, errW_some] <;> rfl), bz HB.out⟩

/-! ### insolvencylaw2_awake: function 8 -/
def insolvencylaw2_awake.f (k : Nat)  : Option (Bool) := (rational_Fraction.f k 6 (-4)).bind fun bt436 => ((rational_Parse.f k (⟨#[51, 46, 50, 53, 48]⟩ : ByteArray)).bind fun bt441 => ((rational_Fraction.f k (-2) 3).bind fun bt446 => (if bt436.2.2.2 = true then ((rational_Format.f k bt436.1 bt436.2.1 bt436.2.2.1).bind fun t451 => (if t451.toList = ([45, 51, 47, 50] : List UInt8) then ((rational_Floor.f k bt436.1 bt436.2.1 bt436.2.2.1).bind fun bt452 => ((rational_Format.f k bt452.1 bt452.2.1 bt452.2.2).bind fun t455 => (if t455.toList = ([45, 50] : List UInt8) then (if bt441.2.2.2 = 0 then ((rational_Format.f k bt441.1 bt441.2.1 bt441.2.2.1).bind fun t456 => (if t456.toList = ([49, 51, 47, 52] : List UInt8) then ((rational_Decimal.f k bt446.1 bt446.2.1 bt446.2.2.1 2).bind fun t457 => (some (t457.toList == ([45, 48, 46, 54, 54] : List UInt8)))) else (some false))) else (some false)) else (some false)))) else (some false))) else (some false))))
theorem insolvencylaw2_awake.mono : ∀ k, LeO (insolvencylaw2_awake.f k ) (insolvencylaw2_awake.f (k + 1) ) := by
 intro  k
 unfold insolvencylaw2_awake.f
 repeat' with_reducible first | exact rational_Decimal.mono _ _ _ _ _ | exact rational_Floor.mono _ _ _ _ | exact rational_Format.mono _ _ _ _ | exact rational_Fraction.mono _ _ _ | exact rational_Parse.mono _ _ | exact LeO.refl _ | exact LeO.none _ | refine LeO.ite ?_ ?_ | refine LeO.bind ?_ (fun _ => ?_)
set_option maxHeartbeats 8000000 in
set_option maxRecDepth 100000 in
theorem insolvencylaw2_awake.calls (k : Nat)  (r : Bool) (w : World) (h : insolvencylaw2_awake.f k  = some r) (hr : r = true := by first | rfl | assumption) :
  Calls Tryd.prog 8 #[] w fun e w' => e = .returned (.bool r) ∧ Below w.heap.size w w' := by
 have hu23 := Tryd.underlying23
 have HB := Aside0.mk (Below.refl w.heap.size w)
 have H := h
 clear h
 unfold insolvencylaw2_awake.f at H
 obtain ⟨⟨t436, t437, t438, t439⟩, A1, H⟩ := bs1 H; dsimp only at H
 obtain ⟨⟨t441, t442, t443, t444⟩, A2, H⟩ := bs1 H; dsimp only at H
 obtain ⟨⟨t446, t447, t448, t449⟩, A3, H⟩ := bs1 H; dsimp only at H
 by_cases c4 : t439 = true
 ·subst c4
  have H1 : ((rational_Format.f k t436 t437 t438).bind fun t451 => (if t451.toList = ([45, 51, 47, 50] : List UInt8) then ((rational_Floor.f k t436 t437 t438).bind fun bt452 => ((rational_Format.f k bt452.1 bt452.2.1 bt452.2.2).bind fun t455 => (if t455.toList = ([45, 50] : List UInt8) then (if t444 = 0 then ((rational_Format.f k t441 t442 t443).bind fun t456 => (if t456.toList = ([49, 51, 47, 52] : List UInt8) then ((rational_Decimal.f k t446 t447 t448 2).bind fun t457 => (some (t457.toList == ([45, 48, 46, 54, 54] : List UInt8)))) else (some false))) else (some false)) else (some false)))) else (some false))) = some r := by rw [if_pos rfl] at H; exact H
  clear H
  have H := H1
  clear H1
  obtain ⟨t451, A5, H⟩ := bs1 H
  by_cases c6 : t451.toList = ([45, 51, 47, 50] : List UInt8)
  ·rw [if_pos c6] at H
   have c6b0 := beq_iff_eq.mpr c6
   have c6b1 := bne_eq_false_iff_eq.mpr c6
   clear c6
   obtain ⟨⟨t452, t453, t454⟩, A7, H⟩ := bs1 H; dsimp only at H
   obtain ⟨t455, A8, H⟩ := bs1 H
   by_cases c9 : t455.toList = ([45, 50] : List UInt8)
   ·rw [if_pos c9] at H
    have c9b0 := beq_iff_eq.mpr c9
    have c9b1 := bne_eq_false_iff_eq.mpr c9
    clear c9
    by_cases c10 : t444 = 0
    ·rw [if_pos c10] at H
     have c10b0 := beq_iff_eq.mpr c10
     have c10b1 := bne_eq_false_iff_eq.mpr c10
     clear c10
     obtain ⟨t456, A11, H⟩ := bs1 H
     by_cases c12 : t456.toList = ([49, 51, 47, 52] : List UInt8)
     ·rw [if_pos c12] at H
      have c12b0 := beq_iff_eq.mpr c12
      have c12b1 := bne_eq_false_iff_eq.mpr c12
      clear c12
      obtain ⟨t457, A13, H⟩ := bs1 H
      obtain rfl := Option.some.inj H
      go_enter Tryd.func8, Tryd.ntmps8
      go_wp2_with (first | ((with_reducible refine gc 21 rfl ?_); refine gl (some 8) Tryd.func21 #[.int .i64 6, .int .i64 (-4)] ?_; (with_reducible refine (rational_Fraction.calls k 6 (-4) t436 t437 t438 true _ A1.out).mono ?_); rintro e w14 ⟨rfl, hb⟩; refine ⟨_, rfl, ?_⟩; replace HB := Aside0.mk (bs HB.out hb); (try clear hb)) | ((with_reducible refine gd 1 rfl ?_); refine bx 1 (#[.bool false, .string (⟨#[]⟩ : ByteArray), .string (⟨#[]⟩ : ByteArray)]) 23 ?_; intro gb440 hg w15 hbox hb; have BK440 := Aside0.mk (hbox); have GW440 := sg hg HB.out; have GE440 := sg hg HB.out; replace HB := Aside0.mk (bs HB.out hb); clear hb hbox hg; obtain ⟨hcz16_0, hcz16_1, hcz16_2, hfz16_0, hfz16_1, hfz16_2⟩ := c3 BK440.out) | ((with_reducible refine gc 22 rfl ?_); refine gl (some 12) Tryd.func22 #[.string (⟨#[51, 46, 50, 53, 48]⟩ : ByteArray)] ?_; (with_reducible refine (rational_Parse.calls k (⟨#[51, 46, 50, 53, 48]⟩ : ByteArray) t441 t442 t443 t444 _ A2.out).mono ?_); rintro e w17 ⟨rfl, hb⟩; refine ⟨_, rfl, ?_⟩; replace BK440 := Aside0.mk (bk BK440.out hb (.cells #[.bool t436, .string t437, .string t438] 23 (0, 0))); replace HB := Aside0.mk (bs HB.out hb); (try clear hb)) | ((with_reducible refine gd 3 rfl ?_); refine bx 3 (#[.bool false, .string (⟨#[]⟩ : ByteArray), .string (⟨#[]⟩ : ByteArray)]) 23 ?_; intro gb445 hg w18 hbox hb; have BK445 := Aside0.mk (hbox); have GW445 := sg hg HB.out; have GE445 := sg hg HB.out; replace HB := Aside0.mk (bs HB.out hb); have NB440_445 := nl hg BK440.out; have NB445_440 := nr hg BK440.out; replace BK440 := Aside0.mk (bk0 BK440.out hb); clear hb hbox hg; have hnb19 := NB445_440.out; have hnc19 := NB440_445.out; obtain ⟨hcz20_0, hcz20_1, hcz20_2, hfz20_0, hfz20_1, hfz20_2⟩ := c3 BK445.out) | ((with_reducible refine gc 21 rfl ?_); refine gl (some 16) Tryd.func21 #[.int .i64 (-2), .int .i64 3] ?_; (with_reducible refine (rational_Fraction.calls k (-2) 3 t446 t447 t448 t449 _ A3.out).mono ?_); rintro e w21 ⟨rfl, hb⟩; refine ⟨_, rfl, ?_⟩; replace BK440 := Aside0.mk (bk0 BK440.out hb); replace BK445 := Aside0.mk (bk BK445.out hb (.cells #[.bool t441, .string t442, .string t443] 23 (0, 0))); replace HB := Aside0.mk (bs HB.out hb); (try clear hb)) | ((with_reducible refine gd 5 rfl ?_); refine bx 5 (#[.bool false, .string (⟨#[]⟩ : ByteArray), .string (⟨#[]⟩ : ByteArray)]) 23 ?_; intro gb450 hg w22 hbox hb; have BK450 := Aside0.mk (hbox); have GW450 := sg hg HB.out; have GE450 := sg hg HB.out; replace HB := Aside0.mk (bs HB.out hb); have NB440_450 := nl hg BK440.out; have NB450_440 := nr hg BK440.out; replace BK440 := Aside0.mk (bk0 BK440.out hb); have NB445_450 := nl hg BK445.out; have NB450_445 := nr hg BK445.out; replace BK445 := Aside0.mk (bk0 BK445.out hb); clear hb hbox hg; have hnb23 := NB450_440.out; have hnc23 := NB440_450.out; have hnb24 := NB450_445.out; have hnc24 := NB445_450.out; obtain ⟨hcz25_0, hcz25_1, hcz25_2, hfz25_0, hfz25_1, hfz25_2⟩ := c3 BK450.out; obtain ⟨hcz26_0, hcz26_1, hcz26_2, hfz26_0, hfz26_1, hfz26_2⟩ := c3 BK440.out) | (go_at_call 23; (with_reducible refine (rational_Format.calls k t436 t437 t438 t451 _ A5.out).mono ?_); rintro e w27 ⟨rfl, hb⟩; replace BK440 := Aside0.mk (bk0 BK440.out hb); replace BK445 := Aside0.mk (bk0 BK445.out hb); replace BK450 := Aside0.mk (bk BK450.out hb (.cells #[.bool t446, .string t447, .string t448] 23 (0, 0))); replace HB := Aside0.mk (bs HB.out hb); (try clear hb); obtain ⟨hcz28_0, hcz28_1, hcz28_2, hfz28_0, hfz28_1, hfz28_2⟩ := c3 BK440.out) | (go_at_call 24; (with_reducible refine (rational_Floor.calls k t436 t437 t438 t452 t453 t454 _ A7.out).mono ?_); rintro e w29 ⟨rfl, hb⟩; replace BK440 := Aside0.mk (bk0 BK440.out hb); replace BK445 := Aside0.mk (bk0 BK445.out hb); replace BK450 := Aside0.mk (bk0 BK450.out hb); replace HB := Aside0.mk (bs HB.out hb); (try clear hb)) | (go_at_call 23; (with_reducible refine (rational_Format.calls k t452 t453 t454 t455 _ A8.out).mono ?_); rintro e w30 ⟨rfl, hb⟩; replace BK440 := Aside0.mk (bk0 BK440.out hb); replace BK445 := Aside0.mk (bk0 BK445.out hb); replace BK450 := Aside0.mk (bk0 BK450.out hb); replace HB := Aside0.mk (bs HB.out hb); (try clear hb); obtain ⟨hcz31_0, hcz31_1, hcz31_2, hfz31_0, hfz31_1, hfz31_2⟩ := c3 BK445.out) | (go_at_call 23; (with_reducible refine (rational_Format.calls k t441 t442 t443 t456 _ A11.out).mono ?_); rintro e w32 ⟨rfl, hb⟩; replace BK440 := Aside0.mk (bk0 BK440.out hb); replace BK445 := Aside0.mk (bk0 BK445.out hb); replace BK450 := Aside0.mk (bk0 BK450.out hb); replace HB := Aside0.mk (bs HB.out hb); (try clear hb); obtain ⟨hcz33_0, hcz33_1, hcz33_2, hfz33_0, hfz33_1, hfz33_2⟩ := c3 BK450.out) | (go_at_call 25; (with_reducible refine (rational_Decimal.calls k t446 t447 t448 2 t457 _ A13.out).mono ?_); rintro e w34 ⟨rfl, hb⟩; replace BK440 := Aside0.mk (bk0 BK440.out hb); replace BK445 := Aside0.mk (bk0 BK445.out hb); replace BK450 := Aside0.mk (bk0 BK450.out hb); replace HB := Aside0.mk (bs HB.out hb); (try clear hb)))
      go_ret
      exact ⟨fe, bz HB.out⟩
     ·rw [if_neg c12] at H
      exact nf hr H
    ·rw [if_neg c10] at H
     exact nf hr H
   ·rw [if_neg c9] at H
    exact nf hr H
  ·rw [if_neg c6] at H
   exact nf hr H
 ·replace c4 := Bool.eq_false_iff.mpr c4
  subst c4
  have H1 : (some false) = some r := by rw [if_neg (show ¬ (false = true) by decide)] at H; exact H
  clear H
  have H := H1
  clear H1
  exact nf hr H/-! ### insolvencyref1_Normalize: function 28 -/
def insolvencyref1_Normalize.l0 : Nat → ByteArray → Int → Option (ByteArray)
 | 0, _, _ => none
 | k + 1, x0, x3 => if x3 < (x0.size : Int) then (if 0 ≤ x3 then (if (bt x0 x3) = 0 then (insolvencyref1_Normalize.l0 k x0 (wrap64 (x3 + 1))) else (if x3 ≤ (x0.size : Int) then (some (x0.extract (x3 : Int).toNat x0.size)) else (none))) else (none)) else (if 0 ≤ x3 then (if x3 ≤ (x0.size : Int) then (some (x0.extract (x3 : Int).toNat x0.size)) else (none)) else (none))
def insolvencyref1_Normalize.f (k : Nat) (a0 : ByteArray) : Option (ByteArray) := insolvencyref1_Normalize.l0 k a0 0
theorem insolvencyref1_Normalize.mono_l : ∀ k, (∀ y0 y1, LeO (insolvencyref1_Normalize.l0 k y0 y1) (insolvencyref1_Normalize.l0 (k + 1) y0 y1))
 | 0 => fun _ _ r h => by simp [insolvencyref1_Normalize.l0] at h
 | k + 1 => by
  have ih0 := insolvencyref1_Normalize.mono_l k
  ·intro y0 y1
   unfold insolvencyref1_Normalize.l0
   repeat' with_reducible first | exact ih0 _ _ | exact LeO.refl _ | exact LeO.none _ | refine LeO.ite ?_ ?_ | refine LeO.bind ?_ (fun _ => ?_)
theorem insolvencyref1_Normalize.mono : ∀ a0 k, LeO (insolvencyref1_Normalize.f k a0) (insolvencyref1_Normalize.f (k + 1) a0) := by
 intro a0 k
 have ih0 := insolvencyref1_Normalize.mono_l k
 unfold insolvencyref1_Normalize.f
 repeat' with_reducible first | exact ih0 _ _ | exact LeO.refl _ | exact LeO.none _ | refine LeO.ite ?_ ?_ | refine LeO.bind ?_ (fun _ => ?_)
set_option maxHeartbeats 8000000 in
set_option maxRecDepth 100000 in
theorem insolvencyref1_Normalize.calls (k : Nat) (a0 : ByteArray) (r : ByteArray) (w : World) (h : insolvencyref1_Normalize.f k a0 = some r) :
  Calls Tryd.prog 28 #[.string a0] w fun e w' => e = .returned (.string r) ∧ Drawn0 w w' := by
 have H := h
 clear h
 unfold insolvencyref1_Normalize.f at H
 have H' := Aside0.mk H
 clear H
 go_enter Tryd.func28, Tryd.ntmps28
 go_wp2
 go_loopg [3] k (fun kq v3 w' => ∃ (x3_1 : Int), v3 = .int .i64 x3_1 ∧ Aside0 (insolvencyref1_Normalize.l0 kq a0 x3_1 = some r) ∧ Aside0 (kq ≤ k) ∧ Drawn0 w w')
 case atStart => exact ⟨(0), fs, H', ⟨Nat.le_refl _⟩, dz⟩
 case round =>
  clear H'
  obtain ⟨x3_1, rfl, HA, HK1, ⟨m1, rfl⟩⟩ := hrel
  cases gk with
  | zero => exact absurd HA.out (by simp [insolvencyref1_Normalize.l0])
  | succ k1 =>
   have H := HA.out
   clear HA
   simp only [insolvencyref1_Normalize.l0] at H
   by_cases c2 : x3_1 < (a0.size : Int)
   ·rw [if_pos c2] at H
    have c2b0 : decide (x3_1 < (a0.size : Int)) = true := decide_eq_true c2
    clear c2
    obtain ⟨c3, H⟩ := iN H
    have c3b0 : decide (0 ≤ x3_1) = true := decide_eq_true c3
    clear c3
    by_cases c5 : (bt a0 x3_1) = 0
    ·rw [if_pos c5] at H
     have c5b0 := beq_iff_eq.mpr c5
     have c5b1 := bne_eq_false_iff_eq.mpr c5
     clear c5
     have H' := Aside0.mk H
     clear H
     have p4 : 0 ≤ (x3_1 : Int) := oa
     have q4 : x3_1 < (a0.size : Int) := oa
     have hx4 := bt_at a0 x3_1
     replace p4 := eq_true p4
     replace q4 := eq_true q4
     go_wp2
     go_roundg k1
     case measure => have := HK1.out; omega
     case rel => exact ⟨(wrap64 (x3_1 + 1)), fs, H', ⟨by have := HK1.out; omega⟩, dz⟩
    ·rw [if_neg c5] at H
     have c5b0 := beq_eq_false_iff_ne.mpr c5
     have c5b1 := bne_iff_ne.mpr c5
     have c6b0 := eq_true (oa : 0 ≤ x3_1)
     obtain ⟨c7, H⟩ := iN H
     have c7b0 := eq_true c7
     have c7b1 : decide (x3_1 ≤ (a0.size : Int)) = true := decide_eq_true c7
     clear c7
     obtain rfl := Option.some.inj H
     have p4 : 0 ≤ (x3_1 : Int) := oa
     have q4 : x3_1 < (a0.size : Int) := oa
     have hx4 := bt_at a0 x3_1
     replace p4 := eq_true p4
     replace q4 := eq_true q4
     go_wp2
     go_ret
     exact ⟨fs, dz⟩
   ·rw [if_neg c2] at H
    have c2b0 : decide (x3_1 < (a0.size : Int)) = false := decide_eq_false c2
    clear c2
    obtain ⟨c8, H⟩ := iN H
    have c8b0 := eq_true c8
    have c8b1 : decide (0 ≤ x3_1) = true := decide_eq_true c8
    clear c8
    obtain ⟨c9, H⟩ := iN H
    have c9b0 := eq_true c9
    have c9b1 : decide (x3_1 ≤ (a0.size : Int)) = true := decide_eq_true c9
    clear c9
    obtain rfl := Option.some.inj H
    go_wp2
    go_ret
    exact ⟨fs, dz⟩

/-! ### insolvencyref1_limbs: function 31 -/
def insolvencyref1_limbs.l0 : Nat → ByteArray → List Int → Int → Option (List Int)
 | 0, _, _, _ => none
 | k + 1, x0, x3, x4 => if x4 < (x0.size : Int) then (if 0 ≤ (wrap64 (Int.tdiv x4 4)) then (if (wrap64 (Int.tdiv x4 4)) < (x3.length : Int) then (if 0 ≤ (wrap64 ((wrap64 ((x0.size : Int) - 1)) - x4)) then (if (wrap64 ((wrap64 ((x0.size : Int) - 1)) - x4)) < (x0.size : Int) then (if 0 ≤ (IntKind.u64.wrap (wrap64 (8 * (Int.tmod x4 4)))) then (insolvencyref1_limbs.l0 k x0 (x3.set ((wrap64 (Int.tdiv x4 4)) : Int).toNat (Go.bits .or .u32 (rd x3 (wrap64 (Int.tdiv x4 4))) (shl .u32 ((bt x0 (wrap64 ((wrap64 ((x0.size : Int) - 1)) - x4))) % 4294967296) (IntKind.u64.wrap (wrap64 (8 * (Int.tmod x4 4))))))) (wrap64 (x4 + 1))) else (none)) else (none)) else (none)) else (none)) else (none)) else (some x3)
def insolvencyref1_limbs.f (k : Nat) (a0 : ByteArray) : Option (List Int) := (insolvencyref1_Normalize.f k a0).bind fun t458 => (if 0 ≤ (wrap64 (Int.tdiv (wrap64 ((t458.size : Int) + 3)) 4)) then (if (wrap64 (Int.tdiv (wrap64 ((t458.size : Int) + 3)) 4) : Int).toNat ≤ 70368744177664 then (insolvencyref1_limbs.l0 k t458 (List.replicate (wrap64 (Int.tdiv (wrap64 ((t458.size : Int) + 3)) 4) : Int).toNat 0) 0) else (none)) else (none))
theorem insolvencyref1_limbs.mono_l : ∀ k, (∀ y0 y1 y2, LeO (insolvencyref1_limbs.l0 k y0 y1 y2) (insolvencyref1_limbs.l0 (k + 1) y0 y1 y2))
 | 0 => fun _ _ _ r h => by simp [insolvencyref1_limbs.l0] at h
 | k + 1 => by
  have ih0 := insolvencyref1_limbs.mono_l k
  ·intro y0 y1 y2
   unfold insolvencyref1_limbs.l0
   repeat' with_reducible first | exact ih0 _ _ _ | exact insolvencyref1_Normalize.mono _ _ | exact LeO.refl _ | exact LeO.none _ | refine LeO.ite ?_ ?_ | refine LeO.bind ?_ (fun _ => ?_)
theorem insolvencyref1_limbs.mono : ∀ a0 k, LeO (insolvencyref1_limbs.f k a0) (insolvencyref1_limbs.f (k + 1) a0) := by
 intro a0 k
 have ih0 := insolvencyref1_limbs.mono_l k
 unfold insolvencyref1_limbs.f
 repeat' with_reducible first | exact ih0 _ _ _ | exact insolvencyref1_Normalize.mono _ _ | exact LeO.refl _ | exact LeO.none _ | refine LeO.ite ?_ ?_ | refine LeO.bind ?_ (fun _ => ?_)
def insolvencyref1_limbs.T6 : Bool × List (List Nat × List Nat) := (true, [([], []), ([], []), ([1], [1]), ([], []), ([], []), ([4], [4]), ([3, 5], [3, 5]), ([6], [6]), ([], []), ([], []), ([9], [9]), ([10], [10]), ([], []), ([11, 12], [11, 12]), ([8, 13], [8, 13]), ([14], [14]), ([], []), ([16], [16]), ([17], [17]), ([18], [18]), ([15, 19], [15, 19]), ([7, 20], [7, 20]), ([0, 2, 0, 1, 2, 3, 4, 5, 6, 7, 8, 9, 10, 11, 12, 13, 14, 15, 16, 17, 18, 19, 20, 21], [0, 2]), ([22, 21, 0, 1, 2, 3, 4, 5, 6, 7, 8, 9, 10, 11, 12, 13, 14, 15, 16, 17, 18, 19, 20, 21], [21, 22])])
def insolvencyref1_limbs.B6 : List Nat := [0, 0, 2, 0, 0, 16, 56, 120, 0, 0, 512, 1536, 0, 7680, 16128, 32512, 0, 65536, 196608, 458752, 1048320, 2097144, 4194303, 8388607]
theorem insolvencyref1_limbs.tab6 : rtab .any (opsOf Tryd.f31 6) = insolvencyref1_limbs.T6 := by kernel_rfl
theorem insolvencyref1_limbs.bits6 : waitsOk insolvencyref1_limbs.T6.2 insolvencyref1_limbs.B6 = true := by kernel_rfl
set_option maxHeartbeats 8000000 in
set_option maxRecDepth 100000 in
theorem insolvencyref1_limbs.calls (k : Nat) (a0 : ByteArray) (r : List Int) (w : World) (h : insolvencyref1_limbs.f k a0 = some r) :
  Calls Tryd.prog 31 #[.string a0] w fun e w' => ∃ v0_ : Value, e = .returned (v0_) ∧ Kd.R (Kd.int .u32) 72 w' w.heap.size (fun _ => True) v0_ r ∧ Below w.heap.size w w' := by
 have HB := Aside0.mk (Below.refl w.heap.size w)
 have H := h
 clear h
 unfold insolvencyref1_limbs.f at H
 obtain ⟨t458, A2, H⟩ := bs1 H
 obtain ⟨ji3, hji3⟩ : ∃ j_ : Int, (wrap64 (Int.tdiv (wrap64 ((t458.size : Int) + 3)) 4)) = j_ := ⟨_, rfl⟩
 first | rw [hji3] at H | simp only [hji3] at H
 (try rw [hji3] at A2)
 have hji3w : (IntKind.i64.wrap (Int.tdiv (wrap64 ((t458.size : Int) + 3)) 4)) = ji3 := (i64_w _).trans hji3
 obtain ⟨c4, H⟩ := iN H
 have c4b0 := eq_true c4
 have c4b1 : decide (0 ≤ (ji3)) = true := decide_eq_true c4
 clear c4
 obtain ⟨c5, H⟩ := iN H
 have c5b0 := eq_true c5
 have c5b1 : decide ((ji3 : Int).toNat ≤ 70368744177664) = true := decide_eq_true c5
 clear c5
 obtain ⟨y459, hy459⟩ : ∃ y_ : List Int, y_ = (List.replicate (ji3 : Int).toNat 0) := ⟨_, rfl⟩
 (try first | rw [← hy459] at H | (dsimp only at H; rw [← hy459] at H)); (try rw [Option.bind_some] at H)
 have Ny459 := Aside0.mk hy459
 clear hy459
 have H' := Aside0.mk H
 clear H
 go_enter Tryd.func31, Tryd.ntmps31
 go_wp2_with (first | ((with_reducible refine gc 28 rfl ?_); refine gl (some 6) Tryd.func28 #[.string a0] ?_; (with_reducible refine (insolvencyref1_Normalize.calls k a0 t458 _ A2.out).mono ?_); rintro e w' ⟨rfl, ⟨nd, rfl⟩⟩; refine ⟨_, rfl, ?_⟩) | ((with_reducible refine gd 11 rfl ?_); refine Kd.R_make (Kd.int .u32) _ 72 rfl (N := 11) rfl 50 _ _ rfl ji3 rfl rfl Tryd.underlying50 (.int .u32 0) 4 info72 rfl (by decide) (by omega) 0 (ok := fun _ => True) (okp := fun _ => True) rfl (fun _ hk => hk) trivial oa (Nat.le_trans (Nat.mul_le_mul_right _ (oa : ji3.toNat ≤ 70368744177664)) (by omega)) (Below.refl _ _) (Nat.le_refl _) ?_; intro v460 w6 ho7 hb hg_ hnew_; clear hg_ hnew_; (first | rw [← Ny459.out] at ho7 | (simp only [Int.reduceToNat] at ho7; rw [← Ny459.out] at ho7)); have HO461 := Aside0.mk (Kd.R_lower ho7 (sz HB.out)); replace HB := Aside0.mk (bs HB.out hb); clear hb ho7))
 go_loopg [4] k (fun kq v4 w' => ∃ (x3_1 : List Int) (x4_1 : Int), v4 = .int .i64 x4_1 ∧ Aside0 (insolvencyref1_limbs.l0 kq t458 x3_1 x4_1 = some r) ∧ Aside0 (kq ≤ k) ∧ Aside0 (Kd.R (Kd.int .u32) 72 w' w.heap.size (fun _ => True) v460 x3_1) ∧ Aside0 (Below w.heap.size w w'))
 case atStart => exact ⟨(y459), (0), fs, H', ⟨Nat.le_refl _⟩, ⟨vs HO461.out⟩, ⟨bz HB.out⟩⟩
 case round =>
  clear H'
  (try clear c4b0); (try clear c4b1); (try clear c5b0); (try clear c5b1)
  obtain ⟨x3_1, x4_1, rfl, HA, HK1, HO_3, HB⟩ := hrel
  cases gk with
  | zero => exact absurd HA.out (by simp [insolvencyref1_limbs.l0])
  | succ k1 =>
   have H := HA.out
   clear HA
   simp only [insolvencyref1_limbs.l0] at H
   by_cases c8 : x4_1 < (t458.size : Int)
   ·rw [if_pos c8] at H
    have c8b0 : decide (x4_1 < (t458.size : Int)) = true := decide_eq_true c8
    clear c8
    obtain ⟨ji9, hji9⟩ : ∃ j_ : Int, (wrap64 (Int.tdiv x4_1 4)) = j_ := ⟨_, rfl⟩
    first | rw [hji9] at H | simp only [hji9] at H
    have hji9w : (IntKind.i64.wrap (Int.tdiv x4_1 4)) = ji9 := (i64_w _).trans hji9
    obtain ⟨c10, H⟩ := iN H
    have c10b0 : decide (0 ≤ (ji9)) = true := decide_eq_true c10
    clear c10
    obtain ⟨c11, H⟩ := iN H
    have c11b0 : decide ((ji9) < (x3_1.length : Int)) = true := decide_eq_true c11
    clear c11
    obtain ⟨ji12, hji12⟩ : ∃ j_ : Int, (wrap64 ((wrap64 ((t458.size : Int) - 1)) - x4_1)) = j_ := ⟨_, rfl⟩
    first | rw [hji12] at H | simp only [hji12] at H
    have hji12w : (IntKind.i64.wrap ((wrap64 ((t458.size : Int) - 1)) - x4_1)) = ji12 := (i64_w _).trans hji12
    obtain ⟨c13, H⟩ := iN H
    have c13b0 : decide (0 ≤ (ji12)) = true := decide_eq_true c13
    clear c13
    obtain ⟨c14, H⟩ := iN H
    have c14b0 : decide ((ji12) < (t458.size : Int)) = true := decide_eq_true c14
    clear c14
    obtain ⟨ji16, hji16⟩ : ∃ j_ : Int, (IntKind.u64.wrap (wrap64 (8 * (Int.tmod x4_1 4)))) = j_ := ⟨_, rfl⟩
    first | rw [hji16] at H | simp only [hji16] at H
    obtain ⟨c17, H⟩ := iN H
    have c17b0 := eq_true c17
    have c17b1 : decide (0 ≤ (ji16)) = true := decide_eq_true c17
    clear c17
    obtain ⟨ji18, hji18⟩ : ∃ j_ : Int, (shl .u32 ((bt t458 (ji12)) % 4294967296) (ji16)) = j_ := ⟨_, rfl⟩
    first | rw [hji18] at H | simp only [hji18] at H
    have hji18_ : (IntKind.u32.wrap (((bt t458 (ji12)) % 4294967296) * 2 ^ min (ji16).toNat 32)) = ji18 := hji18
    have hji18z : (ji16) ≤ 32 → (IntKind.u32.wrap (((bt t458 (ji12)) % 4294967296) * 2 ^ (ji16).toNat)) = ji18 := shl_small hji18
    have hji18u_ : ((((bt t458 (ji12)) % 4294967296) * 2 ^ min (ji16).toNat 32) % 4294967296) = ji18 := hji18_
    have hji18u2_ : (ji16) ≤ 32 → ((((bt t458 (ji12)) % 4294967296) * 2 ^ (ji16).toNat) % 4294967296) = ji18 := hji18z
    have hji18u3_ : (IntKind.u32.wrap (IntKind.u32.wrap (bt t458 (ji12)) * 2 ^ min (ji16).toNat 32)) = ji18 := hji18_
    obtain ⟨y463, hy463⟩ : ∃ y_ : List Int, y_ = (x3_1.set ((ji9) : Int).toNat (Go.bits .or .u32 (rd x3_1 (ji9)) (ji18))) := ⟨_, rfl⟩
    (try first | rw [← hy463] at H | (dsimp only at H; rw [← hy463] at H)); (try rw [Option.bind_some] at H)
    have Ny463 := Aside0.mk hy463
    clear hy463
    have H' := Aside0.mk H
    clear H
    try go_wp2
    replace HO_3 := Aside0.mk (Kd.R_drew HO_3.out)
    replace HB := Aside0.mk (below_drew1 HB.out)
    obtain ⟨Ao21, co21, eo21⟩ := Kd.R_slice HO_3.out
    (first | subst eo21 | (injection eo21 with f1_ f2_ f3_; have f4_ := f1_.symm; have f5_ := f3_.symm; clear f1_ f2_ f3_; subst f4_; subst f5_))
    have p462 : 0 ≤ ((ji9) : Int) := oa
    have q462 : (ji9) < (x3_1.length : Int) := oa
    obtain ⟨ad462, e462, hx462_0⟩ := Kd.at_int (Kd.R_reads' HO_3.out).2.2 (ji9) p462 q462
    cases e462
    replace p462 := eq_true p462
    replace q462 := eq_true q462
    have p15 : 0 ≤ ((ji12) : Int) := oa
    have q15 : (ji12) < (t458.size : Int) := oa
    have hx15 := bt_at t458 (ji12)
    replace p15 := eq_true p15
    replace q15 := eq_true q15
    have p19 : 0 ≤ ((ji9) : Int) := oa
    have q19 : ((ji9) : Int) < ((x3_1.length : Int) : Int) := oa
    obtain ⟨go19, co19, eo19, gb19, gl19, cl19, HG19⟩ := Kd.R_form HO_3.out (by omega)
    (first | cases eo19 | (injection eo19 with ea_ en_ ec_; (first | subst ea_ | (injection ea_ with ea_; subst ea_)); subst ec_; clear en_))
    have GB19 := Aside0.mk gb19
    have GG19 := Aside0.mk HG19
    clear gb19 gl19 HG19
    (first | simp only [add_plain] at hx462_0 | skip)
    obtain ⟨hx19_0, hf19_0⟩ := Kd.R_celln 0 HO_3.out ((ji9) : Int) p19 q19
    replace p19 := eq_true p19
    replace q19 := eq_true q19
    have HP22 := Kd.R_putn HO_3.out ((ji9) : Int) (Go.bits .or .u32 (rd x3_1 (ji9)) (ji18))
    rw [← Ny463.out] at HP22
    have HQ22 := Aside0.mk HP22
    clear HP22
    refine start_ (n := 24) (S := fun w' => w'.cell? ⟨go19, ((ji9)).toNat, none⟩ = some (.int .u32 (rd x3_1 (ji9)))) (ds := [23]) #[false, false, false, false, false, false, false, false, false, false, false, false, false, false, false, false, false, false, false, false, false, false, false, false] (by kernel_rfl) rfl rfl (hx462_0) (fun hHeld => ?_); refine with_tabW insolvencyref1_limbs.tab6 insolvencyref1_limbs.bits6 (fun HT_ HW_ => ?_)
    generalize wr.drew = w20 at HO_3 HB GG19 HQ22 hf19_0 hx19_0 hx462_0 hHeld ⊢
    refine py 0 (some 18) #[true, false, false, false, false, false, false, false, false, false, false, false, false, false, false, false, false, false, false, false, false, false, false, false] HT_ ?_
    refine py 1 (some 19) #[true, true, false, false, false, false, false, false, false, false, false, false, false, false, false, false, false, false, false, false, false, false, false, false] HT_ ?_
    refine py 2 (some 20) #[true, true, true, false, false, false, false, false, false, false, false, false, false, false, false, false, false, false, false, false, false, false, false, false] HT_ ?_
    refine py 3 (some 21) #[true, true, true, true, false, false, false, false, false, false, false, false, false, false, false, false, false, false, false, false, false, false, false, false] HT_ ?_
    refine py 4 (some 22) #[true, true, true, true, true, false, false, false, false, false, false, false, false, false, false, false, false, false, false, false, false, false, false, false] HT_ ?_
    refine py 5 (some 23) #[true, true, true, true, true, true, false, false, false, false, false, false, false, false, false, false, false, false, false, false, false, false, false, false] HT_ ?_
    refine py 6 (some 24) #[true, true, true, true, true, true, true, false, false, false, false, false, false, false, false, false, false, false, false, false, false, false, false, false] HT_ ?_
    refine py 8 (some 26) #[true, true, true, true, true, true, true, false, true, false, false, false, false, false, false, false, false, false, false, false, false, false, false, false] HT_ ?_
    refine py 9 (some 27) #[true, true, true, true, true, true, true, false, true, true, false, false, false, false, false, false, false, false, false, false, false, false, false, false] HT_ ?_
    refine py 10 (some 28) #[true, true, true, true, true, true, true, false, true, true, true, false, false, false, false, false, false, false, false, false, false, false, false, false] HT_ ?_
    refine py 11 (some 29) #[true, true, true, true, true, true, true, false, true, true, true, true, false, false, false, false, false, false, false, false, false, false, false, false] HT_ ?_
    refine py 12 (some 30) #[true, true, true, true, true, true, true, false, true, true, true, true, true, false, false, false, false, false, false, false, false, false, false, false] HT_ ?_
    refine py 13 (some 31) #[true, true, true, true, true, true, true, false, true, true, true, true, true, true, false, false, false, false, false, false, false, false, false, false] HT_ ?_
    refine py 16 (some 34) #[true, true, true, true, true, true, true, false, true, true, true, true, true, true, false, false, true, false, false, false, false, false, false, false] HT_ ?_
    refine py 17 (some 35) #[true, true, true, true, true, true, true, false, true, true, true, true, true, true, false, false, true, true, false, false, false, false, false, false] HT_ ?_
    refine py 18 (some 36) #[true, true, true, true, true, true, true, false, true, true, true, true, true, true, false, false, true, true, true, false, false, false, false, false] HT_ ?_
    refine py 19 (some 37) #[true, true, true, true, true, true, true, false, true, true, true, true, true, true, false, false, true, true, true, true, false, false, false, false] HT_ ?_
    refine take_ (i := 7) (N := some 25) (v := ?_) (a' := ?_) #[true, true, true, true, true, true, true, true, true, true, true, true, true, true, false, false, true, true, true, true, false, false, false, false] rfl rfl (take_ofW HT_.out HW_.out (by kernel_rfl)) (fun _ _ _ h => h) (Or.inl ⟨by rfl, ?_⟩) hHeld ?_ ?_
    rotate_left
    ·intro w' s0
     go_simp
     with_reducible rfl
    rotate_left
    ·simp only [Act.put, List.setIfInBounds_toArray, List.set_cons_zero, List.set_cons_succ, i64_w, i32_w]
     rfl
    refine take_ (i := 14) (N := some 32) (v := ?_) (a' := ?_) #[true, true, true, true, true, true, true, true, true, true, true, true, true, true, true, false, true, true, true, true, false, false, false, false] rfl rfl (take_ofW HT_.out HW_.out (by kernel_rfl)) (fun _ _ _ h => h) (Or.inl ⟨by rfl, ?_⟩) hHeld ?_ ?_
    rotate_left
    ·intro w' s0
     go_simp
     with_reducible rfl
    rotate_left
    ·simp only [Act.put, List.setIfInBounds_toArray, List.set_cons_zero, List.set_cons_succ, i64_w, i32_w]
     rfl
    refine py 15 (some 33) #[true, true, true, true, true, true, true, true, true, true, true, true, true, true, true, true, true, true, true, true, false, false, false, false] HT_ ?_
    refine py 20 (some 38) #[true, true, true, true, true, true, true, true, true, true, true, true, true, true, true, true, true, true, true, true, true, false, false, false] HT_ ?_
    refine py 21 (some 39) #[true, true, true, true, true, true, true, true, true, true, true, true, true, true, true, true, true, true, true, true, true, true, false, false] HT_ ?_
    refine py 22 (some 40) #[true, true, true, true, true, true, true, true, true, true, true, true, true, true, true, true, true, true, true, true, true, true, true, false] HT_ ?_
    refine last_ (i := 23) (N := none) #[true, true, true, true, true, true, true, true, true, true, true, true, true, true, true, true, true, true, true, true, true, true, true, true] rfl rfl (one_of HT_.out (by kernel_rfl)) (by decide) (fun K hK => ?_)
    refine skip_ (w1 := ?_) (by rfl) rfl ?_ ?_
    rotate_left
    ·go_simp
     rfl
    refine hK.out _ _ ?_
    clear hK K
    refine done_ (done_of HT_.out (by kernel_rfl)) ?_
    try go_wp2
    go_roundg k1
    case measure => have := HK1.out; omega
    case rel => exact ⟨(y463), (wrap64 (x4_1 + 1)), fs, H', ⟨by have := HK1.out; omega⟩, ⟨vs HQ22.out⟩, ⟨bz HB.out⟩⟩
   ·rw [if_neg c8] at H
    have c8b0 : decide (x4_1 < (t458.size : Int)) = false := decide_eq_false c8
    clear c8
    obtain rfl := Option.some.inj H
    go_wp2
    go_ret
    exact ⟨_, by first | rfl | (simp [errW_none, errW_some] <;> rfl) | (simp only [← hji3]; first | rfl | (simp [errW_none, errW_some] <;> rfl)) | (simp [*, errW_none, errW_some] <;> rfl), vs HO_3.out, bz HB.out⟩

/-! ### insolvencyref1_strip: function 86 -/
def insolvencyref1_strip.l0 : Nat → List Int → Int → Option (List Int)
 | 0, _, _ => none
 | k + 1, x0, x3 => if x3 > 0 then (if 0 ≤ (wrap64 (x3 - 1)) then (if (wrap64 (x3 - 1)) < (x0.length : Int) then (if (rd x0 (wrap64 (x3 - 1))) = 0 then (insolvencyref1_strip.l0 k x0 (wrap64 (x3 - 1))) else (if 0 ≤ x3 then (if x3 ≤ (x0.length : Int) then (some (x0.take (x3 : Int).toNat)) else (none)) else (none))) else (none)) else (none)) else (if 0 ≤ x3 then (if x3 ≤ (x0.length : Int) then (some (x0.take (x3 : Int).toNat)) else (none)) else (none))
def insolvencyref1_strip.f (k : Nat) (l0 : List Int) : Option (List Int) := insolvencyref1_strip.l0 k l0 (l0.length : Int)
theorem insolvencyref1_strip.mono_l : ∀ k, (∀ y0 y1, LeO (insolvencyref1_strip.l0 k y0 y1) (insolvencyref1_strip.l0 (k + 1) y0 y1))
 | 0 => fun _ _ r h => by simp [insolvencyref1_strip.l0] at h
 | k + 1 => by
  have ih0 := insolvencyref1_strip.mono_l k
  ·intro y0 y1
   unfold insolvencyref1_strip.l0
   repeat' with_reducible first | exact ih0 _ _ | exact LeO.refl _ | exact LeO.none _ | refine LeO.ite ?_ ?_ | refine LeO.bind ?_ (fun _ => ?_)
theorem insolvencyref1_strip.mono : ∀ a0 k, LeO (insolvencyref1_strip.f k a0) (insolvencyref1_strip.f (k + 1) a0) := by
 intro a0 k
 have ih0 := insolvencyref1_strip.mono_l k
 unfold insolvencyref1_strip.f
 repeat' with_reducible first | exact ih0 _ _ | exact LeO.refl _ | exact LeO.none _ | refine LeO.ite ?_ ?_ | refine LeO.bind ?_ (fun _ => ?_)
set_option maxHeartbeats 8000000 in
set_option maxRecDepth 100000 in
theorem insolvencyref1_strip.calls (k : Nat) (P0_ : Nat → Prop) (A0 : Option Addr) (c0 : Nat) (l0 : List Int) (r : List Int) (w : World) (hs0 : Kd.V (Kd.int .u32) 72 w w.heap.size (fun k_ => P0_ k_) (.slice A0 l0.length c0) l0) (h : insolvencyref1_strip.f k l0 = some r) :
  Calls Tryd.prog 86 #[.slice A0 l0.length c0] w fun e w' => ∃ v0_ : Value, e = .returned (v0_) ∧ Kd.V (Kd.int .u32) 72 w' w.heap.size (fun k_ => (P0_ k_ ∨ w.heap.size ≤ k_)) v0_ r ∧ Below w.heap.size w w' := by
 have HO0 := Aside0.mk (show Kd.V (Kd.int .u32) 72 w w.heap.size (fun k_ => (P0_ k_ ∨ w.heap.size ≤ k_)) (.slice A0 l0.length c0) l0 from Kd.V_mono hs0 (fun k_ hk => .inl hk))
 have HB := Aside0.mk (Below.refl w.heap.size w)
 have H := h
 clear h
 unfold insolvencyref1_strip.f at H
 have H' := Aside0.mk H
 clear H
 go_enter Tryd.func86, Tryd.ntmps86
 go_wp2
 go_loopg [3] k (fun kq v3 w' => ∃ (x3_1 : Int), v3 = .int .i64 x3_1 ∧ Aside0 (insolvencyref1_strip.l0 kq l0 x3_1 = some r) ∧ Aside0 (kq ≤ k) ∧ Aside0 (Kd.V (Kd.int .u32) 72 w' w.heap.size (fun k_ => (P0_ k_ ∨ w.heap.size ≤ k_)) (.slice A0 l0.length c0) l0) ∧ Aside0 (Below w.heap.size w w'))
 case atStart => exact ⟨((l0.length : Int)), fs, H', ⟨Nat.le_refl _⟩, ⟨vs HO0.out⟩, ⟨bz HB.out⟩⟩
 case round =>
  clear H'
  obtain ⟨x3_1, rfl, HA, HK1, HO_0, HB⟩ := hrel
  cases gk with
  | zero => exact absurd HA.out (by simp [insolvencyref1_strip.l0])
  | succ k1 =>
   have H := HA.out
   clear HA
   simp only [insolvencyref1_strip.l0] at H
   by_cases c2 : x3_1 > 0
   ·rw [if_pos c2] at H
    have c2b0 : decide (0 < x3_1) = true := decide_eq_true c2
    clear c2
    obtain ⟨ji3, hji3⟩ : ∃ j_ : Int, (wrap64 (x3_1 - 1)) = j_ := ⟨_, rfl⟩
    first | rw [hji3] at H | simp only [hji3] at H
    have hji3w : (IntKind.i64.wrap (x3_1 - 1)) = ji3 := (i64_w _).trans hji3
    obtain ⟨c4, H⟩ := iN H
    have c4b0 : decide (0 ≤ (ji3)) = true := decide_eq_true c4
    clear c4
    obtain ⟨c5, H⟩ := iN H
    have c5b0 : decide ((ji3) < (l0.length : Int)) = true := decide_eq_true c5
    clear c5
    by_cases c6 : (rd l0 (ji3)) = 0
    ·rw [if_pos c6] at H
     have c6b0 := beq_iff_eq.mpr c6
     have c6b1 := bne_eq_false_iff_eq.mpr c6
     clear c6
     have H' := Aside0.mk H
     clear H
     have p464 : 0 ≤ ((ji3) : Int) := oa
     have q464 : (ji3) < (l0.length : Int) := oa
     obtain ⟨ad464, e464, hx464_0⟩ := Kd.at_int (Kd.V_reads' HO_0.out).2.2 (ji3) p464 q464
     cases e464
     replace p464 := eq_true p464
     replace q464 := eq_true q464
     go_wp2
     go_roundg k1
     case measure => have := HK1.out; omega
     case rel => exact ⟨(ji3), (by first | rfl | (simp; done) | (simp only [← hji3] <;> (first | rfl | simp)) | (simp [*]; done)), H', ⟨by have := HK1.out; omega⟩, ⟨vs HO_0.out⟩, ⟨bz HB.out⟩⟩
    ·rw [if_neg c6] at H
     have c6b0 := beq_eq_false_iff_ne.mpr c6
     have c6b1 := bne_iff_ne.mpr c6
     obtain ⟨c7, H⟩ := iN H
     have c7b0 := eq_true c7
     have c7b1 : decide (0 ≤ x3_1) = true := decide_eq_true c7
     clear c7
     obtain ⟨c8, H⟩ := iN H
     have c8b0 := eq_true c8
     have c8b1 : decide (x3_1 ≤ (l0.length : Int)) = true := decide_eq_true c8
     clear c8
     obtain ⟨y465, hy465⟩ : ∃ y_ : List Int, y_ = (l0.take (x3_1 : Int).toNat) := ⟨_, rfl⟩
     (try first | rw [← hy465] at H | (dsimp only at H; rw [← hy465] at H)); (try rw [Option.bind_some] at H)
     have Ny465 := Aside0.mk hy465
     clear hy465
     obtain rfl := Option.some.inj H
     have p464 : 0 ≤ ((ji3) : Int) := oa
     have q464 : (ji3) < (l0.length : Int) := oa
     obtain ⟨ad464, e464, hx464_0⟩ := Kd.at_int (Kd.V_reads' HO_0.out).2.2 (ji3) p464 q464
     cases e464
     replace p464 := eq_true p464
     replace q464 := eq_true q464
     have q9 : (x3_1 : Int) ≤ ((l0.length : Int) : Int) := oa
     obtain ⟨i09, hi09, _, hsz9, _⟩ := info_parts info72
     have hroom9 : l0.length ≤ c0 := (Kd.V_reads' HO_0.out).2.1
     have hC9 : Kd.F (Kd.int .u32) _ _ (some ad464) l0.length l0 := (Kd.V_at (base := w.heap.size) HO_0.out).2.2
     have hcut9 := cut_to (P := Tryd.prog) 50 72 .i64 Tryd.underlying50 hi09 (some ad464) l0.length c0 x3_1 oa q9 hroom9
     have hr9 := Kd.F_take (m := (x3_1 : Int).toNat) hC9 (by omega)
     have hy9 : y465.length = (x3_1 : Int).toNat := (by rw [Ny465.out, List.length_take]; omega)
     rw [← Ny465.out] at hr9
     rw [← hy9] at hcut9
     have HO469 := Aside0.mk (show Kd.V (Kd.int .u32) 72 _ w.heap.size _ (.slice (some ad464) y465.length c0) y465 from Kd.V_mk (by omega) hr9)
     have HC469 := Aside0.mk (show y465.length ≤ c0 from by omega)
     clear hr9 hC9 hroom9 hi09 hsz9
     have KY9 := Aside0.mk hy9
     clear hy9
     replace q9 := eq_true q9
     go_wp2
     go_ret
     exact ⟨_, by first | rfl | (simp [errW_none, errW_some] <;> rfl) | (simp only [← hji3]; first | rfl | (simp [errW_none, errW_some] <;> rfl)) | (simp [*, errW_none, errW_some] <;> rfl), vs HO469.out, bz HB.out⟩
   ·rw [if_neg c2] at H
    have c2b0 : decide (0 < x3_1) = false := decide_eq_false c2
    clear c2
    obtain ⟨c10, H⟩ := iN H
    have c10b0 := eq_true c10
    have c10b1 : decide (0 ≤ x3_1) = true := decide_eq_true c10
    clear c10
    obtain ⟨c11, H⟩ := iN H
    have c11b0 := eq_true c11
    have c11b1 : decide (x3_1 ≤ (l0.length : Int)) = true := decide_eq_true c11
    clear c11
    obtain ⟨y470, hy470⟩ : ∃ y_ : List Int, y_ = (l0.take (x3_1 : Int).toNat) := ⟨_, rfl⟩
    (try first | rw [← hy470] at H | (dsimp only at H; rw [← hy470] at H)); (try rw [Option.bind_some] at H)
    have Ny470 := Aside0.mk hy470
    clear hy470
    obtain rfl := Option.some.inj H
    have q12 : (x3_1 : Int) ≤ ((l0.length : Int) : Int) := oa
    obtain ⟨i012, hi012, _, hsz12, _⟩ := info_parts info72
    have hroom12 : l0.length ≤ c0 := (Kd.V_reads' HO_0.out).2.1
    have hC12 : Kd.F (Kd.int .u32) _ _ A0 l0.length l0 := (Kd.V_at (base := w.heap.size) HO_0.out).2.2
    have hcut12 := cut_to (P := Tryd.prog) 50 72 .i64 Tryd.underlying50 hi012 A0 l0.length c0 x3_1 oa q12 hroom12
    have hr12 := Kd.F_take (m := (x3_1 : Int).toNat) hC12 (by omega)
    have hy12 : y470.length = (x3_1 : Int).toNat := (by rw [Ny470.out, List.length_take]; omega)
    rw [← Ny470.out] at hr12
    rw [← hy12] at hcut12
    have HO474 := Aside0.mk (show Kd.V (Kd.int .u32) 72 _ w.heap.size _ (.slice A0 y470.length c0) y470 from Kd.V_mk (by omega) hr12)
    have HC474 := Aside0.mk (show y470.length ≤ c0 from by omega)
    clear hr12 hC12 hroom12 hi012 hsz12
    have KY12 := Aside0.mk hy12
    clear hy12
    replace q12 := eq_true q12
    go_wp2
    go_ret
    exact ⟨_, fe, vs HO474.out, bz HB.out⟩

/-! ### insolvencyref1_text: function 57 -/
def insolvencyref1_text.l0 : Nat → List Int → List Int → Int → Option (ByteArray)
 | 0, _, _, _ => none
 | k + 1, x0, x3, x4 => if x4 ≥ 0 then (if 0 ≤ x4 then (if x4 < (x0.length : Int) then ((some (([((rd x0 x4) / 16777216) % 256, ((rd x0 x4) / 65536) % 256, ((rd x0 x4) / 256) % 256, (rd x0 x4) % 256] : List Int) : List Int)).bind fun y482 => (if x3.length + y482.length < 140737488355328 then (insolvencyref1_text.l0 k x0 (x3 ++ y482) (wrap64 (x4 - 1))) else (none))) else (none)) else (none)) else ((insolvencyref1_Normalize.f k (strOfNums x3)).bind fun t488 => (some t488))
def insolvencyref1_text.f (k : Nat) (l0 : List Int) : Option (ByteArray) := (insolvencyref1_strip.f k l0).bind fun t475 => (if 0 ≤ (wrap64 (4 * (t475.length : Int))) then (if (wrap64 (4 * (t475.length : Int)) : Int).toNat ≤ 281474976710656 then (insolvencyref1_text.l0 k t475 (([] : List Int)) (wrap64 ((t475.length : Int) - 1))) else (none)) else (none))
theorem insolvencyref1_text.mono_l : ∀ k, (∀ y0 y1 y2, LeO (insolvencyref1_text.l0 k y0 y1 y2) (insolvencyref1_text.l0 (k + 1) y0 y1 y2))
 | 0 => fun _ _ _ r h => by simp [insolvencyref1_text.l0] at h
 | k + 1 => by
  have ih0 := insolvencyref1_text.mono_l k
  ·intro y0 y1 y2
   unfold insolvencyref1_text.l0
   repeat' with_reducible first | exact ih0 _ _ _ | exact insolvencyref1_Normalize.mono _ _ | exact insolvencyref1_strip.mono _ _ | exact LeO.refl _ | exact LeO.none _ | refine LeO.ite ?_ ?_ | refine LeO.bind ?_ (fun _ => ?_)
theorem insolvencyref1_text.mono : ∀ a0 k, LeO (insolvencyref1_text.f k a0) (insolvencyref1_text.f (k + 1) a0) := by
 intro a0 k
 have ih0 := insolvencyref1_text.mono_l k
 unfold insolvencyref1_text.f
 repeat' with_reducible first | exact ih0 _ _ _ | exact insolvencyref1_Normalize.mono _ _ | exact insolvencyref1_strip.mono _ _ | exact LeO.refl _ | exact LeO.none _ | refine LeO.ite ?_ ?_ | refine LeO.bind ?_ (fun _ => ?_)
set_option maxHeartbeats 8000000 in
set_option maxRecDepth 100000 in
theorem insolvencyref1_text.calls (k : Nat) (A0 : Option Addr) (c0 : Nat) (l0 : List Int) (r : ByteArray) (w : World) (hr0 : Kd.C (Kd.int .u32) w A0 l0.length l0) (hc0 : l0.length ≤ c0) (h : insolvencyref1_text.f k l0 = some r) :
  Calls Tryd.prog 57 #[.slice A0 l0.length c0] w fun e w' => e = .returned (.string r) ∧ Below w.heap.size w w' := by
 have HR0 := Aside0.mk hr0
 have HC0 := Aside0.mk hc0
 clear hr0 hc0
 have HB := Aside0.mk (Below.refl w.heap.size w)
 have H := h
 clear h
 unfold insolvencyref1_text.f at H
 obtain ⟨t475, A2, H⟩ := bs1 H
 obtain ⟨ji3, hji3⟩ : ∃ j_ : Int, (wrap64 (4 * (t475.length : Int))) = j_ := ⟨_, rfl⟩
 first | rw [hji3] at H | simp only [hji3] at H
 (try rw [hji3] at A2)
 have hji3w : (IntKind.i64.wrap (4 * (t475.length : Int))) = ji3 := (i64_w _).trans hji3
 obtain ⟨c4, H⟩ := iN H
 have c4b0 := eq_true c4
 have c4b1 : decide (0 ≤ (ji3)) = true := decide_eq_true c4
 clear c4
 obtain ⟨c5, H⟩ := iN H
 have c5b0 := eq_true c5
 have c5b1 : decide ((ji3 : Int).toNat ≤ 281474976710656) = true := decide_eq_true c5
 clear c5
 obtain ⟨y478, hy478⟩ : ∃ y_ : List Int, y_ = (([] : List Int)) := ⟨_, rfl⟩
 (try first | rw [← hy478] at H | (dsimp only at H; rw [← hy478] at H)); (try rw [Option.bind_some] at H)
 have Ny478 := Aside0.mk hy478
 clear hy478
 have H' := Aside0.mk H
 clear H
 go_enter Tryd.func57, Tryd.ntmps57
 go_wp2_with (first | ((with_reducible refine gc 86 rfl ?_); refine gl (some 7) Tryd.func86 #[.slice A0 l0.length c0] ?_; (with_reducible refine (insolvencyref1_strip.calls k (fun k_ => k_ < w.heap.size) _ _ l0 t475 _ ?side1 A2.out).mono ?_); (case side1 => exact Kd.V_mk HC0.out (Kd.F_below (Kd.C_F (Kd.heap_int .u32) HR0.out) (bz HB.out))); rintro e w6 ⟨v476, rfl, ho0, hb⟩; refine ⟨_, rfl, ?_⟩; have HO477 := Aside0.mk (Kd.V_lower (Kd.V_mono (ok' := fun k_ => True) ho0 (fun k_ hk_ => trivial)) (sz HB.out)); replace HB := Aside0.mk (bs HB.out hb); (try clear hb ho0); obtain ⟨Ao7, co7, rfl⟩ := Kd.V_slice HO477.out) | ((with_reducible refine gd 11 rfl ?_); refine Kd.R_makecap (Kd.int .u8) _ 5 rfl (N := 11) rfl 82 _ _ rfl ji3 rfl rfl Tryd.underlying82 (.int .u8 0) 1 info5 rfl (by decide) (by omega) 0 (ok := fun _ => True) (okp := fun _ => True) rfl (fun _ hk => hk) trivial oa (Nat.le_trans (Nat.mul_le_mul_right _ (oa : ji3.toNat ≤ 281474976710656)) (by omega)) (Below.refl _ _) (Nat.le_refl _) ?_; intro v479 w8 ho9 hb hg_ hnew_; clear hg_ hnew_; (first | rw [← Ny478.out] at ho9 | (simp only [Int.reduceToNat] at ho9; rw [← Ny478.out] at ho9)); replace HO477 := Aside0.mk (Kd.V_elder' (vs HO477.out) (Kd.R_base ho9) hb); have HO480 := Aside0.mk (Kd.R_lower ho9 (sz HB.out)); replace HB := Aside0.mk (bs HB.out hb); clear hb ho9))
 go_loopg [3, 4] k (fun kq v3 v4 w' => ∃ (x3_1 : List Int) (x4_1 : Int), v4 = .int .i64 x4_1 ∧ Aside0 (insolvencyref1_text.l0 kq t475 x3_1 x4_1 = some r) ∧ Aside0 (kq ≤ k) ∧ Aside0 (Kd.V (Kd.int .u32) 72 w' w.heap.size (fun k_ => some k_ ≠ (v3 : Value).ownBlock) (.slice Ao7 t475.length co7) t475) ∧ Aside0 (Kd.R (Kd.int .u8) 5 w' w.heap.size (fun _ => True) v3 x3_1) ∧ Aside0 (Below w.heap.size w w'))
 case atStart => exact ⟨(y478), (wrap64 ((t475.length : Int) - 1)), fs, H', ⟨Nat.le_refl _⟩, ⟨vm HO477.out (fun _ hk => hk.2)⟩, ⟨vs HO480.out⟩, ⟨bz HB.out⟩⟩
 case round =>
  clear H'
  (try clear c4b0); (try clear c4b1); (try clear c5b0); (try clear c5b1)
  obtain ⟨x3_1, x4_1, rfl, HA, HK1, HO_0, HO_3, HB⟩ := hrel
  cases gk with
  | zero => exact absurd HA.out (by simp [insolvencyref1_text.l0])
  | succ k1 =>
   have H := HA.out
   clear HA
   simp only [insolvencyref1_text.l0] at H
   by_cases c10 : x4_1 ≥ 0
   ·rw [if_pos c10] at H
    have c10b0 : decide (0 ≤ x4_1) = true := decide_eq_true c10
    clear c10
    obtain ⟨c11, H⟩ := iN H
    have c11b0 : decide (0 ≤ x4_1) = true := decide_eq_true c11
    clear c11
    obtain ⟨c12, H⟩ := iN H
    have c12b0 : decide (x4_1 < (t475.length : Int)) = true := decide_eq_true c12
    clear c12
    obtain ⟨y482, hy482⟩ : ∃ y_ : List Int, y_ = (([((rd t475 x4_1) / 16777216) % 256, ((rd t475 x4_1) / 65536) % 256, ((rd t475 x4_1) / 256) % 256, (rd t475 x4_1) % 256] : List Int)) := ⟨_, rfl⟩
    (try first | rw [← hy482] at H | (dsimp only at H; rw [← hy482] at H)); (try rw [Option.bind_some] at H)
    have Ny482 := Aside0.mk hy482
    clear hy482
    obtain ⟨c13, H⟩ := iN H
    have LMc13 := Aside0.mk c13
    clear c13
    obtain ⟨y485, hy485⟩ : ∃ y_ : List Int, y_ = (x3_1 ++ y482) := ⟨_, rfl⟩
    (try first | rw [← hy485] at H | (dsimp only at H; rw [← hy485] at H)); (try rw [Option.bind_some] at H)
    have Ny485 := Aside0.mk hy485
    clear hy485
    have H' := Aside0.mk H
    clear H
    have p481 : 0 ≤ (x4_1 : Int) := oa
    have q481 : x4_1 < (t475.length : Int) := oa
    obtain ⟨ad481, e481, hx481_0⟩ := Kd.at_int (Kd.V_reads' HO_0.out).2.2 x4_1 p481 q481
    cases e481
    replace p481 := eq_true p481
    replace q481 := eq_true q481
    go_wp2_with (first | ((with_reducible refine gd 35 rfl ?_); refine Kd.R_lit (Kd.int .u8) _ 5 ?hg (N := 35) ?hd (xs := ([((rd t475 x4_1) / 16777216) % 256, ((rd t475 x4_1) / 65536) % 256, ((rd t475 x4_1) / 256) % 256, (rd t475 x4_1) % 256] : List Int)) (inner := [.int .u8 (((rd t475 x4_1) / 16777216) % 256), .int .u8 (((rd t475 x4_1) / 65536) % 256), .int .u8 (((rd t475 x4_1) / 256) % 256), .int .u8 ((rd t475 x4_1) % 256)]) (ok := fun _ => True) (okp := fun _ => True) ?hr ?hp (fun _ hk => hk) trivial (Below.refl _ _) (Nat.le_refl _) (by simp) ?_; (case hd => rfl); (case hg => rfl); (case hr => first | (go_simp; done) | (go_simp; rfl)); (case hp => exact (Reps.one (show Kd.M (Kd.int .u8) _ _ _ (((rd t475 x4_1) / 16777216) % 256) [.int .u8 (((rd t475 x4_1) / 16777216) % 256)] from rfl) (Reps.one (show Kd.M (Kd.int .u8) _ _ _ (((rd t475 x4_1) / 65536) % 256) [.int .u8 (((rd t475 x4_1) / 65536) % 256)] from rfl) (Reps.one (show Kd.M (Kd.int .u8) _ _ _ (((rd t475 x4_1) / 256) % 256) [.int .u8 (((rd t475 x4_1) / 256) % 256)] from rfl) (Reps.one (show Kd.M (Kd.int .u8) _ _ _ ((rd t475 x4_1) % 256) [.int .u8 ((rd t475 x4_1) % 256)] from rfl) (Reps.none _ _)))))); intro v483 w14 ho15 hb hg_ hnew_; clear hg_ hnew_; (first | rw [← Ny482.out] at ho15 | (simp only [Int.reduceToNat] at ho15; rw [← Ny482.out] at ho15)); replace HO_0 := Aside0.mk (Kd.V_elder' (vs HO_0.out) (Kd.R_base ho15) hb); have HO484 := Aside0.mk (Kd.R_lower (Kd.R_new' ho15 (Kd.R_lt (vs HO_3.out))) (sz HB.out)); replace HO_3 := Aside0.mk (Kd.R_elder' (vs HO_3.out) (Kd.R_base ho15) hb); replace HB := Aside0.mk (bs HB.out hb); clear hb ho15; obtain ⟨Ao17, co17, eo17⟩ := Kd.R_slice HO484.out; subst eo17) | ((with_reducible refine gate_builtin (b := .append) (xs := #[.tmp 23, .tmp 35]) rfl ?_); at_builtin; refine Kd.R_append_rows (Kd.int .u8) (w0 := w) w.heap.size rfl (.tmp 23) (.tmp 35) 82 5 (.int .u8 0) 1 rfl Tryd.underlying82 info5 rfl (by decide) (by omega) u3 x3_1 y482 _ _ _ (fun k_ => some k_ ≠ (.slice Ao17 y482.length co17 : Value).ownBlock) (fun _ => False) rfl rfl ?aO ?aR (fun _ _ h => h) (fun _ h => h.elim) ?aF ?aB ?aS ?aL ?_; (case aR => exact vs (Kd.R_reads' HO484.out).2.2); (case aB => exact (bz HB.out)); (case aF => exact (fun k_ hk => Kd.fresh' (Kd.R_lt (vs HO484.out)) k_ hk)); (case aO => exact (rm HO_3.out (fun _ hk => hk.2))); (case aS => exact (sz HB.out)); (case aL => have := LMc13.out; omega); intro v486 w16 ho hb hg hat; rw [← Ny485.out] at ho; replace HO_0 := Aside0.mk (Kd.V_afterv (ok := (fun k_ => some k_ ≠ (.slice Ao17 y482.length co17 : Value).ownBlock)) (vm HO_0.out (fun _ hk => ⟨hk.2, hk.1⟩)) hg hat); replace HO484 := Aside0.mk (Kd.R_after (ok := (fun _ => True)) (vs HO484.out) hg hat); replace HB := Aside0.mk (hb); have HO487 := Aside0.mk (ho); clear HO_3; clear ho hb hg hat))
    go_roundg k1
    case measure => have := HK1.out; omega
    case rel => exact ⟨(y485), (wrap64 (x4_1 - 1)), fs, H', ⟨by have := HK1.out; omega⟩, ⟨vm HO_0.out (fun _ hk => hk.2)⟩, ⟨rm HO487.out (fun _ hk => trivial)⟩, ⟨bz HB.out⟩⟩
   ·rw [if_neg c10] at H
    have c10b0 : decide (0 ≤ x4_1) = false := decide_eq_false c10
    clear c10
    obtain ⟨t488, A18, H⟩ := bs1 H
    obtain rfl := Option.some.inj H
    have hcv19 := own_string (P := Tryd.prog) Tryd.underlying82 Tryd.underlying5 Tryd.underlying9 (Kd.own_of_R HO_3.out)
    go_wp2_with (first | ((with_reducible refine gc 28 rfl ?_); refine gl (some 39) Tryd.func28 #[.string (strOfNums x3_1)] ?_; (with_reducible refine (insolvencyref1_Normalize.calls k1 (strOfNums x3_1) t488 _ A18.out).mono ?_); rintro e w' ⟨rfl, ⟨nd, rfl⟩⟩; refine ⟨_, rfl, ?_⟩))
    go_ret
    exact ⟨by first | rfl | (simp [errW_none, errW_some] <;> rfl) | (simp only [← hji3]; first | rfl | (simp [errW_none, errW_some] <;> rfl)) | (simp [*, errW_none, errW_some] <;> rfl), bz HB.out⟩

/-! ### insolvencyref1_order: function 87 -/
def insolvencyref1_order.l0 : Nat → List Int → List Int → Int → Option (Int)
 | 0, _, _, _ => none
 | k + 1, x0, x1, x5 => if x5 ≥ 0 then (if 0 ≤ x5 then (if x5 < (x0.length : Int) then (if x5 < (x1.length : Int) then (if (rd x0 x5) = (rd x1 x5) then (insolvencyref1_order.l0 k x0 x1 (wrap64 (x5 - 1))) else (if (rd x0 x5) < (rd x1 x5) then (some (-1)) else (some 1))) else (none)) else (none)) else (none)) else (some 0)
def insolvencyref1_order.f (k : Nat) (l0 : List Int) (l1 : List Int) : Option (Int) := if (l0.length : Int) = (l1.length : Int) then (insolvencyref1_order.l0 k l0 l1 (wrap64 ((l0.length : Int) - 1))) else (if (l0.length : Int) < (l1.length : Int) then (some (-1)) else (some 1))
theorem insolvencyref1_order.mono_l : ∀ k, (∀ y0 y1 y2, LeO (insolvencyref1_order.l0 k y0 y1 y2) (insolvencyref1_order.l0 (k + 1) y0 y1 y2))
 | 0 => fun _ _ _ r h => by simp [insolvencyref1_order.l0] at h
 | k + 1 => by
  have ih0 := insolvencyref1_order.mono_l k
  ·intro y0 y1 y2
   unfold insolvencyref1_order.l0
   repeat' with_reducible first | exact ih0 _ _ _ | exact LeO.refl _ | exact LeO.none _ | refine LeO.ite ?_ ?_ | refine LeO.bind ?_ (fun _ => ?_)
theorem insolvencyref1_order.mono : ∀ a0 a1 k, LeO (insolvencyref1_order.f k a0 a1) (insolvencyref1_order.f (k + 1) a0 a1) := by
 intro a0 a1 k
 have ih0 := insolvencyref1_order.mono_l k
 unfold insolvencyref1_order.f
 repeat' with_reducible first | exact ih0 _ _ _ | exact LeO.refl _ | exact LeO.none _ | refine LeO.ite ?_ ?_ | refine LeO.bind ?_ (fun _ => ?_)
set_option maxHeartbeats 8000000 in
set_option maxRecDepth 100000 in
theorem insolvencyref1_order.calls (k : Nat) (A0 : Option Addr) (c0 : Nat) (l0 : List Int) (A1 : Option Addr) (c1 : Nat) (l1 : List Int) (r : Int) (w : World) (hr0 : Kd.C (Kd.int .u32) w A0 l0.length l0) (hc0 : l0.length ≤ c0) (hr1 : Kd.C (Kd.int .u32) w A1 l1.length l1) (hc1 : l1.length ≤ c1) (h : insolvencyref1_order.f k l0 l1 = some r) :
  Calls Tryd.prog 87 #[.slice A0 l0.length c0, .slice A1 l1.length c1] w fun e w' => e = .returned (.int .i64 r) ∧ Drawn0 w w' := by
 have HR0 := Aside0.mk hr0
 have HC0 := Aside0.mk hc0
 clear hr0 hc0
 have HR1 := Aside0.mk hr1
 have HC1 := Aside0.mk hc1
 clear hr1 hc1
 have H := h
 clear h
 unfold insolvencyref1_order.f at H
 by_cases c3 : (l0.length : Int) = (l1.length : Int)
 ·rw [if_pos c3] at H
  have c3b0 := beq_iff_eq.mpr c3
  have c3b1 := bne_eq_false_iff_eq.mpr c3
  have c3b2 : (l0.length == l1.length) = true := by first | simpa using c3 | (simp at c3 ⊢; omega)
  clear c3
  have H' := Aside0.mk H
  clear H
  go_enter Tryd.func87, Tryd.ntmps87
  go_wp2
  repeat (go_quiet (fail); try go_wp2)
  go_loopg [5] k (fun kq v5 w' => ∃ (x5_1 : Int), v5 = .int .i64 x5_1 ∧ Aside0 (insolvencyref1_order.l0 kq l0 l1 x5_1 = some r) ∧ Aside0 (kq ≤ k) ∧ Drawn0 w w')
  case atStart => exact ⟨(wrap64 ((l0.length : Int) - 1)), fs, H', ⟨Nat.le_refl _⟩, dz⟩
  case round =>
   clear H'
   (try clear c1); (try clear c3b0); (try clear c3b1); (try clear c3b2)
   obtain ⟨x5_1, rfl, HA, HK1, ⟨m1, rfl⟩⟩ := hrel
   cases gk with
   | zero => exact absurd HA.out (by simp [insolvencyref1_order.l0])
   | succ k1 =>
    have H := HA.out
    clear HA
    simp only [insolvencyref1_order.l0] at H
    by_cases c4 : x5_1 ≥ 0
    ·rw [if_pos c4] at H
     have c4b0 : decide (0 ≤ x5_1) = true := decide_eq_true c4
     clear c4
     obtain ⟨c5, H⟩ := iN H
     have c5b0 : decide (0 ≤ x5_1) = true := decide_eq_true c5
     clear c5
     obtain ⟨c6, H⟩ := iN H
     have c6b0 : decide (x5_1 < (l0.length : Int)) = true := decide_eq_true c6
     clear c6
     obtain ⟨c7, H⟩ := iN H
     have c7b0 : decide (x5_1 < (l1.length : Int)) = true := decide_eq_true c7
     clear c7
     by_cases c8 : (rd l0 x5_1) = (rd l1 x5_1)
     ·rw [if_pos c8] at H
      have c8b0 := beq_iff_eq.mpr c8
      have c8b1 := bne_eq_false_iff_eq.mpr c8
      clear c8
      have H' := Aside0.mk H
      clear H
      have p489 : 0 ≤ (x5_1 : Int) := oa
      have q489 : x5_1 < (l0.length : Int) := oa
      obtain ⟨ad489, e489, hx489_0⟩ := Kd.at_int HR0.out x5_1 p489 q489
      cases e489
      replace p489 := eq_true p489
      replace q489 := eq_true q489
      have p490 : 0 ≤ (x5_1 : Int) := oa
      have q490 : x5_1 < (l1.length : Int) := oa
      obtain ⟨ad490, e490, hx490_0⟩ := Kd.at_int HR1.out x5_1 p490 q490
      cases e490
      replace p490 := eq_true p490
      replace q490 := eq_true q490
      go_wp2
      repeat (go_quiet (fail); try go_wp2)
      go_roundg k1
      case measure => have := HK1.out; omega
      case rel => exact ⟨(wrap64 (x5_1 - 1)), fs, H', ⟨by have := HK1.out; omega⟩, dz⟩
     ·rw [if_neg c8] at H
      have c8b0 := beq_eq_false_iff_ne.mpr c8
      have c8b1 := bne_iff_ne.mpr c8
      by_cases c9 : (rd l0 x5_1) < (rd l1 x5_1)
      ·rw [if_pos c9] at H
       have c9b0 : decide ((rd l0 x5_1) < (rd l1 x5_1)) = true := decide_eq_true c9
       clear c9
       obtain rfl := Option.some.inj H
       have p489 : 0 ≤ (x5_1 : Int) := oa
       have q489 : x5_1 < (l0.length : Int) := oa
       obtain ⟨ad489, e489, hx489_0⟩ := Kd.at_int HR0.out x5_1 p489 q489
       cases e489
       replace p489 := eq_true p489
       replace q489 := eq_true q489
       have p490 : 0 ≤ (x5_1 : Int) := oa
       have q490 : x5_1 < (l1.length : Int) := oa
       obtain ⟨ad490, e490, hx490_0⟩ := Kd.at_int HR1.out x5_1 p490 q490
       cases e490
       replace p490 := eq_true p490
       replace q490 := eq_true q490
       have p491 : 0 ≤ (x5_1 : Int) := oa
       have q491 : x5_1 < (l0.length : Int) := oa
       obtain ⟨ad491, e491, hx491_0⟩ := Kd.at_int HR0.out x5_1 p491 q491
       obtain rfl : ad489 = ad491 := (by injection e491)
       replace p491 := eq_true p491
       replace q491 := eq_true q491
       have p492 : 0 ≤ (x5_1 : Int) := oa
       have q492 : x5_1 < (l1.length : Int) := oa
       obtain ⟨ad492, e492, hx492_0⟩ := Kd.at_int HR1.out x5_1 p492 q492
       obtain rfl : ad490 = ad492 := (by injection e492)
       replace p492 := eq_true p492
       replace q492 := eq_true q492
       go_wp2
       repeat (go_quiet (fail); try go_wp2)
       go_ret
       exact ⟨fs, dz⟩
      ·rw [if_neg c9] at H
       have c9b0 : decide ((rd l0 x5_1) < (rd l1 x5_1)) = false := decide_eq_false c9
       clear c9
       obtain rfl := Option.some.inj H
       have p489 : 0 ≤ (x5_1 : Int) := oa
       have q489 : x5_1 < (l0.length : Int) := oa
       obtain ⟨ad489, e489, hx489_0⟩ := Kd.at_int HR0.out x5_1 p489 q489
       cases e489
       replace p489 := eq_true p489
       replace q489 := eq_true q489
       have p490 : 0 ≤ (x5_1 : Int) := oa
       have q490 : x5_1 < (l1.length : Int) := oa
       obtain ⟨ad490, e490, hx490_0⟩ := Kd.at_int HR1.out x5_1 p490 q490
       cases e490
       replace p490 := eq_true p490
       replace q490 := eq_true q490
       have p491 : 0 ≤ (x5_1 : Int) := oa
       have q491 : x5_1 < (l0.length : Int) := oa
       obtain ⟨ad491, e491, hx491_0⟩ := Kd.at_int HR0.out x5_1 p491 q491
       obtain rfl : ad489 = ad491 := (by injection e491)
       replace p491 := eq_true p491
       replace q491 := eq_true q491
       have p492 : 0 ≤ (x5_1 : Int) := oa
       have q492 : x5_1 < (l1.length : Int) := oa
       obtain ⟨ad492, e492, hx492_0⟩ := Kd.at_int HR1.out x5_1 p492 q492
       obtain rfl : ad490 = ad492 := (by injection e492)
       replace p492 := eq_true p492
       replace q492 := eq_true q492
       go_wp2
       repeat (go_quiet (fail); try go_wp2)
       go_ret
       exact ⟨fs, dz⟩
    ·rw [if_neg c4] at H
     have c4b0 : decide (0 ≤ x5_1) = false := decide_eq_false c4
     clear c4
     obtain rfl := Option.some.inj H
     go_wp2
     repeat (go_quiet (fail); try go_wp2)
     go_ret
     exact ⟨fs, dz⟩
 ·rw [if_neg c3] at H
  have c3b0 := beq_eq_false_iff_ne.mpr c3
  have c3b1 := bne_iff_ne.mpr c3
  have c3b2 : (l0.length == l1.length) = false := by first | simpa using c3 | (simp at c3 ⊢; omega)
  by_cases c10 : (l0.length : Int) < (l1.length : Int)
  ·rw [if_pos c10] at H
   have c10b0 : decide ((l0.length : Int) < (l1.length : Int)) = true := decide_eq_true c10
   have c10b1 : decide (l0.length < l1.length) = true := decide_eq_true (Int.ofNat_lt.mp c10)
   clear c10
   obtain rfl := Option.some.inj H
   go_enter Tryd.func87, Tryd.ntmps87
   go_wp2
   repeat (go_quiet (fail); try go_wp2)
   go_ret
   exact ⟨fs, dz⟩
  ·rw [if_neg c10] at H
   have c10b0 : decide ((l0.length : Int) < (l1.length : Int)) = false := decide_eq_false c10
   have c10b1 : decide (l0.length < l1.length) = false := decide_eq_false (fun h => c10 (Int.ofNat_lt.mpr h))
   clear c10
   obtain rfl := Option.some.inj H
   go_enter Tryd.func87, Tryd.ntmps87
   go_wp2
   repeat (go_quiet (fail); try go_wp2)
   go_ret
   exact ⟨fs, dz⟩

/-! ### insolvencyref1_short: function 88 -/
def insolvencyref1_short.l0 : Nat → List Int → Int → List Int → Int → Int → Option (List Int × Int)
 | 0, _, _, _, _, _ => none
 | k + 1, x0, x1, x6, x7, x8 => if x8 ≥ 0 then (if 0 ≤ x8 then (if x8 < (x0.length : Int) then (if (IntKind.u64.wrap (x1)) = 0 then (none) else (if x8 < (x6.length : Int) then (insolvencyref1_short.l0 k x0 x1 (x6.set (x8 : Int).toNat ((IntKind.u64.wrap (Int.tdiv (Go.bits .or .u64 (IntKind.u64.wrap (x7 * 4294967296)) (IntKind.u64.wrap (rd x0 x8))) (IntKind.u64.wrap (x1)))) % 4294967296)) (Int.tmod (Go.bits .or .u64 (IntKind.u64.wrap (x7 * 4294967296)) (IntKind.u64.wrap (rd x0 x8))) (IntKind.u64.wrap (x1))) (wrap64 (x8 - 1))) else (none))) else (none)) else (none)) else ((insolvencyref1_strip.f k x6).bind fun t498 => (some (t498, (x7) % 4294967296)))
def insolvencyref1_short.f (k : Nat) (l0 : List Int) (a1 : Int) : Option (List Int × Int) := if 0 ≤ (l0.length : Int) then (if ((l0.length : Int) : Int).toNat ≤ 70368744177664 then (insolvencyref1_short.l0 k l0 a1 (List.replicate ((l0.length : Int) : Int).toNat 0) 0 (wrap64 ((l0.length : Int) - 1))) else (none)) else (none)
theorem insolvencyref1_short.mono_l : ∀ k, (∀ y0 y1 y2 y3 y4, LeO (insolvencyref1_short.l0 k y0 y1 y2 y3 y4) (insolvencyref1_short.l0 (k + 1) y0 y1 y2 y3 y4))
 | 0 => fun _ _ _ _ _ r h => by simp [insolvencyref1_short.l0] at h
 | k + 1 => by
  have ih0 := insolvencyref1_short.mono_l k
  ·intro y0 y1 y2 y3 y4
   unfold insolvencyref1_short.l0
   repeat' with_reducible first | exact ih0 _ _ _ _ _ | exact insolvencyref1_strip.mono _ _ | exact LeO.refl _ | exact LeO.none _ | refine LeO.ite ?_ ?_ | refine LeO.bind ?_ (fun _ => ?_)
theorem insolvencyref1_short.mono : ∀ a0 a1 k, LeO (insolvencyref1_short.f k a0 a1) (insolvencyref1_short.f (k + 1) a0 a1) := by
 intro a0 a1 k
 have ih0 := insolvencyref1_short.mono_l k
 unfold insolvencyref1_short.f
 repeat' with_reducible first | exact ih0 _ _ _ _ _ | exact insolvencyref1_strip.mono _ _ | exact LeO.refl _ | exact LeO.none _ | refine LeO.ite ?_ ?_ | refine LeO.bind ?_ (fun _ => ?_)
set_option maxHeartbeats 8000000 in
set_option maxRecDepth 100000 in
theorem insolvencyref1_short.calls (k : Nat) (A0 : Option Addr) (c0 : Nat) (l0 : List Int) (a1 : Int) (r1 : List Int) (r2 : Int) (w : World) (hr0 : Kd.C (Kd.int .u32) w A0 l0.length l0) (hc0 : l0.length ≤ c0) (h : insolvencyref1_short.f k l0 a1 = some (r1, r2)) :
  Calls Tryd.prog 88 #[.slice A0 l0.length c0, .int .u32 a1] w fun e w' => ∃ v0_ : Value, e = .returned (.tuple #[v0_, .int .u32 r2]) ∧ Kd.V (Kd.int .u32) 72 w' w.heap.size (fun k_ => (w.heap.size ≤ k_)) v0_ r1 ∧ Below w.heap.size w w' := by
 have HR0 := Aside0.mk hr0
 have HC0 := Aside0.mk hc0
 clear hr0 hc0
 have HB := Aside0.mk (Below.refl w.heap.size w)
 have H := h
 clear h
 unfold insolvencyref1_short.f at H
 obtain ⟨c3, H⟩ := iN H
 have c3b0 := eq_true c3
 have c3b1 : decide (0 ≤ (l0.length : Int)) = true := decide_eq_true c3
 clear c3
 obtain ⟨c4, H⟩ := iN H
 have c4b0 := eq_true c4
 have c4b1 : decide (((l0.length : Int) : Int).toNat ≤ 70368744177664) = true := decide_eq_true c4
 clear c4
 obtain ⟨y493, hy493⟩ : ∃ y_ : List Int, y_ = (List.replicate ((l0.length : Int) : Int).toNat 0) := ⟨_, rfl⟩
 (try first | rw [← hy493] at H | (dsimp only at H; rw [← hy493] at H)); (try rw [Option.bind_some] at H)
 have Ny493 := Aside0.mk hy493
 clear hy493
 have H' := Aside0.mk H
 clear H
 go_enter Tryd.func88, Tryd.ntmps88
 go_wp2_with (first | ((with_reducible refine gd 11 rfl ?_); refine Kd.R_make (Kd.int .u32) _ 72 rfl (N := 11) rfl 50 _ _ rfl (l0.length : Int) rfl rfl Tryd.underlying50 (.int .u32 0) 4 info72 rfl (by decide) (by omega) 0 (ok := fun _ => True) (okp := fun _ => True) rfl (fun _ hk => hk) trivial oa (Nat.le_trans (Nat.mul_le_mul_right _ (oa : (l0.length : Int).toNat ≤ 70368744177664)) (by omega)) (Below.refl _ _) (Nat.le_refl _) ?_; intro v494 w5 ho6 hb hg_ hnew_; clear hg_ hnew_; (first | rw [← Ny493.out] at ho6 | (simp only [Int.reduceToNat] at ho6; rw [← Ny493.out] at ho6)); have HO495 := Aside0.mk (Kd.R_lower (Kd.R_newM (M := fun k_ => (w.heap.size ≤ k_)) ho6 (sz HB.out) (fun k_ h_ => h_)) (sz HB.out)); replace HB := Aside0.mk (bs HB.out hb); clear hb ho6))
 go_loopg [7, 8] k (fun kq v7 v8 w' => ∃ (x6_1 : List Int) (x7_1 : Int) (x8_1 : Int), v7 = .int .u64 x7_1 ∧ v8 = .int .i64 x8_1 ∧ Aside0 (insolvencyref1_short.l0 kq l0 a1 x6_1 x7_1 x8_1 = some (r1, r2)) ∧ Aside0 (kq ≤ k) ∧ Aside0 (Kd.R (Kd.int .u32) 72 w' w.heap.size (fun k_ => (w.heap.size ≤ k_)) v494 x6_1) ∧ Aside0 (Below w.heap.size w w'))
 case atStart => exact ⟨(y493), (0), (wrap64 ((l0.length : Int) - 1)), fs, fs, H', ⟨Nat.le_refl _⟩, ⟨rm HO495.out (fun _ hk => hk.1)⟩, ⟨bz HB.out⟩⟩
 case round =>
  clear H'
  (try clear c3b0); (try clear c3b1); (try clear c4b0); (try clear c4b1)
  obtain ⟨x6_1, x7_1, x8_1, rfl, rfl, HA, HK1, HO_6, HB⟩ := hrel
  cases gk with
  | zero => exact absurd HA.out (by simp [insolvencyref1_short.l0])
  | succ k1 =>
   have H := HA.out
   clear HA
   simp only [insolvencyref1_short.l0] at H
   by_cases c7 : x8_1 ≥ 0
   ·rw [if_pos c7] at H
    have c7b0 : decide (0 ≤ x8_1) = true := decide_eq_true c7
    clear c7
    obtain ⟨c8, H⟩ := iN H
    have c8b0 : decide (0 ≤ x8_1) = true := decide_eq_true c8
    clear c8
    obtain ⟨c9, H⟩ := iN H
    have c9b0 : decide (x8_1 < (l0.length : Int)) = true := decide_eq_true c9
    clear c9
    by_cases c10 : (IntKind.u64.wrap (a1)) = 0
    ·rw [if_pos c10] at H
     exact absurd H (by simp)
    ·rw [if_neg c10] at H
     have c10b0 := beq_eq_false_iff_ne.mpr c10
     have c10b1 := bne_iff_ne.mpr c10
     obtain ⟨c11, H⟩ := iN H
     have c11b0 : decide (x8_1 < (x6_1.length : Int)) = true := decide_eq_true c11
     clear c11
     obtain ⟨y497, hy497⟩ : ∃ y_ : List Int, y_ = (x6_1.set (x8_1 : Int).toNat ((IntKind.u64.wrap (Int.tdiv (Go.bits .or .u64 (IntKind.u64.wrap (x7_1 * 4294967296)) (IntKind.u64.wrap (rd l0 x8_1))) (IntKind.u64.wrap (a1)))) % 4294967296)) := ⟨_, rfl⟩
     (try first | rw [← hy497] at H | (dsimp only at H; rw [← hy497] at H)); (try rw [Option.bind_some] at H)
     have Ny497 := Aside0.mk hy497
     clear hy497
     have H' := Aside0.mk H
     clear H
     have p496 : 0 ≤ (x8_1 : Int) := oa
     have q496 : x8_1 < (l0.length : Int) := oa
     obtain ⟨ad496, e496, hx496_0⟩ := Kd.at_int HR0.out x8_1 p496 q496
     cases e496
     try replace hx496_0 := (HB.out.cell (World.block_lt_of_cell? w _ hx496_0)).trans hx496_0
     replace p496 := eq_true p496
     replace q496 := eq_true q496
     have p12 : 0 ≤ (x8_1 : Int) := oa
     have q12 : (x8_1 : Int) < ((x6_1.length : Int) : Int) := oa
     obtain ⟨go12, co12, eo12, gb12, gl12, cl12, HG12⟩ := Kd.R_form HO_6.out (by omega)
     (first | cases eo12 | (injection eo12 with ea_ en_ ec_; (first | subst ea_ | (injection ea_ with ea_; subst ea_)); subst ec_; clear en_))
     have GB12 := Aside0.mk gb12
     have GG12 := Aside0.mk HG12
     clear gb12 gl12 HG12
     obtain ⟨hx12_0, hf12_0⟩ := Kd.R_celln 0 HO_6.out (x8_1 : Int) p12 q12
     replace p12 := eq_true p12
     replace q12 := eq_true q12
     have HP13 := Kd.R_putg HO_6.out (x8_1 : Int) ((IntKind.u64.wrap (Int.tdiv (Go.bits .or .u64 (IntKind.u64.wrap (x7_1 * 4294967296)) (IntKind.u64.wrap (rd l0 x8_1))) (IntKind.u64.wrap (a1)))) % 4294967296)
     go_wp2_with (first | ((with_reducible refine gate_store (t := 72) (p := 34) rfl ?_); refine se 72 34 (w1 := (wr.setCell ⟨go12, (x8_1 : Int).toNat, none⟩ (.int .u32 ((IntKind.u64.wrap (Int.tdiv (Go.bits .or .u64 (IntKind.u64.wrap (x7_1 * 4294967296)) (IntKind.u64.wrap (rd l0 x8_1))) (IntKind.u64.wrap (a1)))) % 4294967296)))) ?_; intro w14 hw; have hg : wr.grownBy w14 (some go12) := (by rw [hw]; exact HP13.2); have hp_ : Kd.R (Kd.int .u32) 72 w14 w.heap.size (fun k_ => (w.heap.size ≤ k_)) (.slice (some ⟨go12, 0, none⟩) x6_1.length co12) y497 := (by rw [hw, Ny497.out]; exact HP13.1); clear HP13; replace HO_6 := Aside0.mk (hp_); replace HB := Aside0.mk ((by rw [hw]; exact below_set (HB.out) GB12.out : Below w.heap.size w w14)); clear hg hw hp_))
     go_roundg k1
     case measure => have := HK1.out; omega
     case rel => exact ⟨(y497), (Int.tmod (Go.bits .or .u64 (IntKind.u64.wrap (x7_1 * 4294967296)) (IntKind.u64.wrap (rd l0 x8_1))) (IntKind.u64.wrap (a1))), (wrap64 (x8_1 - 1)), fs, fs, H', ⟨by have := HK1.out; omega⟩, ⟨vs HO_6.out⟩, ⟨bz HB.out⟩⟩
   ·rw [if_neg c7] at H
    have c7b0 : decide (0 ≤ x8_1) = false := decide_eq_false c7
    clear c7
    obtain ⟨t498, A15, H⟩ := bs1 H
    simp only [Option.some.injEq, Prod.mk.injEq] at H
    obtain ⟨rfl, rfl⟩ := H
    obtain ⟨Ao16, co16, eo16⟩ := Kd.R_slice HO_6.out
    subst eo16
    go_wp2_with (first | ((with_reducible refine gc 86 rfl ?_); refine gl (some 40) Tryd.func86 #[.slice Ao16 x6_1.length co16] ?_; (with_reducible refine (insolvencyref1_strip.calls k1 (fun k_ => some k_ = (.slice Ao16 x6_1.length co16 : Value).ownBlock) _ _ x6_1 t498 _ ?side1 A15.out).mono ?_); (case side1 => exact Kd.R_V (Kd.R_tight rfl (HO_6.out))); rintro e w17 ⟨v499, rfl, ho0, hb⟩; refine ⟨_, rfl, ?_⟩; have HO500 := Aside0.mk (Kd.V_lower (Kd.V_mono (ok' := fun k_ => (w.heap.size ≤ k_)) ho0 (fun k_ hk_ => Or.elim hk_ (fun hs_ => ((HO_6.out).1 k_ hs_.symm)) (fun hn_ => (Nat.le_trans (sz HB.out) hn_)))) (sz HB.out)); replace HO_6 := Aside0.mk (rb HO_6.out hb); replace HB := Aside0.mk (bs HB.out hb); (try clear hb ho0)))
    go_ret2
    exact ⟨_, fe, vs HO500.out, bz HB.out⟩
end Go.Proofs.YtgepdnoaemeofaaDoor.M
