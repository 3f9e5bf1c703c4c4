/- Printed by a program of this session (wip/tools) out of the translation: plain functions and the proofs that the code comes to their answers. -/
import Derived.Test.YtgepdnoaemeofaaGreatDoorXRationalTruncated1
namespace Go.Proofs.YtgepdnoaemeofaaGreatDoor.A
open Go.RowKit Go.Proofs.YtgepdnoaemeofaaGreatDoorW.PrintWords Go.Proofs.YtgepdnoaemeofaaGreatDoorW.PrintLast Go.Proofs.YtgepdnoaemeofaaGreatDoorW.PrintMore Go.Proofs.YtgepdnoaemeofaaGreatDoorW.PK
attribute [local go_sem] max2_int min2_int max_two min_two max_three min_three max_four min_four   -- for this text's walks alone
set_option linter.unusedVariables false
set_option linter.unusedSimpArgs false

/-! ### rational_reduced: function 62 -/
def rational_reduced.f (k : Nat) (a0 : Bool) (a1 : ByteArray) (a2 : ByteArray) : Option (Bool × ByteArray × ByteArray) := (natural_Normalize.f k a1).bind fun t282 => ((natural_Normalize.f k a2).bind fun t283 => (if t282.toList = ([] : List UInt8) then (some (false, (⟨#[]⟩ : ByteArray), (⟨#[]⟩ : ByteArray))) else (if t283.toList = ([1] : List UInt8) then (some (a0, t282, (⟨#[]⟩ : ByteArray))) else ((natural_GCD.f k t282 t283).bind fun t284 => (if t284.toList = ([1] : List UInt8) then (some (a0, t282, t283)) else ((natural_Divide.f k t282 t284).bind fun bt285 => ((natural_Divide.f k t283 t284).bind fun bt288 => (if bt288.1.toList = ([1] : List UInt8) then (some (a0, bt285.1, (⟨#[]⟩ : ByteArray))) else (some (a0, bt285.1, bt288.1))))))))))
set_option maxHeartbeats 8000000 in
set_option maxRecDepth 100000 in
theorem rational_reduced.calls (k : Nat) (a0 : Bool) (a1 : ByteArray) (a2 : ByteArray) (r1 : Bool) (r2 : ByteArray) (r3 : ByteArray) (w : World) (h : rational_reduced.f k a0 a1 a2 = some (r1, r2, r3)) :
  Calls Tryz.prog 62 #[.bool a0, .string a1, .string a2] w fun e w' => e = .returned (.agg #[.bool r1, .string r2, .string r3]) ∧ Below w.heap.size w w' := by
 have hu24 := Tryz.underlying24
 have HB := Aside0.mk (Below.refl w.heap.size w)
 have H := h
 clear h
 unfold rational_reduced.f at H
 obtain ⟨t282, A4, H⟩ := bs1 H
 obtain ⟨t283, A5, H⟩ := bs1 H
 by_cases c6 : t282.toList = ([] : List UInt8)
 ·rw [if_pos c6] at H
  have c6b0 := beq_iff_eq.mpr c6
  have c6b1 := bne_eq_false_iff_eq.mpr c6
  clear c6
  simp only [Option.some.injEq, Prod.mk.injEq] at H
  obtain ⟨rfl, rfl, rfl⟩ := H
  go_enter Tryz.func62, Tryz.ntmps62
  go_wp2_with (first | ((with_reducible refine gd 6 rfl ?_); refine bx 6 (#[.bool false, .string (⟨#[]⟩ : ByteArray), .string (⟨#[]⟩ : ByteArray)]) 24 ?_; intro gb281 hg w7 hbox hb; have BK281 := Aside0.mk (hbox); have GW281 := sg hg HB.out; have GE281 := sg hg HB.out; replace HB := Aside0.mk (bs HB.out hb); clear hb hbox hg) | ((with_reducible refine gc 107 rfl ?_); refine gl (some 9) Tryz.func107 #[.string a1] ?_; (with_reducible refine (natural_Normalize.calls k a1 t282 _ A4.out).mono ?_); rintro e w8 ⟨rfl, hb⟩; refine ⟨_, rfl, ?_⟩; replace BK281 := Aside0.mk (bk0 BK281.out hb); replace HB := Aside0.mk (bs HB.out hb); (try clear hb)) | ((with_reducible refine gc 107 rfl ?_); refine gl (some 11) Tryz.func107 #[.string a2] ?_; (with_reducible refine (natural_Normalize.calls k a2 t283 _ A5.out).mono ?_); rintro e w9 ⟨rfl, hb⟩; refine ⟨_, rfl, ?_⟩; replace BK281 := Aside0.mk (bk0 BK281.out hb); replace HB := Aside0.mk (bs HB.out hb); (try clear hb); obtain ⟨hcz10_0, hcz10_1, hcz10_2, hfz10_0, hfz10_1, hfz10_2⟩ := cz BK281.out))
  refine bodyPost_ret (results_cell_row rfl _ _ gb281 24 #[.bool false, .string (⟨#[]⟩ : ByteArray), .string (⟨#[]⟩ : ByteArray)] (0, 0) _ rfl (bq BK281.out) Tryz.underlying24 rfl (by kernel_rfl)) rfl ?_
  exact ⟨fe, bz HB.out⟩
 ·rw [if_neg c6] at H
  have c6b0 := beq_eq_false_iff_ne.mpr c6
  have c6b1 := bne_iff_ne.mpr c6
  by_cases c11 : t283.toList = ([1] : List UInt8)
  ·rw [if_pos c11] at H
   have c11b0 := beq_iff_eq.mpr c11
   have c11b1 := bne_eq_false_iff_eq.mpr c11
   clear c11
   simp only [Option.some.injEq, Prod.mk.injEq] at H
   obtain ⟨rfl, rfl, rfl⟩ := H
   go_enter Tryz.func62, Tryz.ntmps62
   go_wp2_with (first | ((with_reducible refine gd 6 rfl ?_); refine bx 6 (#[.bool false, .string (⟨#[]⟩ : ByteArray), .string (⟨#[]⟩ : ByteArray)]) 24 ?_; intro gb281 hg w12 hbox hb; have BK281 := Aside0.mk (hbox); have GW281 := sg hg HB.out; have GE281 := sg hg HB.out; replace HB := Aside0.mk (bs HB.out hb); clear hb hbox hg) | ((with_reducible refine gc 107 rfl ?_); refine gl (some 9) Tryz.func107 #[.string a1] ?_; (with_reducible refine (natural_Normalize.calls k a1 t282 _ A4.out).mono ?_); rintro e w13 ⟨rfl, hb⟩; refine ⟨_, rfl, ?_⟩; replace BK281 := Aside0.mk (bk0 BK281.out hb); replace HB := Aside0.mk (bs HB.out hb); (try clear hb)) | ((with_reducible refine gc 107 rfl ?_); refine gl (some 11) Tryz.func107 #[.string a2] ?_; (with_reducible refine (natural_Normalize.calls k a2 t283 _ A5.out).mono ?_); rintro e w14 ⟨rfl, hb⟩; refine ⟨_, rfl, ?_⟩; replace BK281 := Aside0.mk (bk0 BK281.out hb); replace HB := Aside0.mk (bs HB.out hb); (try clear hb); obtain ⟨hcz15_0, hcz15_1, hcz15_2, hfz15_0, hfz15_1, hfz15_2⟩ := cz BK281.out))
   refine bodyPost_ret (results_cell_row rfl _ _ gb281 24 #[.bool a0, .string t282, .string (⟨#[]⟩ : ByteArray)] (0, 0) _ rfl (bq BK281.out) Tryz.underlying24 rfl (by kernel_rfl)) rfl ?_
   exact ⟨fe, bz HB.out⟩
  ·rw [if_neg c11] at H
   have c11b0 := beq_eq_false_iff_ne.mpr c11
   have c11b1 := bne_iff_ne.mpr c11
   obtain ⟨t284, A16, H⟩ := bs1 H
   by_cases c17 : t284.toList = ([1] : List UInt8)
   ·rw [if_pos c17] at H
    have c17b0 := beq_iff_eq.mpr c17
    have c17b1 := bne_eq_false_iff_eq.mpr c17
    clear c17
    simp only [Option.some.injEq, Prod.mk.injEq] at H
    obtain ⟨rfl, rfl, rfl⟩ := H
    go_enter Tryz.func62, Tryz.ntmps62
    go_wp2_with (first | ((with_reducible refine gd 6 rfl ?_); refine bx 6 (#[.bool false, .string (⟨#[]⟩ : ByteArray), .string (⟨#[]⟩ : ByteArray)]) 24 ?_; intro gb281 hg w18 hbox hb; have BK281 := Aside0.mk (hbox); have GW281 := sg hg HB.out; have GE281 := sg hg HB.out; replace HB := Aside0.mk (bs HB.out hb); clear hb hbox hg) | ((with_reducible refine gc 107 rfl ?_); refine gl (some 9) Tryz.func107 #[.string a1] ?_; (with_reducible refine (natural_Normalize.calls k a1 t282 _ A4.out).mono ?_); rintro e w19 ⟨rfl, hb⟩; refine ⟨_, rfl, ?_⟩; replace BK281 := Aside0.mk (bk0 BK281.out hb); replace HB := Aside0.mk (bs HB.out hb); (try clear hb)) | ((with_reducible refine gc 107 rfl ?_); refine gl (some 11) Tryz.func107 #[.string a2] ?_; (with_reducible refine (natural_Normalize.calls k a2 t283 _ A5.out).mono ?_); rintro e w20 ⟨rfl, hb⟩; refine ⟨_, rfl, ?_⟩; replace BK281 := Aside0.mk (bk0 BK281.out hb); replace HB := Aside0.mk (bs HB.out hb); (try clear hb)) | ((with_reducible refine gc 108 rfl ?_); refine gl (some 19) Tryz.func108 #[.string t282, .string t283] ?_; (with_reducible refine (natural_GCD.calls k t282 t283 t284 _ A16.out).mono ?_); rintro e w21 ⟨rfl, hb⟩; refine ⟨_, rfl, ?_⟩; replace BK281 := Aside0.mk (bk0 BK281.out hb); replace HB := Aside0.mk (bs HB.out hb); (try clear hb); obtain ⟨hcz22_0, hcz22_1, hcz22_2, hfz22_0, hfz22_1, hfz22_2⟩ := cz BK281.out))
    refine bodyPost_ret (results_cell_row rfl _ _ gb281 24 #[.bool a0, .string t282, .string t283] (0, 0) _ rfl (bq BK281.out) Tryz.underlying24 rfl (by kernel_rfl)) rfl ?_
    exact ⟨fe, bz HB.out⟩
   ·rw [if_neg c17] at H
    have c17b0 := beq_eq_false_iff_ne.mpr c17
    have c17b1 := bne_iff_ne.mpr c17
    obtain ⟨⟨t285, t286, t287⟩, A23, H⟩ := bs1 H; dsimp only at H
    obtain ⟨⟨t288, t289, t290⟩, A24, H⟩ := bs1 H; dsimp only at H
    by_cases c25 : t288.toList = ([1] : List UInt8)
    ·rw [if_pos c25] at H
     have c25b0 := beq_iff_eq.mpr c25
     have c25b1 := bne_eq_false_iff_eq.mpr c25
     clear c25
     simp only [Option.some.injEq, Prod.mk.injEq] at H
     obtain ⟨rfl, rfl, rfl⟩ := H
     go_enter Tryz.func62, Tryz.ntmps62
     go_wp2_with (first | ((with_reducible refine gd 6 rfl ?_); refine bx 6 (#[.bool false, .string (⟨#[]⟩ : ByteArray), .string (⟨#[]⟩ : ByteArray)]) 24 ?_; intro gb281 hg w26 hbox hb; have BK281 := Aside0.mk (hbox); have GW281 := sg hg HB.out; have GE281 := sg hg HB.out; replace HB := Aside0.mk (bs HB.out hb); clear hb hbox hg) | ((with_reducible refine gc 107 rfl ?_); refine gl (some 9) Tryz.func107 #[.string a1] ?_; (with_reducible refine (natural_Normalize.calls k a1 t282 _ A4.out).mono ?_); rintro e w27 ⟨rfl, hb⟩; refine ⟨_, rfl, ?_⟩; replace BK281 := Aside0.mk (bk0 BK281.out hb); replace HB := Aside0.mk (bs HB.out hb); (try clear hb)) | ((with_reducible refine gc 107 rfl ?_); refine gl (some 11) Tryz.func107 #[.string a2] ?_; (with_reducible refine (natural_Normalize.calls k a2 t283 _ A5.out).mono ?_); rintro e w28 ⟨rfl, hb⟩; refine ⟨_, rfl, ?_⟩; replace BK281 := Aside0.mk (bk0 BK281.out hb); replace HB := Aside0.mk (bs HB.out hb); (try clear hb)) | ((with_reducible refine gc 108 rfl ?_); refine gl (some 19) Tryz.func108 #[.string t282, .string t283] ?_; (with_reducible refine (natural_GCD.calls k t282 t283 t284 _ A16.out).mono ?_); rintro e w29 ⟨rfl, hb⟩; refine ⟨_, rfl, ?_⟩; replace BK281 := Aside0.mk (bk0 BK281.out hb); replace HB := Aside0.mk (bs HB.out hb); (try clear hb)) | ((with_reducible refine gc 76 rfl ?_); refine gl (some 25) Tryz.func76 #[.string t282, .string t284] ?_; (with_reducible refine (natural_Divide.calls k t282 t284 t285 t286 t287 _ A23.out).mono ?_); rintro e w30 ⟨rfl, hb⟩; refine ⟨_, rfl, ?_⟩; replace BK281 := Aside0.mk (bk0 BK281.out hb); replace HB := Aside0.mk (bs HB.out hb); (try clear hb)) | ((with_reducible refine gc 76 rfl ?_); refine gl (some 32) Tryz.func76 #[.string t283, .string t284] ?_; (with_reducible refine (natural_Divide.calls k t283 t284 t288 t289 t290 _ A24.out).mono ?_); rintro e w31 ⟨rfl, hb⟩; refine ⟨_, rfl, ?_⟩; replace BK281 := Aside0.mk (bk0 BK281.out hb); replace HB := Aside0.mk (bs HB.out hb); (try clear hb); obtain ⟨hcz32_0, hcz32_1, hcz32_2, hfz32_0, hfz32_1, hfz32_2⟩ := cz BK281.out))
     refine bodyPost_ret (results_cell_row rfl _ _ gb281 24 #[.bool a0, .string t285, .string (⟨#[]⟩ : ByteArray)] (0, 0) _ rfl (bq BK281.out) Tryz.underlying24 rfl (by kernel_rfl)) rfl ?_
     exact ⟨fe, bz HB.out⟩
    ·rw [if_neg c25] at H
     have c25b0 := beq_eq_false_iff_ne.mpr c25
     have c25b1 := bne_iff_ne.mpr c25
     simp only [Option.some.injEq, Prod.mk.injEq] at H
     obtain ⟨rfl, rfl, rfl⟩ := H
     go_enter Tryz.func62, Tryz.ntmps62
     go_wp2_with (first | ((with_reducible refine gd 6 rfl ?_); refine bx 6 (#[.bool false, .string (⟨#[]⟩ : ByteArray), .string (⟨#[]⟩ : ByteArray)]) 24 ?_; intro gb281 hg w33 hbox hb; have BK281 := Aside0.mk (hbox); have GW281 := sg hg HB.out; have GE281 := sg hg HB.out; replace HB := Aside0.mk (bs HB.out hb); clear hb hbox hg) | ((with_reducible refine gc 107 rfl ?_); refine gl (some 9) Tryz.func107 #[.string a1] ?_; (with_reducible refine (natural_Normalize.calls k a1 t282 _ A4.out).mono ?_); rintro e w34 ⟨rfl, hb⟩; refine ⟨_, rfl, ?_⟩; replace BK281 := Aside0.mk (bk0 BK281.out hb); replace HB := Aside0.mk (bs HB.out hb); (try clear hb)) | ((with_reducible refine gc 107 rfl ?_); refine gl (some 11) Tryz.func107 #[.string a2] ?_; (with_reducible refine (natural_Normalize.calls k a2 t283 _ A5.out).mono ?_); rintro e w35 ⟨rfl, hb⟩; refine ⟨_, rfl, ?_⟩; replace BK281 := Aside0.mk (bk0 BK281.out hb); replace HB := Aside0.mk (bs HB.out hb); (try clear hb)) | ((with_reducible refine gc 108 rfl ?_); refine gl (some 19) Tryz.func108 #[.string t282, .string t283] ?_; (with_reducible refine (natural_GCD.calls k t282 t283 t284 _ A16.out).mono ?_); rintro e w36 ⟨rfl, hb⟩; refine ⟨_, rfl, ?_⟩; replace BK281 := Aside0.mk (bk0 BK281.out hb); replace HB := Aside0.mk (bs HB.out hb); (try clear hb)) | ((with_reducible refine gc 76 rfl ?_); refine gl (some 25) Tryz.func76 #[.string t282, .string t284] ?_; (with_reducible refine (natural_Divide.calls k t282 t284 t285 t286 t287 _ A23.out).mono ?_); rintro e w37 ⟨rfl, hb⟩; refine ⟨_, rfl, ?_⟩; replace BK281 := Aside0.mk (bk0 BK281.out hb); replace HB := Aside0.mk (bs HB.out hb); (try clear hb)) | ((with_reducible refine gc 76 rfl ?_); refine gl (some 32) Tryz.func76 #[.string t283, .string t284] ?_; (with_reducible refine (natural_Divide.calls k t283 t284 t288 t289 t290 _ A24.out).mono ?_); rintro e w38 ⟨rfl, hb⟩; refine ⟨_, rfl, ?_⟩; replace BK281 := Aside0.mk (bk0 BK281.out hb); replace HB := Aside0.mk (bs HB.out hb); (try clear hb); obtain ⟨hcz39_0, hcz39_1, hcz39_2, hfz39_0, hfz39_1, hfz39_2⟩ := cz BK281.out))
     refine bodyPost_ret (results_cell_row rfl _ _ gb281 24 #[.bool a0, .string t285, .string t288] (0, 0) _ rfl (bq BK281.out) Tryz.underlying24 rfl (by kernel_rfl)) rfl ?_
     exact ⟨fe, bz HB.out⟩

/-! ### natural_Add: function 63 -/
def natural_Add.l0 : Nat → List Int → List Int → List Int → Int → Int → Int → Option (ByteArray)
 | 0, _, _, _, _, _, _ => none
 | k + 1, x5, x6, x7, x8, x27, x28 => if x28 < x27 then (if x28 < (x6.length : Int) then (if 0 ≤ x28 then (if x28 < (x5.length : Int) then ((bits_Add32.f (rd x5 x28) (rd x6 x28) x8).bind fun bt302 => (if x28 < (x7.length : Int) then (natural_Add.l0 k x5 x6 (x7.set (x28 : Int).toNat bt302.1) bt302.2 x27 (wrap64 (x28 + 1))) else (none))) else (none)) else (none)) else (if 0 ≤ x28 then (if x28 < (x5.length : Int) then ((bits_Add32.f (rd x5 x28) 0 x8).bind fun bt306 => (if x28 < (x7.length : Int) then (natural_Add.l0 k x5 x6 (x7.set (x28 : Int).toNat bt306.1) bt306.2 x27 (wrap64 (x28 + 1))) else (none))) else (none)) else (none))) else (if 0 ≤ (x5.length : Int) then (if (x5.length : Int) < (x7.length : Int) then ((natural_limbs_text.f k (x7.set ((x5.length : Int) : Int).toNat x8)).bind fun t310 => (some t310)) else (none)) else (none))
def natural_Add.f (k : Nat) (a0 : ByteArray) (a1 : ByteArray) : Option (ByteArray) := (natural_parse.f k a0).bind fun t291 => ((natural_parse.f k a1).bind fun t294 => (if (t291.length : Int) < (t294.length : Int) then (if 0 ≤ (wrap64 ((t294.length : Int) + 1)) then (if (wrap64 ((t294.length : Int) + 1) : Int).toNat ≤ 70368744177664 then (natural_Add.l0 k t294 t291 (List.replicate (wrap64 ((t294.length : Int) + 1) : Int).toNat 0) 0 (t294.length : Int) 0) else (none)) else (none)) else (if 0 ≤ (wrap64 ((t291.length : Int) + 1)) then (if (wrap64 ((t291.length : Int) + 1) : Int).toNat ≤ 70368744177664 then (natural_Add.l0 k t291 t294 (List.replicate (wrap64 ((t291.length : Int) + 1) : Int).toNat 0) 0 (t291.length : Int) 0) else (none)) else (none))))
set_option maxHeartbeats 8000000 in
set_option maxRecDepth 100000 in
theorem natural_Add.calls (k : Nat) (a0 : ByteArray) (a1 : ByteArray) (r : ByteArray) (w : World) (h : natural_Add.f k a0 a1 = some r) :
  Calls Tryz.prog 63 #[.string a0, .string a1] w fun e w' => e = .returned (.string r) ∧ Below w.heap.size w w' := by
 have HB := Aside0.mk (Below.refl w.heap.size w)
 have H := h
 clear h
 unfold natural_Add.f at H
 obtain ⟨t291, A3, H⟩ := bs1 H
 obtain ⟨t294, A4, H⟩ := bs1 H
 by_cases c5 : (t291.length : Int) < (t294.length : Int)
 ·rw [if_pos c5] at H
  have c5b0 : decide ((t291.length : Int) < (t294.length : Int)) = true := decide_eq_true c5
  have c5b1 : decide (t291.length < t294.length) = true := decide_eq_true (Int.ofNat_lt.mp c5)
  clear c5
  obtain ⟨ji6, hji6⟩ : ∃ j_ : Int, (wrap64 ((t294.length : Int) + 1)) = j_ := ⟨_, rfl⟩
  first | rw [hji6] at H | simp only [hji6] at H
  (try rw [hji6] at A3)
  (try rw [hji6] at A4)
  have hji6w : (IntKind.i64.wrap ((t294.length : Int) + 1)) = ji6 := (i64_w _).trans hji6
  obtain ⟨c7, H⟩ := iN H
  have c7b0 := eq_true c7
  have c7b1 : decide (0 ≤ (ji6)) = true := decide_eq_true c7
  clear c7
  obtain ⟨c8, H⟩ := iN H
  have c8b0 := eq_true c8
  have c8b1 : decide ((ji6 : Int).toNat ≤ 70368744177664) = true := decide_eq_true c8
  clear c8
  obtain ⟨y297, hy297⟩ : ∃ y_ : List Int, y_ = (List.replicate (ji6 : Int).toNat 0) := ⟨_, rfl⟩
  (try first | rw [← hy297] at H | (dsimp only at H; rw [← hy297] at H)); (try rw [Option.bind_some] at H)
  have Ny297 := Aside0.mk hy297
  clear hy297
  have H' := Aside0.mk H
  clear H
  go_enter Tryz.func63, Tryz.ntmps63
  go_wp2_with (first | ((with_reducible refine gc 109 rfl ?_); refine gl (some 12) Tryz.func109 #[.string a0] ?_; (with_reducible refine (natural_parse.calls k a0 t291 _ A3.out).mono ?_); rintro e w9 ⟨v292, rfl, ho0, hb⟩; refine ⟨_, rfl, ?_⟩; have HO293 := Aside0.mk (Kd.V_lower (Kd.V_mono (ok' := fun k_ => True) ho0 (fun k_ hk_ => trivial)) (sz HB.out)); replace HB := Aside0.mk (bs HB.out hb); (try clear hb ho0)) | ((with_reducible refine gc 109 rfl ?_); refine gl (some 14) Tryz.func109 #[.string a1] ?_; (with_reducible refine (natural_parse.calls k a1 t294 _ A4.out).mono ?_); rintro e w10 ⟨v295, rfl, ho0, hb⟩; refine ⟨_, rfl, ?_⟩; replace HO293 := Aside0.mk (vb HO293.out hb); have HO296 := Aside0.mk (Kd.V_lower (Kd.V_mono (ok' := fun k_ => True) ho0 (fun k_ hk_ => trivial)) (sz HB.out)); replace HB := Aside0.mk (bs HB.out hb); (try clear hb ho0); obtain ⟨Ao11, co11, rfl⟩ := Kd.V_slice HO293.out; obtain ⟨Ao12, co12, rfl⟩ := Kd.V_slice HO296.out) | ((with_reducible refine gd 25 rfl ?_); refine Kd.R_make (Kd.int .u32) _ 52 rfl (N := 25) rfl 88 _ _ rfl ji6 rfl rfl Tryz.underlying88 (.int .u32 0) 4 info52 rfl (by decide) (by omega) 0 (ok := fun _ => True) (okp := fun _ => True) rfl (fun _ hk => hk) trivial oa (Nat.le_trans (Nat.mul_le_mul_right _ (oa : ji6.toNat ≤ 70368744177664)) (by omega)) (Below.refl _ _) (Nat.le_refl _) ?_; intro v298 w13 ho14 hb hg_ hnew_; clear hg_ hnew_; (first | rw [← Ny297.out] at ho14 | (simp only [Int.reduceToNat] at ho14; rw [← Ny297.out] at ho14)); replace HO293 := Aside0.mk (Kd.V_elder' (vs HO293.out) (Kd.R_base ho14) hb); replace HO296 := Aside0.mk (Kd.V_elder' (vs HO296.out) (Kd.R_base ho14) hb); have HO299 := Aside0.mk (Kd.R_lower ho14 (sz HB.out)); replace HB := Aside0.mk (bs HB.out hb); clear hb ho14))
  go_loopg [8, 28] k (fun kq v8 v28 w' => ∃ (x7_1 : List Int) (x8_1 : Int) (x28_1 : Int), v8 = .int .u32 x8_1 ∧ v28 = .int .i64 x28_1 ∧ Aside0 (natural_Add.l0 kq t294 t291 x7_1 x8_1 (t294.length : Int) x28_1 = some r) ∧ Aside0 (kq ≤ k) ∧ Aside0 (Kd.V (Kd.int .u32) 52 w' w.heap.size (fun k_ => some k_ ≠ (v298 : Value).ownBlock) (.slice Ao12 t294.length co12) t294) ∧ Aside0 (Kd.V (Kd.int .u32) 52 w' w.heap.size (fun k_ => some k_ ≠ (v298 : Value).ownBlock) (.slice Ao11 t291.length co11) t291) ∧ Aside0 (Kd.R (Kd.int .u32) 52 w' w.heap.size (fun _ => True) v298 x7_1) ∧ Aside0 (Below w.heap.size w w'))
  case atStart => exact ⟨(y297), (0), (0), fs, fs, H', ⟨Nat.le_refl _⟩, ⟨vm HO296.out (fun _ hk => hk.2)⟩, ⟨vm HO293.out (fun _ hk => hk.2)⟩, ⟨vs HO299.out⟩, ⟨bz HB.out⟩⟩
  case round =>
   clear H'
   (try clear c5b0); (try clear c5b1); (try clear c7b0); (try clear c7b1); (try clear c8b0); (try clear c8b1)
   obtain ⟨x7_1, x8_1, x28_1, rfl, rfl, HA, HK1, HO_5, HO_6, HO_7, HB⟩ := hrel
   cases gk with
   | zero => exact absurd HA.out (by simp [natural_Add.l0])
   | succ k1 =>
    have H := HA.out
    clear HA
    simp only [natural_Add.l0] at H
    by_cases c15 : x28_1 < (t294.length : Int)
    ·rw [if_pos c15] at H
     have c15b0 : decide (x28_1 < (t294.length : Int)) = true := decide_eq_true c15
     clear c15
     by_cases c16 : x28_1 < (t291.length : Int)
     ·rw [if_pos c16] at H
      have c16b0 : decide (x28_1 < (t291.length : Int)) = true := decide_eq_true c16
      clear c16
      obtain ⟨c17, H⟩ := iN H
      have c17b0 : decide (0 ≤ x28_1) = true := decide_eq_true c17
      clear c17
      obtain ⟨c18, H⟩ := iN H
      have c18b0 : decide (x28_1 < (t294.length : Int)) = true := decide_eq_true c18
      clear c18
      obtain ⟨⟨t302, t303⟩, A19, H⟩ := bs1 H; dsimp only at H
      obtain ⟨c20, H⟩ := iN H
      have c20b0 : decide (x28_1 < (x7_1.length : Int)) = true := decide_eq_true c20
      clear c20
      obtain ⟨y304, hy304⟩ : ∃ y_ : List Int, y_ = (x7_1.set (x28_1 : Int).toNat t302) := ⟨_, rfl⟩
      (try first | rw [← hy304] at H | (dsimp only at H; rw [← hy304] at H)); (try rw [Option.bind_some] at H)
      have Ny304 := Aside0.mk hy304
      clear hy304
      have H' := Aside0.mk H
      clear H
      have p300 : 0 ≤ (x28_1 : Int) := oa
      have q300 : x28_1 < (t291.length : Int) := oa
      obtain ⟨ad300, e300, hx300_0⟩ := Kd.at_int (Kd.V_reads' HO_6.out).2.2 x28_1 p300 q300
      cases e300
      replace p300 := eq_true p300
      replace q300 := eq_true q300
      have p301 : 0 ≤ (x28_1 : Int) := oa
      have q301 : x28_1 < (t294.length : Int) := oa
      obtain ⟨ad301, e301, hx301_0⟩ := Kd.at_int (Kd.V_reads' HO_5.out).2.2 x28_1 p301 q301
      cases e301
      replace p301 := eq_true p301
      replace q301 := eq_true q301
      go_wp2_with (first | ((with_reducible refine gc 110 rfl ?_); refine gl (some 48) Tryz.func110 #[.int .u32 (rd t294 x28_1), .int .u32 (rd t291 x28_1), .int .u32 x8_1] ?_; (with_reducible refine (bits_Add32.calls (rd t294 x28_1) (rd t291 x28_1) x8_1 t302 t303 _ A19.out).mono ?_); rintro e w' ⟨rfl, ⟨nd, rfl⟩⟩; refine ⟨_, rfl, ?_⟩; (try (rw [drewN_self wr]; generalize hq_ : World.drewN wr _ = wr; have n0_ : Aside0 (Kd.V (Kd.int .u32) 52 wr w.heap.size (fun k_ => some k_ ≠ (v298 : Value).ownBlock) (.slice (some ad301) t294.length co12) t294) := ⟨by rw [← hq_]; exact (vs HO_5.out)⟩; have n1_ : Aside0 (Kd.V (Kd.int .u32) 52 wr w.heap.size (fun k_ => some k_ ≠ (v298 : Value).ownBlock) (.slice (some ad300) t291.length co11) t291) := ⟨by rw [← hq_]; exact (vs HO_6.out)⟩; have n2_ : Aside0 (Kd.R (Kd.int .u32) 52 wr w.heap.size (fun _ => True) v298 x7_1) := ⟨by rw [← hq_]; exact (vs HO_7.out)⟩; have n3_ : Aside0 (Below w.heap.size w wr) := ⟨by rw [← hq_]; exact (bz HB.out)⟩; clear HO_5 HO_6 HO_7 HB hq_; have HO_5 := n0_; have HO_6 := n1_; have HO_7 := n2_; have HB := n3_; clear n0_ n1_ n2_ n3_)); have p21 : 0 ≤ (x28_1 : Int) := oa; have q21 : (x28_1 : Int) < ((x7_1.length : Int) : Int) := oa; obtain ⟨go21, co21, eo21, gb21, gl21, cl21, HG21⟩ := Kd.R_form HO_7.out (by omega); (first | cases eo21 | (injection eo21 with ea_ en_ ec_; (first | subst ea_ | (injection ea_ with ea_; subst ea_)); subst ec_; clear en_)); have GB21 := Aside0.mk gb21; have GG21 := Aside0.mk HG21; clear gb21 gl21 HG21; obtain ⟨hx21_0, hf21_0⟩ := Kd.R_celln 0 HO_7.out (x28_1 : Int) p21 q21; replace p21 := eq_true p21; replace q21 := eq_true q21; obtain ⟨hy22_, hz22_⟩ := Kd.R_celln 0 HO_7.out (x28_1 : Int) oa oa; have HP22 := Kd.R_putg HO_7.out (x28_1 : Int) t302) | ((with_reducible refine gate_store (t := 52) (p := 51) rfl ?_); refine se 52 51 (w1 := (wr.setCell ⟨go21, (x28_1 : Int).toNat, none⟩ (.int .u32 t302))) ?_; intro w23 hw; have hg : wr.grownBy w23 (some go21) := (by rw [hw]; exact HP22.2); have hp_ : Kd.R (Kd.int .u32) 52 w23 w.heap.size (fun _ => True) (.slice (some ⟨go21, 0, none⟩) x7_1.length co21) y304 := (by rw [hw, Ny304.out]; exact HP22.1); clear HP22; replace HO_5 := Aside0.mk (Kd.V_afterv (v := (.slice (some ⟨go21, 0, none⟩) x7_1.length co21)) (v1 := (.slice (some ⟨go21, 0, none⟩) x7_1.length co21)) (ok := (fun _ => True)) (vm HO_5.out (fun _ hk => ⟨trivial, hk⟩)) hg (.inl rfl)); replace HO_6 := Aside0.mk (Kd.V_afterv (v := (.slice (some ⟨go21, 0, none⟩) x7_1.length co21)) (v1 := (.slice (some ⟨go21, 0, none⟩) x7_1.length co21)) (ok := (fun _ => True)) (vm HO_6.out (fun _ hk => ⟨trivial, hk⟩)) hg (.inl rfl)); replace HO_7 := Aside0.mk (hp_); replace HB := Aside0.mk ((by rw [hw]; exact below_set (HB.out) GB21.out : Below w.heap.size w w23)); clear hg hw hp_))
      go_roundg k1
      case measure => have := HK1.out; omega
      case rel => exact ⟨(y304), (t303), (wrap64 (x28_1 + 1)), fs, fs, H', ⟨by have := HK1.out; omega⟩, ⟨vm HO_5.out (fun _ hk => hk.2)⟩, ⟨vm HO_6.out (fun _ hk => hk.2)⟩, ⟨vs HO_7.out⟩, ⟨bz HB.out⟩⟩
     ·rw [if_neg c16] at H
      have c16b0 : decide (x28_1 < (t291.length : Int)) = false := decide_eq_false c16
      clear c16
      obtain ⟨c24, H⟩ := iN H
      have c24b0 : decide (0 ≤ x28_1) = true := decide_eq_true c24
      clear c24
      obtain ⟨c25, H⟩ := iN H
      have c25b0 : decide (x28_1 < (t294.length : Int)) = true := decide_eq_true c25
      clear c25
      obtain ⟨⟨t306, t307⟩, A26, H⟩ := bs1 H; dsimp only at H
      obtain ⟨c27, H⟩ := iN H
      have c27b0 : decide (x28_1 < (x7_1.length : Int)) = true := decide_eq_true c27
      clear c27
      obtain ⟨y308, hy308⟩ : ∃ y_ : List Int, y_ = (x7_1.set (x28_1 : Int).toNat t306) := ⟨_, rfl⟩
      (try first | rw [← hy308] at H | (dsimp only at H; rw [← hy308] at H)); (try rw [Option.bind_some] at H)
      have Ny308 := Aside0.mk hy308
      clear hy308
      have H' := Aside0.mk H
      clear H
      have p305 : 0 ≤ (x28_1 : Int) := oa
      have q305 : x28_1 < (t294.length : Int) := oa
      obtain ⟨ad305, e305, hx305_0⟩ := Kd.at_int (Kd.V_reads' HO_5.out).2.2 x28_1 p305 q305
      cases e305
      replace p305 := eq_true p305
      replace q305 := eq_true q305
      go_wp2_with (first | ((with_reducible refine gc 110 rfl ?_); refine gl (some 48) Tryz.func110 #[.int .u32 (rd t294 x28_1), .int .u32 0, .int .u32 x8_1] ?_; (with_reducible refine (bits_Add32.calls (rd t294 x28_1) 0 x8_1 t306 t307 _ A26.out).mono ?_); rintro e w' ⟨rfl, ⟨nd, rfl⟩⟩; refine ⟨_, rfl, ?_⟩; (try (rw [drewN_self wr]; generalize hq_ : World.drewN wr _ = wr; have n0_ : Aside0 (Kd.V (Kd.int .u32) 52 wr w.heap.size (fun k_ => some k_ ≠ (v298 : Value).ownBlock) (.slice (some ad305) t294.length co12) t294) := ⟨by rw [← hq_]; exact (vs HO_5.out)⟩; have n1_ : Aside0 (Kd.V (Kd.int .u32) 52 wr w.heap.size (fun k_ => some k_ ≠ (v298 : Value).ownBlock) (.slice Ao11 t291.length co11) t291) := ⟨by rw [← hq_]; exact (vs HO_6.out)⟩; have n2_ : Aside0 (Kd.R (Kd.int .u32) 52 wr w.heap.size (fun _ => True) v298 x7_1) := ⟨by rw [← hq_]; exact (vs HO_7.out)⟩; have n3_ : Aside0 (Below w.heap.size w wr) := ⟨by rw [← hq_]; exact (bz HB.out)⟩; clear HO_5 HO_6 HO_7 HB hq_; have HO_5 := n0_; have HO_6 := n1_; have HO_7 := n2_; have HB := n3_; clear n0_ n1_ n2_ n3_)); have p28 : 0 ≤ (x28_1 : Int) := oa; have q28 : (x28_1 : Int) < ((x7_1.length : Int) : Int) := oa; obtain ⟨go28, co28, eo28, gb28, gl28, cl28, HG28⟩ := Kd.R_form HO_7.out (by omega); (first | cases eo28 | (injection eo28 with ea_ en_ ec_; (first | subst ea_ | (injection ea_ with ea_; subst ea_)); subst ec_; clear en_)); have GB28 := Aside0.mk gb28; have GG28 := Aside0.mk HG28; clear gb28 gl28 HG28; obtain ⟨hx28_0, hf28_0⟩ := Kd.R_celln 0 HO_7.out (x28_1 : Int) p28 q28; replace p28 := eq_true p28; replace q28 := eq_true q28; obtain ⟨hy29_, hz29_⟩ := Kd.R_celln 0 HO_7.out (x28_1 : Int) oa oa; have HP29 := Kd.R_putg HO_7.out (x28_1 : Int) t306) | ((with_reducible refine gate_store (t := 52) (p := 51) rfl ?_); refine se 52 51 (w1 := (wr.setCell ⟨go28, (x28_1 : Int).toNat, none⟩ (.int .u32 t306))) ?_; intro w30 hw; have hg : wr.grownBy w30 (some go28) := (by rw [hw]; exact HP29.2); have hp_ : Kd.R (Kd.int .u32) 52 w30 w.heap.size (fun _ => True) (.slice (some ⟨go28, 0, none⟩) x7_1.length co28) y308 := (by rw [hw, Ny308.out]; exact HP29.1); clear HP29; replace HO_5 := Aside0.mk (Kd.V_afterv (v := (.slice (some ⟨go28, 0, none⟩) x7_1.length co28)) (v1 := (.slice (some ⟨go28, 0, none⟩) x7_1.length co28)) (ok := (fun _ => True)) (vm HO_5.out (fun _ hk => ⟨trivial, hk⟩)) hg (.inl rfl)); replace HO_6 := Aside0.mk (Kd.V_afterv (v := (.slice (some ⟨go28, 0, none⟩) x7_1.length co28)) (v1 := (.slice (some ⟨go28, 0, none⟩) x7_1.length co28)) (ok := (fun _ => True)) (vm HO_6.out (fun _ hk => ⟨trivial, hk⟩)) hg (.inl rfl)); replace HO_7 := Aside0.mk (hp_); replace HB := Aside0.mk ((by rw [hw]; exact below_set (HB.out) GB28.out : Below w.heap.size w w30)); clear hg hw hp_))
      go_roundg k1
      case measure => have := HK1.out; omega
      case rel => exact ⟨(y308), (t307), (wrap64 (x28_1 + 1)), fs, fs, H', ⟨by have := HK1.out; omega⟩, ⟨vm HO_5.out (fun _ hk => hk.2)⟩, ⟨vm HO_6.out (fun _ hk => hk.2)⟩, ⟨vs HO_7.out⟩, ⟨bz HB.out⟩⟩
    ·rw [if_neg c15] at H
     have c15b0 : decide (x28_1 < (t294.length : Int)) = false := decide_eq_false c15
     clear c15
     obtain ⟨c31, H⟩ := iN H
     have c31b0 : decide (0 ≤ (t294.length : Int)) = true := decide_eq_true c31
     have c31b1 : decide (0 ≤ t294.length) = true := decide_eq_true (by omega)
     clear c31
     obtain ⟨c32, H⟩ := iN H
     have c32b0 : decide ((t294.length : Int) < (x7_1.length : Int)) = true := decide_eq_true c32
     have c32b1 : decide (t294.length < x7_1.length) = true := decide_eq_true (Int.ofNat_lt.mp c32)
     clear c32
     obtain ⟨y309, hy309⟩ : ∃ y_ : List Int, y_ = (x7_1.set ((t294.length : Int) : Int).toNat x8_1) := ⟨_, rfl⟩
     (try first | rw [← hy309] at H | (dsimp only at H; rw [← hy309] at H)); (try rw [Option.bind_some] at H)
     have Ny309 := Aside0.mk hy309
     clear hy309
     obtain ⟨t310, A34, H⟩ := bs1 H
     obtain rfl := Option.some.inj H
     have p33 : 0 ≤ ((t294.length : Int) : Int) := oa
     have q33 : ((t294.length : Int) : Int) < ((x7_1.length : Int) : Int) := oa
     obtain ⟨go33, co33, eo33, gb33, gl33, cl33, HG33⟩ := Kd.R_form HO_7.out (by omega)
     (first | cases eo33 | (injection eo33 with ea_ en_ ec_; (first | subst ea_ | (injection ea_ with ea_; subst ea_)); subst ec_; clear en_))
     have GB33 := Aside0.mk gb33
     have GG33 := Aside0.mk HG33
     clear gb33 gl33 HG33
     obtain ⟨hx33_0, hf33_0⟩ := Kd.R_celln 0 HO_7.out ((t294.length : Int) : Int) p33 q33
     (try simp only [Int.toNat_natCast] at hx33_0); (try simp only [Int.toNat_natCast] at hf33_0)
     replace p33 := eq_true p33
     replace q33 := eq_true q33
     have HP35 := Kd.R_putg HO_7.out ((t294.length : Int) : Int) x8_1
     go_wp2_with (first | ((with_reducible refine gate_store (t := 52) (p := 57) rfl ?_); refine se 52 57 (w1 := (wr.setCell ⟨go33, ((t294.length : Int) : Int).toNat, none⟩ (.int .u32 x8_1))) ?_; intro w36 hw; have hg : wr.grownBy w36 (some go33) := (by rw [hw]; exact HP35.2); have hp_ : Kd.R (Kd.int .u32) 52 w36 w.heap.size (fun _ => True) (.slice (some ⟨go33, 0, none⟩) x7_1.length co33) y309 := (by rw [hw, Ny309.out]; exact HP35.1); clear HP35; replace HO_5 := Aside0.mk (Kd.V_afterv (v := (.slice (some ⟨go33, 0, none⟩) x7_1.length co33)) (v1 := (.slice (some ⟨go33, 0, none⟩) x7_1.length co33)) (ok := (fun _ => True)) (vm HO_5.out (fun _ hk => ⟨trivial, hk⟩)) hg (.inl rfl)); replace HO_6 := Aside0.mk (Kd.V_afterv (v := (.slice (some ⟨go33, 0, none⟩) x7_1.length co33)) (v1 := (.slice (some ⟨go33, 0, none⟩) x7_1.length co33)) (ok := (fun _ => True)) (vm HO_6.out (fun _ hk => ⟨trivial, hk⟩)) hg (.inl rfl)); replace HO_7 := Aside0.mk (hp_); replace HB := Aside0.mk ((by rw [hw]; exact below_set (HB.out) GB33.out : Below w.heap.size w w36)); clear hg hw hp_) | ((with_reducible refine gc 111 rfl ?_); refine goesL_ (some 59) rfl rfl Tryz.func111 (by kernel_rfl) rfl #[.slice (some ⟨go33, 0, none⟩) y309.length co33] rfl (by (try simp only [List.map_toArray, List.map_cons, List.map_nil]); first | done | (rw [show y309.length = x7_1.length from (Kd.R_reads' HO_7.out).1.symm] <;> rfl) | rfl | (simp only [List.length_drop, List.length_take]; rfl)) ?_; (with_reducible refine (natural_limbs_text.calls k1 _ _ y309 t310 _ ?side1 ?side2 A34.out).mono ?_); (case side1 => exact vs (Kd.R_reads' HO_7.out).2.2); (case side2 => rw [show y309.length = x7_1.length from (Kd.R_reads' HO_7.out).1.symm]; exact (Kd.R_reads' HO_7.out).2.1); rintro e w37 ⟨rfl, hb⟩; refine ⟨_, rfl, ?_⟩; replace HO_5 := Aside0.mk (vb HO_5.out hb); replace HO_6 := Aside0.mk (vb HO_6.out hb); replace HO_7 := Aside0.mk (rb HO_7.out hb); replace HB := Aside0.mk (bs HB.out hb); (try clear hb)))
     go_ret
     exact ⟨by first | rfl | (simp [errW_none, errW_some] <;> rfl) | (simp only [← hji6]; first | rfl | (simp [errW_none, errW_some] <;> rfl)) | (simp [*, errW_none, errW_some] <;> rfl), bz HB.out⟩
 ·rw [if_neg c5] at H
  have c5b0 : decide ((t291.length : Int) < (t294.length : Int)) = false := decide_eq_false c5
  have c5b1 : decide (t291.length < t294.length) = false := decide_eq_false (fun h => c5 (Int.ofNat_lt.mpr h))
  clear c5
  obtain ⟨ji38, hji38⟩ : ∃ j_ : Int, (wrap64 ((t291.length : Int) + 1)) = j_ := ⟨_, rfl⟩
  first | rw [hji38] at H | simp only [hji38] at H
  (try rw [hji38] at A3)
  (try rw [hji38] at A4)
  have hji38w : (IntKind.i64.wrap ((t291.length : Int) + 1)) = ji38 := (i64_w _).trans hji38
  obtain ⟨c39, H⟩ := iN H
  have c39b0 := eq_true c39
  have c39b1 : decide (0 ≤ (ji38)) = true := decide_eq_true c39
  clear c39
  obtain ⟨c40, H⟩ := iN H
  have c40b0 := eq_true c40
  have c40b1 : decide ((ji38 : Int).toNat ≤ 70368744177664) = true := decide_eq_true c40
  clear c40
  obtain ⟨y311, hy311⟩ : ∃ y_ : List Int, y_ = (List.replicate (ji38 : Int).toNat 0) := ⟨_, rfl⟩
  (try first | rw [← hy311] at H | (dsimp only at H; rw [← hy311] at H)); (try rw [Option.bind_some] at H)
  have Ny311 := Aside0.mk hy311
  clear hy311
  have H' := Aside0.mk H
  clear H
  go_enter Tryz.func63, Tryz.ntmps63
  go_wp2_with (first | ((with_reducible refine gc 109 rfl ?_); refine gl (some 12) Tryz.func109 #[.string a0] ?_; (with_reducible refine (natural_parse.calls k a0 t291 _ A3.out).mono ?_); rintro e w41 ⟨v292, rfl, ho0, hb⟩; refine ⟨_, rfl, ?_⟩; have HO293 := Aside0.mk (Kd.V_lower (Kd.V_mono (ok' := fun k_ => True) ho0 (fun k_ hk_ => trivial)) (sz HB.out)); replace HB := Aside0.mk (bs HB.out hb); (try clear hb ho0)) | ((with_reducible refine gc 109 rfl ?_); refine gl (some 14) Tryz.func109 #[.string a1] ?_; (with_reducible refine (natural_parse.calls k a1 t294 _ A4.out).mono ?_); rintro e w42 ⟨v295, rfl, ho0, hb⟩; refine ⟨_, rfl, ?_⟩; replace HO293 := Aside0.mk (vb HO293.out hb); have HO296 := Aside0.mk (Kd.V_lower (Kd.V_mono (ok' := fun k_ => True) ho0 (fun k_ hk_ => trivial)) (sz HB.out)); replace HB := Aside0.mk (bs HB.out hb); (try clear hb ho0); obtain ⟨Ao43, co43, rfl⟩ := Kd.V_slice HO293.out; obtain ⟨Ao44, co44, rfl⟩ := Kd.V_slice HO296.out) | ((with_reducible refine gd 25 rfl ?_); refine Kd.R_make (Kd.int .u32) _ 52 rfl (N := 25) rfl 88 _ _ rfl ji38 rfl rfl Tryz.underlying88 (.int .u32 0) 4 info52 rfl (by decide) (by omega) 0 (ok := fun _ => True) (okp := fun _ => True) rfl (fun _ hk => hk) trivial oa (Nat.le_trans (Nat.mul_le_mul_right _ (oa : ji38.toNat ≤ 70368744177664)) (by omega)) (Below.refl _ _) (Nat.le_refl _) ?_; intro v312 w45 ho46 hb hg_ hnew_; clear hg_ hnew_; (first | rw [← Ny311.out] at ho46 | (simp only [Int.reduceToNat] at ho46; rw [← Ny311.out] at ho46)); replace HO293 := Aside0.mk (Kd.V_elder' (vs HO293.out) (Kd.R_base ho46) hb); replace HO296 := Aside0.mk (Kd.V_elder' (vs HO296.out) (Kd.R_base ho46) hb); have HO313 := Aside0.mk (Kd.R_lower ho46 (sz HB.out)); replace HB := Aside0.mk (bs HB.out hb); clear hb ho46))
  go_loopg [8, 28] k (fun kq v8 v28 w' => ∃ (x7_1 : List Int) (x8_1 : Int) (x28_1 : Int), v8 = .int .u32 x8_1 ∧ v28 = .int .i64 x28_1 ∧ Aside0 (natural_Add.l0 kq t291 t294 x7_1 x8_1 (t291.length : Int) x28_1 = some r) ∧ Aside0 (kq ≤ k) ∧ Aside0 (Kd.V (Kd.int .u32) 52 w' w.heap.size (fun k_ => some k_ ≠ (v312 : Value).ownBlock) (.slice Ao43 t291.length co43) t291) ∧ Aside0 (Kd.V (Kd.int .u32) 52 w' w.heap.size (fun k_ => some k_ ≠ (v312 : Value).ownBlock) (.slice Ao44 t294.length co44) t294) ∧ Aside0 (Kd.R (Kd.int .u32) 52 w' w.heap.size (fun _ => True) v312 x7_1) ∧ Aside0 (Below w.heap.size w w'))
  case atStart => exact ⟨(y311), (0), (0), fs, fs, H', ⟨Nat.le_refl _⟩, ⟨vm HO293.out (fun _ hk => hk.2)⟩, ⟨vm HO296.out (fun _ hk => hk.2)⟩, ⟨vs HO313.out⟩, ⟨bz HB.out⟩⟩
  case round =>
   clear H'
   (try clear c5b0); (try clear c5b1); (try clear c7b0); (try clear c7b1); (try clear c8b0); (try clear c8b1); (try clear c15b0); (try clear c16b0); (try clear c17b0); (try clear c18b0); (try clear c20b0); (try clear p21); (try clear q21); (try clear c24b0); (try clear c25b0); (try clear c27b0); (try clear p28); (try clear q28); (try clear c31b0); (try clear c31b1); (try clear c32b0); (try clear c32b1); (try clear p33); (try clear q33); (try clear c39b0); (try clear c39b1); (try clear c40b0); (try clear c40b1); (try clear hx21_0); (try clear hx28_0); (try clear hx300_0); (try clear hx301_0); (try clear hx305_0); (try clear hx33_0); (try clear p21); (try clear p28); (try clear p300); (try clear p301); (try clear p305); (try clear p33); (try clear q21); (try clear q28); (try clear q300); (try clear q301); (try clear q305); (try clear q33)
   obtain ⟨x7_1, x8_1, x28_1, rfl, rfl, HA, HK1, HO_5, HO_6, HO_7, HB⟩ := hrel
   cases gk with
   | zero => exact absurd HA.out (by simp [natural_Add.l0])
   | succ k1 =>
    have H := HA.out
    clear HA
    simp only [natural_Add.l0] at H
    by_cases c47 : x28_1 < (t291.length : Int)
    ·rw [if_pos c47] at H
     have c47b0 : decide (x28_1 < (t291.length : Int)) = true := decide_eq_true c47
     clear c47
     by_cases c48 : x28_1 < (t294.length : Int)
     ·rw [if_pos c48] at H
      have c48b0 : decide (x28_1 < (t294.length : Int)) = true := decide_eq_true c48
      clear c48
      obtain ⟨c49, H⟩ := iN H
      have c49b0 : decide (0 ≤ x28_1) = true := decide_eq_true c49
      clear c49
      obtain ⟨c50, H⟩ := iN H
      have c50b0 : decide (x28_1 < (t291.length : Int)) = true := decide_eq_true c50
      clear c50
      obtain ⟨⟨t302, t303⟩, A51, H⟩ := bs1 H; dsimp only at H
      obtain ⟨c52, H⟩ := iN H
      have c52b0 : decide (x28_1 < (x7_1.length : Int)) = true := decide_eq_true c52
      clear c52
      obtain ⟨y304, hy304⟩ : ∃ y_ : List Int, y_ = (x7_1.set (x28_1 : Int).toNat t302) := ⟨_, rfl⟩
      (try first | rw [← hy304] at H | (dsimp only at H; rw [← hy304] at H)); (try rw [Option.bind_some] at H)
      have Ny304 := Aside0.mk hy304
      clear hy304
      have H' := Aside0.mk H
      clear H
      have p300 : 0 ≤ (x28_1 : Int) := oa
      have q300 : x28_1 < (t294.length : Int) := oa
      obtain ⟨ad300, e300, hx300_0⟩ := Kd.at_int (Kd.V_reads' HO_6.out).2.2 x28_1 p300 q300
      cases e300
      replace p300 := eq_true p300
      replace q300 := eq_true q300
      have p301 : 0 ≤ (x28_1 : Int) := oa
      have q301 : x28_1 < (t291.length : Int) := oa
      obtain ⟨ad301, e301, hx301_0⟩ := Kd.at_int (Kd.V_reads' HO_5.out).2.2 x28_1 p301 q301
      cases e301
      replace p301 := eq_true p301
      replace q301 := eq_true q301
      go_wp2_with (first | ((with_reducible refine gc 110 rfl ?_); refine gl (some 48) Tryz.func110 #[.int .u32 (rd t291 x28_1), .int .u32 (rd t294 x28_1), .int .u32 x8_1] ?_; (with_reducible refine (bits_Add32.calls (rd t291 x28_1) (rd t294 x28_1) x8_1 t302 t303 _ A51.out).mono ?_); rintro e w' ⟨rfl, ⟨nd, rfl⟩⟩; refine ⟨_, rfl, ?_⟩; (try (rw [drewN_self wr]; generalize hq_ : World.drewN wr _ = wr; have n0_ : Aside0 (Kd.V (Kd.int .u32) 52 wr w.heap.size (fun k_ => some k_ ≠ (v312 : Value).ownBlock) (.slice (some ad301) t291.length co43) t291) := ⟨by rw [← hq_]; exact (vs HO_5.out)⟩; have n1_ : Aside0 (Kd.V (Kd.int .u32) 52 wr w.heap.size (fun k_ => some k_ ≠ (v312 : Value).ownBlock) (.slice (some ad300) t294.length co44) t294) := ⟨by rw [← hq_]; exact (vs HO_6.out)⟩; have n2_ : Aside0 (Kd.R (Kd.int .u32) 52 wr w.heap.size (fun _ => True) v312 x7_1) := ⟨by rw [← hq_]; exact (vs HO_7.out)⟩; have n3_ : Aside0 (Below w.heap.size w wr) := ⟨by rw [← hq_]; exact (bz HB.out)⟩; clear HO_5 HO_6 HO_7 HB hq_; have HO_5 := n0_; have HO_6 := n1_; have HO_7 := n2_; have HB := n3_; clear n0_ n1_ n2_ n3_)); have p53 : 0 ≤ (x28_1 : Int) := oa; have q53 : (x28_1 : Int) < ((x7_1.length : Int) : Int) := oa; obtain ⟨go53, co53, eo53, gb53, gl53, cl53, HG53⟩ := Kd.R_form HO_7.out (by omega); (first | cases eo53 | (injection eo53 with ea_ en_ ec_; (first | subst ea_ | (injection ea_ with ea_; subst ea_)); subst ec_; clear en_)); have GB53 := Aside0.mk gb53; have GG53 := Aside0.mk HG53; clear gb53 gl53 HG53; obtain ⟨hx53_0, hf53_0⟩ := Kd.R_celln 0 HO_7.out (x28_1 : Int) p53 q53; replace p53 := eq_true p53; replace q53 := eq_true q53; obtain ⟨hy54_, hz54_⟩ := Kd.R_celln 0 HO_7.out (x28_1 : Int) oa oa; have HP54 := Kd.R_putg HO_7.out (x28_1 : Int) t302) | ((with_reducible refine gate_store (t := 52) (p := 51) rfl ?_); refine se 52 51 (w1 := (wr.setCell ⟨go53, (x28_1 : Int).toNat, none⟩ (.int .u32 t302))) ?_; intro w55 hw; have hg : wr.grownBy w55 (some go53) := (by rw [hw]; exact HP54.2); have hp_ : Kd.R (Kd.int .u32) 52 w55 w.heap.size (fun _ => True) (.slice (some ⟨go53, 0, none⟩) x7_1.length co53) y304 := (by rw [hw, Ny304.out]; exact HP54.1); clear HP54; replace HO_5 := Aside0.mk (Kd.V_afterv (v := (.slice (some ⟨go53, 0, none⟩) x7_1.length co53)) (v1 := (.slice (some ⟨go53, 0, none⟩) x7_1.length co53)) (ok := (fun _ => True)) (vm HO_5.out (fun _ hk => ⟨trivial, hk⟩)) hg (.inl rfl)); replace HO_6 := Aside0.mk (Kd.V_afterv (v := (.slice (some ⟨go53, 0, none⟩) x7_1.length co53)) (v1 := (.slice (some ⟨go53, 0, none⟩) x7_1.length co53)) (ok := (fun _ => True)) (vm HO_6.out (fun _ hk => ⟨trivial, hk⟩)) hg (.inl rfl)); replace HO_7 := Aside0.mk (hp_); replace HB := Aside0.mk ((by rw [hw]; exact below_set (HB.out) GB53.out : Below w.heap.size w w55)); clear hg hw hp_))
      go_roundg k1
      case measure => have := HK1.out; omega
      case rel => exact ⟨(y304), (t303), (wrap64 (x28_1 + 1)), fs, fs, H', ⟨by have := HK1.out; omega⟩, ⟨vm HO_5.out (fun _ hk => hk.2)⟩, ⟨vm HO_6.out (fun _ hk => hk.2)⟩, ⟨vs HO_7.out⟩, ⟨bz HB.out⟩⟩
     ·rw [if_neg c48] at H
      have c48b0 : decide (x28_1 < (t294.length : Int)) = false := decide_eq_false c48
      clear c48
      obtain ⟨c56, H⟩ := iN H
      have c56b0 : decide (0 ≤ x28_1) = true := decide_eq_true c56
      clear c56
      obtain ⟨c57, H⟩ := iN H
      have c57b0 : decide (x28_1 < (t291.length : Int)) = true := decide_eq_true c57
      clear c57
      obtain ⟨⟨t306, t307⟩, A58, H⟩ := bs1 H; dsimp only at H
      obtain ⟨c59, H⟩ := iN H
      have c59b0 : decide (x28_1 < (x7_1.length : Int)) = true := decide_eq_true c59
      clear c59
      obtain ⟨y308, hy308⟩ : ∃ y_ : List Int, y_ = (x7_1.set (x28_1 : Int).toNat t306) := ⟨_, rfl⟩
      (try first | rw [← hy308] at H | (dsimp only at H; rw [← hy308] at H)); (try rw [Option.bind_some] at H)
      have Ny308 := Aside0.mk hy308
      clear hy308
      have H' := Aside0.mk H
      clear H
      have p305 : 0 ≤ (x28_1 : Int) := oa
      have q305 : x28_1 < (t291.length : Int) := oa
      obtain ⟨ad305, e305, hx305_0⟩ := Kd.at_int (Kd.V_reads' HO_5.out).2.2 x28_1 p305 q305
      cases e305
      replace p305 := eq_true p305
      replace q305 := eq_true q305
      go_wp2_with (first | ((with_reducible refine gc 110 rfl ?_); refine gl (some 48) Tryz.func110 #[.int .u32 (rd t291 x28_1), .int .u32 0, .int .u32 x8_1] ?_; (with_reducible refine (bits_Add32.calls (rd t291 x28_1) 0 x8_1 t306 t307 _ A58.out).mono ?_); rintro e w' ⟨rfl, ⟨nd, rfl⟩⟩; refine ⟨_, rfl, ?_⟩; (try (rw [drewN_self wr]; generalize hq_ : World.drewN wr _ = wr; have n0_ : Aside0 (Kd.V (Kd.int .u32) 52 wr w.heap.size (fun k_ => some k_ ≠ (v312 : Value).ownBlock) (.slice (some ad305) t291.length co43) t291) := ⟨by rw [← hq_]; exact (vs HO_5.out)⟩; have n1_ : Aside0 (Kd.V (Kd.int .u32) 52 wr w.heap.size (fun k_ => some k_ ≠ (v312 : Value).ownBlock) (.slice Ao44 t294.length co44) t294) := ⟨by rw [← hq_]; exact (vs HO_6.out)⟩; have n2_ : Aside0 (Kd.R (Kd.int .u32) 52 wr w.heap.size (fun _ => True) v312 x7_1) := ⟨by rw [← hq_]; exact (vs HO_7.out)⟩; have n3_ : Aside0 (Below w.heap.size w wr) := ⟨by rw [← hq_]; exact (bz HB.out)⟩; clear HO_5 HO_6 HO_7 HB hq_; have HO_5 := n0_; have HO_6 := n1_; have HO_7 := n2_; have HB := n3_; clear n0_ n1_ n2_ n3_)); have p60 : 0 ≤ (x28_1 : Int) := oa; have q60 : (x28_1 : Int) < ((x7_1.length : Int) : Int) := oa; obtain ⟨go60, co60, eo60, gb60, gl60, cl60, HG60⟩ := Kd.R_form HO_7.out (by omega); (first | cases eo60 | (injection eo60 with ea_ en_ ec_; (first | subst ea_ | (injection ea_ with ea_; subst ea_)); subst ec_; clear en_)); have GB60 := Aside0.mk gb60; have GG60 := Aside0.mk HG60; clear gb60 gl60 HG60; obtain ⟨hx60_0, hf60_0⟩ := Kd.R_celln 0 HO_7.out (x28_1 : Int) p60 q60; replace p60 := eq_true p60; replace q60 := eq_true q60; obtain ⟨hy61_, hz61_⟩ := Kd.R_celln 0 HO_7.out (x28_1 : Int) oa oa; have HP61 := Kd.R_putg HO_7.out (x28_1 : Int) t306) | ((with_reducible refine gate_store (t := 52) (p := 51) rfl ?_); refine se 52 51 (w1 := (wr.setCell ⟨go60, (x28_1 : Int).toNat, none⟩ (.int .u32 t306))) ?_; intro w62 hw; have hg : wr.grownBy w62 (some go60) := (by rw [hw]; exact HP61.2); have hp_ : Kd.R (Kd.int .u32) 52 w62 w.heap.size (fun _ => True) (.slice (some ⟨go60, 0, none⟩) x7_1.length co60) y308 := (by rw [hw, Ny308.out]; exact HP61.1); clear HP61; replace HO_5 := Aside0.mk (Kd.V_afterv (v := (.slice (some ⟨go60, 0, none⟩) x7_1.length co60)) (v1 := (.slice (some ⟨go60, 0, none⟩) x7_1.length co60)) (ok := (fun _ => True)) (vm HO_5.out (fun _ hk => ⟨trivial, hk⟩)) hg (.inl rfl)); replace HO_6 := Aside0.mk (Kd.V_afterv (v := (.slice (some ⟨go60, 0, none⟩) x7_1.length co60)) (v1 := (.slice (some ⟨go60, 0, none⟩) x7_1.length co60)) (ok := (fun _ => True)) (vm HO_6.out (fun _ hk => ⟨trivial, hk⟩)) hg (.inl rfl)); replace HO_7 := Aside0.mk (hp_); replace HB := Aside0.mk ((by rw [hw]; exact below_set (HB.out) GB60.out : Below w.heap.size w w62)); clear hg hw hp_))
      go_roundg k1
      case measure => have := HK1.out; omega
      case rel => exact ⟨(y308), (t307), (wrap64 (x28_1 + 1)), fs, fs, H', ⟨by have := HK1.out; omega⟩, ⟨vm HO_5.out (fun _ hk => hk.2)⟩, ⟨vm HO_6.out (fun _ hk => hk.2)⟩, ⟨vs HO_7.out⟩, ⟨bz HB.out⟩⟩
    ·rw [if_neg c47] at H
     have c47b0 : decide (x28_1 < (t291.length : Int)) = false := decide_eq_false c47
     clear c47
     obtain ⟨c63, H⟩ := iN H
     have c63b0 : decide (0 ≤ (t291.length : Int)) = true := decide_eq_true c63
     have c63b1 : decide (0 ≤ t291.length) = true := decide_eq_true (by omega)
     clear c63
     obtain ⟨c64, H⟩ := iN H
     have c64b0 : decide ((t291.length : Int) < (x7_1.length : Int)) = true := decide_eq_true c64
     have c64b1 : decide (t291.length < x7_1.length) = true := decide_eq_true (Int.ofNat_lt.mp c64)
     clear c64
     obtain ⟨y309, hy309⟩ : ∃ y_ : List Int, y_ = (x7_1.set ((t291.length : Int) : Int).toNat x8_1) := ⟨_, rfl⟩
     (try first | rw [← hy309] at H | (dsimp only at H; rw [← hy309] at H)); (try rw [Option.bind_some] at H)
     have Ny309 := Aside0.mk hy309
     clear hy309
     obtain ⟨t310, A66, H⟩ := bs1 H
     obtain rfl := Option.some.inj H
     have p65 : 0 ≤ ((t291.length : Int) : Int) := oa
     have q65 : ((t291.length : Int) : Int) < ((x7_1.length : Int) : Int) := oa
     obtain ⟨go65, co65, eo65, gb65, gl65, cl65, HG65⟩ := Kd.R_form HO_7.out (by omega)
     (first | cases eo65 | (injection eo65 with ea_ en_ ec_; (first | subst ea_ | (injection ea_ with ea_; subst ea_)); subst ec_; clear en_))
     have GB65 := Aside0.mk gb65
     have GG65 := Aside0.mk HG65
     clear gb65 gl65 HG65
     obtain ⟨hx65_0, hf65_0⟩ := Kd.R_celln 0 HO_7.out ((t291.length : Int) : Int) p65 q65
     (try simp only [Int.toNat_natCast] at hx65_0); (try simp only [Int.toNat_natCast] at hf65_0)
     replace p65 := eq_true p65
     replace q65 := eq_true q65
     have HP67 := Kd.R_putg HO_7.out ((t291.length : Int) : Int) x8_1
     go_wp2_with (first | ((with_reducible refine gate_store (t := 52) (p := 57) rfl ?_); refine se 52 57 (w1 := (wr.setCell ⟨go65, ((t291.length : Int) : Int).toNat, none⟩ (.int .u32 x8_1))) ?_; intro w68 hw; have hg : wr.grownBy w68 (some go65) := (by rw [hw]; exact HP67.2); have hp_ : Kd.R (Kd.int .u32) 52 w68 w.heap.size (fun _ => True) (.slice (some ⟨go65, 0, none⟩) x7_1.length co65) y309 := (by rw [hw, Ny309.out]; exact HP67.1); clear HP67; replace HO_5 := Aside0.mk (Kd.V_afterv (v := (.slice (some ⟨go65, 0, none⟩) x7_1.length co65)) (v1 := (.slice (some ⟨go65, 0, none⟩) x7_1.length co65)) (ok := (fun _ => True)) (vm HO_5.out (fun _ hk => ⟨trivial, hk⟩)) hg (.inl rfl)); replace HO_6 := Aside0.mk (Kd.V_afterv (v := (.slice (some ⟨go65, 0, none⟩) x7_1.length co65)) (v1 := (.slice (some ⟨go65, 0, none⟩) x7_1.length co65)) (ok := (fun _ => True)) (vm HO_6.out (fun _ hk => ⟨trivial, hk⟩)) hg (.inl rfl)); replace HO_7 := Aside0.mk (hp_); replace HB := Aside0.mk ((by rw [hw]; exact below_set (HB.out) GB65.out : Below w.heap.size w w68)); clear hg hw hp_) | ((with_reducible refine gc 111 rfl ?_); refine goesL_ (some 59) rfl rfl Tryz.func111 (by kernel_rfl) rfl #[.slice (some ⟨go65, 0, none⟩) y309.length co65] rfl (by (try simp only [List.map_toArray, List.map_cons, List.map_nil]); first | done | (rw [show y309.length = x7_1.length from (Kd.R_reads' HO_7.out).1.symm] <;> rfl) | rfl | (simp only [List.length_drop, List.length_take]; rfl)) ?_; (with_reducible refine (natural_limbs_text.calls k1 _ _ y309 t310 _ ?side1 ?side2 A66.out).mono ?_); (case side1 => exact vs (Kd.R_reads' HO_7.out).2.2); (case side2 => rw [show y309.length = x7_1.length from (Kd.R_reads' HO_7.out).1.symm]; exact (Kd.R_reads' HO_7.out).2.1); rintro e w69 ⟨rfl, hb⟩; refine ⟨_, rfl, ?_⟩; replace HO_5 := Aside0.mk (vb HO_5.out hb); replace HO_6 := Aside0.mk (vb HO_6.out hb); replace HO_7 := Aside0.mk (rb HO_7.out hb); replace HB := Aside0.mk (bs HB.out hb); (try clear hb)))
     go_ret
     exact ⟨by first | rfl | (simp [errW_none, errW_some] <;> rfl) | (simp only [← hji38]; first | rfl | (simp [errW_none, errW_some] <;> rfl)) | (simp [*, errW_none, errW_some] <;> rfl), bz HB.out⟩

-- NOT PRINTED: function 163 (strings_trimRightByte)

-- NOT PRINTED: function 164 (strings_trimRightASCII)

-- NOT PRINTED: function 178 (utf8_RuneStart)

-- NOT PRINTED: function 175 (utf8_DecodeLastRuneInString)

-- NOT PRINTED: function 165 (strings_trimRightUnicode)

/-! ### strings_Trim: function 142 (by hand) -/
def strings_Trim.f (a0 : ByteArray) (a1 : ByteArray) : Option (ByteArray) := if a0.size ≤ 9223372036854775807 ∧ a1.size < 4294967281 ∧ (a1.data.toList.all fun b => decide (b.toNat < 128)) = true then some ⟨(Lib.trimS a0.data.toList a1.data.toList).toArray⟩ else none
theorem strings_Trim.calls (a0 : ByteArray) (a1 : ByteArray) (r : ByteArray) (w : World) (h : strings_Trim.f a0 a1 = some r) :
  Calls Tryz.prog 142 #[.string a0, .string a1] w fun e w' => e = .returned (.string r) ∧ Below w.heap.size w w' := by
 unfold strings_Trim.f at h
 split at h
 ·rename_i hc
  obtain rfl := Option.some.inj h
  exact Tryz.strings_Trim_laid a0 a1 w hc.1 hc.2.1 (fun _ b hb => of_decide_eq_true (List.all_eq_true.1 hc.2.2 b (List.mem_of_getElem? hb)))
 ·cases h

/-! ### natural_multiplyAdd: function 143 -/
def natural_multiplyAdd.l0 : Nat → List Int → Int → Int → Int → Int → Option (List Int)
 | 0, _, _, _, _, _ => none
 | k + 1, x0, x1, x7, x13, x14 => if x14 < x13 then (if 0 ≤ x14 then (if x14 < (x0.length : Int) then (natural_multiplyAdd.l0 k (x0.set (x14 : Int).toNat ((IntKind.u64.wrap ((IntKind.u64.wrap ((IntKind.u64.wrap (rd x0 x14)) * (IntKind.u64.wrap (x1)))) + x7)) % 4294967296)) x1 ((IntKind.u64.wrap ((IntKind.u64.wrap ((IntKind.u64.wrap (rd x0 x14)) * (IntKind.u64.wrap (x1)))) + x7)) / 4294967296) x13 (wrap64 (x14 + 1))) else (none)) else (none)) else (if x7 > 0 then (if x0.length < 35184372088832 then (some (x0 ++ [(x7) % 4294967296])) else (none)) else (some x0))
def natural_multiplyAdd.f (k : Nat) (l0 : List Int) (a1 : Int) (a2 : Int) : Option (List Int) := natural_multiplyAdd.l0 k l0 a1 (IntKind.u64.wrap (a2)) (l0.length : Int) 0
set_option maxHeartbeats 8000000 in
set_option maxRecDepth 100000 in
theorem natural_multiplyAdd.calls (k : Nat) (P0_ : Nat → Prop) (u9000_ : Value) (l0 : List Int) (a1 : Int) (a2 : Int) (r : List Int) (w0 w : World) (hB : Below w0.heap.size w0 w) (ho0 : Kd.R (Kd.int .u32) 52 w w0.heap.size P0_ u9000_ l0) (h : natural_multiplyAdd.f k l0 a1 a2 = some r) :
  Calls Tryz.prog 143 #[u9000_, .int .u32 a1, .int .u32 a2] w fun e w' => ∃ v0_ : Value, e = .returned (v0_) ∧ Kd.R (Kd.int .u32) 52 w' w0.heap.size (fun k_ => (P0_ k_ ∨ w.heap.size ≤ k_)) v0_ r ∧ Below w0.heap.size w0 w' ∧ Kept w w' (fun k_ => P0_ k_) := by
 have HO0 := Aside0.mk (show Kd.R (Kd.int .u32) 52 w w0.heap.size (fun k_ => (P0_ k_ ∨ w.heap.size ≤ k_)) u9000_ l0 from Kd.R_mono ho0 (fun k_ hk => (.inl hk)))
 have HK := Aside0.mk (Kept.refl w (fun k_ => P0_ k_))
 have HW0 := Aside0.mk hB.size
 have HB := Aside0.mk hB
 clear hB
 have H := h
 clear h
 unfold natural_multiplyAdd.f at H
 have H' := Aside0.mk H
 clear H
 obtain ⟨Ao4, co4, eo4⟩ := Kd.R_slice HO0.out
 subst eo4
 go_enter Tryz.func143, Tryz.ntmps143
 go_wp2
 go_loopg [7, 14] k (fun kq v7 v14 w' => ∃ (x0_1 : List Int) (x7_1 : Int) (x14_1 : Int), v7 = .int .u64 x7_1 ∧ v14 = .int .i64 x14_1 ∧ Aside0 (natural_multiplyAdd.l0 kq x0_1 a1 x7_1 (l0.length : Int) x14_1 = some r) ∧ Aside0 (kq ≤ k) ∧ Aside0 (Kd.R (Kd.int .u32) 52 w' w0.heap.size (fun k_ => (P0_ k_ ∨ w.heap.size ≤ k_)) (.slice Ao4 l0.length co4) x0_1) ∧ Aside0 (Kept w w' (fun k_ => P0_ k_)) ∧ Aside0 (Below w0.heap.size w0 w'))
 case atStart => exact ⟨(l0), (IntKind.u64.wrap (a2)), (0), fs, fs, H', ⟨Nat.le_refl _⟩, ⟨vs HO0.out⟩, ⟨by repeat (first | (with_reducible first | exact HK.out | apply Kept.alloc | apply Kept.drewN | apply Kept.drew) | exact HK.out)⟩, ⟨bz HB.out⟩⟩
 case round =>
  clear H'
  obtain ⟨x0_1, x7_1, x14_1, rfl, rfl, HA, HK1, HO_0, HK, HB⟩ := hrel
  have hl0_1 := (Kd.R_reads' HO_0.out).1
  rw [hl0_1] at HO_0
  (try simp only [hl0_1])
  cases gk with
  | zero => exact absurd HA.out (by simp [natural_multiplyAdd.l0])
  | succ k1 =>
   have H := HA.out
   clear HA
   simp only [natural_multiplyAdd.l0] at H
   by_cases c5 : x14_1 < (l0.length : Int)
   ·rw [if_pos c5] at H
    have c5b0 : decide (x14_1 < (l0.length : Int)) = true := decide_eq_true c5
    (try (have c5b0_hl0_1 := c5b0; rw [hl0_1] at c5b0_hl0_1))
    clear c5
    obtain ⟨c6, H⟩ := iN H
    have c6b0 : decide (0 ≤ x14_1) = true := decide_eq_true c6
    clear c6
    obtain ⟨c7, H⟩ := iN H
    have c7b0 : decide (x14_1 < (x0_1.length : Int)) = true := decide_eq_true c7
    (try (have c7b0_hl0_1 := c7b0; rw [hl0_1] at c7b0_hl0_1))
    clear c7
    obtain ⟨y315, hy315⟩ : ∃ y_ : List Int, y_ = (x0_1.set (x14_1 : Int).toNat ((IntKind.u64.wrap ((IntKind.u64.wrap ((IntKind.u64.wrap (rd x0_1 x14_1)) * (IntKind.u64.wrap (a1)))) + x7_1)) % 4294967296)) := ⟨_, rfl⟩
    (try first | rw [← hy315] at H | (dsimp only at H; rw [← hy315] at H)); (try rw [Option.bind_some] at H)
    have Ny315 := Aside0.mk hy315
    clear hy315
    have H' := Aside0.mk H
    clear H
    have p314 : 0 ≤ (x14_1 : Int) := oa
    have q314 : x14_1 < (x0_1.length : Int) := oa
    obtain ⟨ad314, e314, hx314_0⟩ := Kd.at_int (Kd.R_reads' HO_0.out).2.2 x14_1 p314 q314
    cases e314
    replace p314 := eq_true p314
    replace q314 := eq_true q314
    have p8 : 0 ≤ (x14_1 : Int) := oa
    have q8 : (x14_1 : Int) < ((x0_1.length : Int) : Int) := oa
    obtain ⟨go8, co8, eo8, gb8, gl8, cl8, HG8⟩ := Kd.R_form HO_0.out (by omega)
    (first | cases eo8 | (injection eo8 with ea_ en_ ec_; (first | subst ea_ | (injection ea_ with ea_; subst ea_)); subst ec_; clear en_))
    have GB8 := Aside0.mk gb8
    have GG8 := Aside0.mk HG8
    clear gb8 gl8 HG8
    have HMgo8 := Aside0.mk (show (P0_ go8 ∨ w.heap.size ≤ go8) from (HO_0.out.1 _ rfl))
    (first | simp only [add_plain] at hx314_0 | skip)
    obtain ⟨hx8_0, hf8_0⟩ := Kd.R_celln 0 HO_0.out (x14_1 : Int) p8 q8
    replace p8 := eq_true p8
    replace q8 := eq_true q8
    have HP9 := Kd.R_putg HO_0.out (x14_1 : Int) ((IntKind.u64.wrap ((IntKind.u64.wrap ((IntKind.u64.wrap (rd x0_1 x14_1)) * (IntKind.u64.wrap (a1)))) + x7_1)) % 4294967296)
    go_wp2_with (first | ((with_reducible refine gate_store (t := 52) (p := 31) rfl ?_); refine se 52 31 (w1 := (wr.setCell ⟨go8, (x14_1 : Int).toNat, none⟩ (.int .u32 ((IntKind.u64.wrap ((IntKind.u64.wrap ((IntKind.u64.wrap (rd x0_1 x14_1)) * (IntKind.u64.wrap (a1)))) + x7_1)) % 4294967296)))) ?_; intro w10 hw; have hg : wr.grownBy w10 (some go8) := (by rw [hw]; exact HP9.2); have hp_ : Kd.R (Kd.int .u32) 52 w10 w0.heap.size (fun k_ => (P0_ k_ ∨ w.heap.size ≤ k_)) (.slice (some ⟨go8, 0, none⟩) x0_1.length co4) y315 := (by rw [hw, Ny315.out]; exact HP9.1); clear HP9; replace HB := Aside0.mk ((by rw [hw]; exact below_set (HB.out) GB8.out : Below w0.heap.size w0 w10)); replace HK := Aside0.mk (Kept.of_grown (S := (fun k_ => P0_ k_)) hg (by repeat (first | (with_reducible first | exact HK.out | apply Kept.alloc | apply Kept.drewN | apply Kept.drew) | exact HK.out)) (fun k_ e_ => (HO_0.out.1 k_ e_))); replace HO_0 := Aside0.mk (hp_); clear hg hw hp_))
    (try simp only [← hl0_1])
    go_roundg k1
    case measure => have := HK1.out; omega
    case rel => exact ⟨(y315), ((IntKind.u64.wrap ((IntKind.u64.wrap ((IntKind.u64.wrap (rd x0_1 x14_1)) * (IntKind.u64.wrap (a1)))) + x7_1)) / 4294967296), (wrap64 (x14_1 + 1)), fs, fs, H', ⟨by have := HK1.out; omega⟩, ⟨by (try simp only [hl0_1]); (with_reducible repeat (first | apply Kd.R_alloc | apply Kd.R_drewN | apply Kd.R_drew)); exact HO_0.out⟩, ⟨by repeat (first | (with_reducible first | exact HK.out | apply Kept.alloc | apply Kept.drewN | apply Kept.drew) | exact HK.out)⟩, ⟨bz HB.out⟩⟩
   ·rw [if_neg c5] at H
    have c5b0 : decide (x14_1 < (l0.length : Int)) = false := decide_eq_false c5
    (try (have c5b0_hl0_1 := c5b0; rw [hl0_1] at c5b0_hl0_1))
    clear c5
    by_cases c11 : x7_1 > 0
    ·rw [if_pos c11] at H
     have c11b0 : decide (0 < x7_1) = true := decide_eq_true c11
     clear c11
     obtain ⟨c12, H⟩ := iN H
     have LMc12 := Aside0.mk c12
     clear c12
     obtain ⟨y316, hy316⟩ : ∃ y_ : List Int, y_ = (x0_1 ++ [(x7_1) % 4294967296]) := ⟨_, rfl⟩
     (try first | rw [← hy316] at H | (dsimp only at H; rw [← hy316] at H)); (try rw [Option.bind_some] at H)
     have Ny316 := Aside0.mk hy316
     clear hy316
     obtain rfl := Option.some.inj H
     go_wp2_with (first | ((with_reducible refine gate_builtin (b := .append) (xs := #[.tmp 37, .tmp 40]) rfl ?_); at_builtin; refine Kd.R_append (Kd.int .u32) (w0 := w0) w0.heap.size rfl (.tmp 37) (.tmp 40) 88 52 (.int .u32 0) 4 rfl Tryz.underlying88 info52 rfl (by decide) (by omega) (.slice Ao4 x0_1.length co4) x0_1 ((x7_1) % 4294967296) [.int .u32 ((x7_1) % 4294967296)] (fun k_ => (P0_ k_ ∨ w.heap.size ≤ k_)) (fun _ => False) rfl rfl ?aP (fun _ hk => hk.elim) ?aF ?aO ?aB ?aS ?aL ?_; (case aP => exact rfl); (case aB => exact (bz HB.out)); (case aF => exact (fun k_ hk => (.inr (Nat.le_trans (by first | exact HK.out.1 | exact (show Kept w _ (fun k_ => P0_ k_) from by repeat (first | (with_reducible first | exact HK.out | apply Kept.alloc | apply Kept.drewN | apply Kept.drew) | exact HK.out)).1) hk)))); (case aO => exact (vs HO_0.out)); (case aS => exact (sz HB.out)); (case aL => have := LMc12.out; omega); intro v317 w13 ho hb hg hat; rw [← Ny316.out] at ho; replace HB := Aside0.mk (hb); replace HK := Aside0.mk (Kept.of_grown (S := (fun k_ => P0_ k_)) hg (by repeat (first | (with_reducible first | exact HK.out | apply Kept.alloc | apply Kept.drewN | apply Kept.drew) | exact HK.out)) (fun k_ e_ => (HO_0.out.1 k_ e_))); have HO318 := Aside0.mk (ho); clear HO_0; clear ho hb hg hat))
     go_ret
     exact ⟨_, fe, vs HO318.out, bz HB.out, by repeat (first | (with_reducible first | exact HK.out | apply Kept.alloc | apply Kept.drewN | apply Kept.drew) | exact HK.out)⟩
    ·rw [if_neg c11] at H
     have c11b0 : decide (0 < x7_1) = false := decide_eq_false c11
     clear c11
     obtain rfl := Option.some.inj H
     go_wp2
     go_ret
     exact ⟨_, fe, vs HO_0.out, bz HB.out, by repeat (first | (with_reducible first | exact HK.out | apply Kept.alloc | apply Kept.drewN | apply Kept.drew) | exact HK.out)⟩

/-! ### natural_Parse: function 113 -/
mutual
def natural_Parse.j0 : Nat → ByteArray → Bool → Option (ByteArray × Int)
 | 0, _, _ => none
 | k + 1, x0, x22 => if x22 = true then (some ((⟨#[]⟩ : ByteArray), 3)) else (if (x0.size : Int) > 2000 then (some ((⟨#[]⟩ : ByteArray), 2)) else (natural_Parse.l0 k x0 ([] : List Int) (x0.size : Int) 0))
def natural_Parse.l0 : Nat → ByteArray → List Int → Int → Int → Option (ByteArray × Int)
 | 0, _, _, _, _ => none
 | k + 1, x0, x4, x27, x28 => if x28 < x27 then (if 0 ≤ x28 then (if x28 < (x0.size : Int) then ((natural_multiplyAdd.f k x4 10 (((bt x0 x28) - 48) % 256)).bind fun t321 => (natural_Parse.l0 k x0 t321 x27 (wrap64 (x28 + 1)))) else (none)) else (none)) else ((natural_limbs_trim.f k x4).bind fun t324 => ((natural_limbs_text.f k t324).bind fun t327 => (some (t327, 0))))
end
def natural_Parse.f (k : Nat) (a0 : ByteArray) : Option (ByteArray × Int) := if a0.toList = ([] : List UInt8) then (natural_Parse.j0 k a0 true) else (if (a0.size : Int) > 1 then (if 0 < (a0.size : Int) then (if (bt a0 0) = 48 then (natural_Parse.j0 k a0 true) else ((strings_Trim.f a0 (⟨#[48, 49, 50, 51, 52, 53, 54, 55, 56, 57]⟩ : ByteArray)).bind fun t319 => (natural_Parse.j0 k a0 (t319.toList != ([] : List UInt8))))) else (none)) else ((strings_Trim.f a0 (⟨#[48, 49, 50, 51, 52, 53, 54, 55, 56, 57]⟩ : ByteArray)).bind fun t320 => (natural_Parse.j0 k a0 (t320.toList != ([] : List UInt8)))))
set_option maxHeartbeats 8000000 in
set_option maxRecDepth 100000 in
theorem natural_Parse.calls (k : Nat) (a0 : ByteArray) (r1 : ByteArray) (r2 : Int) (w : World) (h : natural_Parse.f k a0 = some (r1, r2)) :
  Calls Tryz.prog 113 #[.string a0] w fun e w' => e = .returned (.tuple #[.string r1, .int .i64 r2]) ∧ Below w.heap.size w w' := by
 have HB := Aside0.mk (Below.refl w.heap.size w)
 have H := h
 clear h
 unfold natural_Parse.f at H
 have HC2 := Aside0.mk H
 clear H
 go_enter Tryz.func113, Tryz.ntmps113
 (try (simp only [Exit.then]; refine (by assumption : ∀ (a : Act) (w : World), Code.wp _ _ _ a w → _) _ _ ?_))
 go_upto_region 1 with (fail)
 go_cut [22] (fun v22 wc => ∃ (kq : Nat) (x22_1 : Bool), v22 = .bool x22_1 ∧ Aside0 (natural_Parse.j0 kq a0 x22_1 = some (r1, r2)) ∧ Aside0 (kq ≤ k) ∧ Aside0 (Below w.heap.size w wc))
 case first =>
  have H := HC2.out
  clear HC2
  by_cases c3 : a0.toList = ([] : List UInt8)
  ·rw [if_pos c3] at H
   have c3b0 := beq_iff_eq.mpr c3
   have c3b1 := bne_eq_false_iff_eq.mpr c3
   clear c3
   (first | rw [c3b0] | (simp only [i64_w, i32_w]; rw [c3b0]) | skip)
   have H' := Aside0.mk H
   clear H
   go_wp2
   go_meet
   case rel => exact ⟨_, (true), fs, H', ⟨by first | omega | exact Nat.le_refl _⟩, ⟨bz HB.out⟩⟩
  ·rw [if_neg c3] at H
   have c3b0 := beq_eq_false_iff_ne.mpr c3
   have c3b1 := bne_iff_ne.mpr c3
   (first | rw [c3b0] | (simp only [i64_w, i32_w]; rw [c3b0]) | skip)
   by_cases c4 : (a0.size : Int) > 1
   ·rw [if_pos c4] at H
    have c4b0 : decide (1 < (a0.size : Int)) = true := decide_eq_true c4
    have c4b1 : decide (1 < a0.size) = true := decide_eq_true (by omega)
    clear c4
    obtain ⟨c5, H⟩ := iN H
    have c5b0 : decide (0 < (a0.size : Int)) = true := decide_eq_true c5
    have c5b1 : decide (0 < a0.size) = true := decide_eq_true (by omega)
    clear c5
    by_cases c7 : (bt a0 0) = 48
    ·rw [if_pos c7] at H
     have c7b0 := beq_iff_eq.mpr c7
     have c7b1 := bne_eq_false_iff_eq.mpr c7
     clear c7
     have H' := Aside0.mk H
     clear H
     have p6 : 0 ≤ (0 : Int) := (by omega)
     have q6 : 0 < a0.size := (by have : (0 : Int) < (a0.size : Int) := oa; omega)
     have hx6 : ∀ h : 0 < a0.size, ((a0[0]'h).toNat : Int) = bt a0 0 := bt_at a0 0
     clear p6
     have qi6 : (0 < (a0.size : Int)) = True := eq_true oa
     replace q6 := eq_true q6
     go_wp2
     go_meet
     case rel => exact ⟨_, (true), fs, H', ⟨by first | omega | exact Nat.le_refl _⟩, ⟨bz HB.out⟩⟩
    ·rw [if_neg c7] at H
     have c7b0 := beq_eq_false_iff_ne.mpr c7
     have c7b1 := bne_iff_ne.mpr c7
     obtain ⟨t319, A8, H⟩ := bs1 H
     have H' := Aside0.mk H
     clear H
     have p6 : 0 ≤ (0 : Int) := (by omega)
     have q6 : 0 < a0.size := (by have : (0 : Int) < (a0.size : Int) := oa; omega)
     have hx6 : ∀ h : 0 < a0.size, ((a0[0]'h).toNat : Int) = bt a0 0 := bt_at a0 0
     clear p6
     have qi6 : (0 < (a0.size : Int)) = True := eq_true oa
     replace q6 := eq_true q6
     go_wp2_with (first | (go_at_call 142; (with_reducible refine (strings_Trim.calls a0 (⟨#[48, 49, 50, 51, 52, 53, 54, 55, 56, 57]⟩ : ByteArray) t319 _ A8.out).mono ?_); rintro e w9 ⟨rfl, hb⟩; replace HB := Aside0.mk (bs HB.out hb); (try clear hb)))
     go_meet
     case rel => exact ⟨_, ((t319.toList != ([] : List UInt8))), fs, H', ⟨by first | omega | exact Nat.le_refl _⟩, ⟨bz HB.out⟩⟩
   ·rw [if_neg c4] at H
    have c4b0 : decide (1 < (a0.size : Int)) = false := decide_eq_false c4
    have c4b1 : decide (1 < a0.size) = false := decide_eq_false (by omega)
    clear c4
    obtain ⟨t320, A10, H⟩ := bs1 H
    have H' := Aside0.mk H
    clear H
    go_wp2_with (first | (go_at_call 142; (with_reducible refine (strings_Trim.calls a0 (⟨#[48, 49, 50, 51, 52, 53, 54, 55, 56, 57]⟩ : ByteArray) t320 _ A10.out).mono ?_); rintro e w11 ⟨rfl, hb⟩; replace HB := Aside0.mk (bs HB.out hb); (try clear hb)))
    go_meet
    case rel => exact ⟨_, ((t320.toList != ([] : List UInt8))), fs, H', ⟨by first | omega | exact Nat.le_refl _⟩, ⟨bz HB.out⟩⟩
 case rest =>
  clear HC2
  (try clear c3b0); (try clear c3b1); (try clear c4b0); (try clear c4b1); (try clear c5b0); (try clear c5b1); (try clear q6); (try clear hx6); (try clear qi6); (try clear c7b0); (try clear c7b1); (try clear q6)
  obtain ⟨kq, x22_1, rfl, HA, HJ1, HB⟩ := hcut
  cases kq with
  | zero => exact absurd HA.out (by simp [natural_Parse.j0])
  | succ kj1 =>
   have H := HA.out
   clear HA
   simp only [natural_Parse.j0] at H
   by_cases c12 : x22_1 = true
   ·subst c12
    have H1 : (some ((⟨#[]⟩ : ByteArray), 3)) = some (r1, r2) := by rw [if_pos rfl] at H; exact H
    clear H
    have H := H1
    clear H1
    simp only [Option.some.injEq, Prod.mk.injEq] at H
    obtain ⟨rfl, rfl⟩ := H
    go_wp2
    go_ret2
    exact ⟨fe, bz HB.out⟩
   ·replace c12 := Bool.eq_false_iff.mpr c12
    subst c12
    have H1 : (if (a0.size : Int) > 2000 then (some ((⟨#[]⟩ : ByteArray), 2)) else (natural_Parse.l0 kj1 a0 ([] : List Int) (a0.size : Int) 0)) = some (r1, r2) := by rw [if_neg (show ¬ (false = true) by decide)] at H; exact H
    clear H
    have H := H1
    clear H1
    by_cases c13 : (a0.size : Int) > 2000
    ·rw [if_pos c13] at H
     have c13b0 : decide (2000 < (a0.size : Int)) = true := decide_eq_true c13
     have c13b1 : decide (2000 < a0.size) = true := decide_eq_true (by omega)
     clear c13
     simp only [Option.some.injEq, Prod.mk.injEq] at H
     obtain ⟨rfl, rfl⟩ := H
     go_wp2
     go_ret2
     exact ⟨fe, bz HB.out⟩
    ·rw [if_neg c13] at H
     have c13b0 : decide (2000 < (a0.size : Int)) = false := decide_eq_false c13
     have c13b1 : decide (2000 < a0.size) = false := decide_eq_false (by omega)
     clear c13
     have H' := Aside0.mk H
     clear H
     go_wp2
     go_loopg [4, 28] kj1 (fun kq v4 v28 w' => ∃ (x4_2 : List Int) (x28_2 : Int), v28 = .int .i64 x28_2 ∧ Aside0 (natural_Parse.l0 kq a0 x4_2 (a0.size : Int) x28_2 = some (r1, r2)) ∧ Aside0 (kq ≤ kj1) ∧ Aside0 (Kd.R (Kd.int .u32) 52 w' w.heap.size (fun _ => True) v4 x4_2) ∧ Aside0 (Below w.heap.size w w'))
     case atStart => exact ⟨(([] : List Int)), (0), fs, H', ⟨Nat.le_refl _⟩, ⟨by first | exact Kd.R_nil _ _ _ _ _ | exact Kd.N_nil _ _ _ _ _ | exact Kd.V_nil _ _ _ _ _ | exact Kd.Q_nil _ _ _ _ _ | exact Kd.S_nil _ _ _ _ _⟩, ⟨bz HB.out⟩⟩
     case round =>
      clear H'
      (try clear c3b0); (try clear c3b1); (try clear c4b0); (try clear c4b1); (try clear c5b0); (try clear c5b1); (try clear q6); (try clear hx6); (try clear qi6); (try clear c7b0); (try clear c7b1); (try clear c12); (try clear c13b0); (try clear c13b1); (try clear q6)
      obtain ⟨x4_2, x28_2, rfl, HA, HK2, HO_4, HB⟩ := hrel
      cases gk with
      | zero => exact absurd HA.out (by simp [natural_Parse.l0])
      | succ k2 =>
       have H := HA.out
       clear HA
       simp only [natural_Parse.l0] at H
       by_cases c14 : x28_2 < (a0.size : Int)
       ·rw [if_pos c14] at H
        have c14b0 : decide (x28_2 < (a0.size : Int)) = true := decide_eq_true c14
        clear c14
        obtain ⟨c15, H⟩ := iN H
        have c15b0 : decide (0 ≤ x28_2) = true := decide_eq_true c15
        clear c15
        obtain ⟨c16, H⟩ := iN H
        have c16b0 : decide (x28_2 < (a0.size : Int)) = true := decide_eq_true c16
        clear c16
        obtain ⟨t321, A18, H⟩ := bs1 H
        have H' := Aside0.mk H
        clear H
        have p17 : 0 ≤ (x28_2 : Int) := oa
        have q17 : x28_2 < (a0.size : Int) := oa
        have hx17 := bt_at a0 x28_2
        replace p17 := eq_true p17
        replace q17 := eq_true q17
        obtain ⟨Ao19, co19, eo19⟩ := Kd.R_slice HO_4.out
        subst eo19
        go_wp2_with (first | ((with_reducible refine gc 143 rfl ?_); refine gl (some 37) Tryz.func143 #[.slice Ao19 x4_2.length co19, .int .u32 10, .int .u32 (((bt a0 x28_2) - 48) % 256)] ?_; (with_reducible refine (natural_multiplyAdd.calls k2 (fun k_ => some k_ = (.slice Ao19 x4_2.length co19 : Value).ownBlock) (.slice Ao19 x4_2.length co19) x4_2 10 (((bt a0 x28_2) - 48) % 256) t321 w _ ?side1 ?side2 A18.out).mono ?_); (case side1 => repeat (first | (with_reducible first | exact HB.out | apply below_alloc | apply pw_below_drewN | apply below_drew1) | exact HB.out)); (case side2 => exact Kd.R_tight rfl HO_4.out); rintro e w20 ⟨v322, rfl, ho0, hb, hkp⟩; refine ⟨_, rfl, ?_⟩; have HO323 := Aside0.mk (Kd.R_mono (ok' := fun k_ => True) ho0 (fun k_ hk_ => trivial)); replace HB := Aside0.mk (hb); clear HO_4; (try clear hb hkp ho0)))
        go_roundg k2
        case measure => have := HJ1.out; have := HK2.out; omega
        case rel => exact ⟨(t321), (wrap64 (x28_2 + 1)), fs, H', ⟨by have := HJ1.out; have := HK2.out; omega⟩, ⟨vs HO323.out⟩, ⟨bz HB.out⟩⟩
       ·rw [if_neg c14] at H
        have c14b0 : decide (x28_2 < (a0.size : Int)) = false := decide_eq_false c14
        clear c14
        obtain ⟨t324, A21, H⟩ := bs1 H
        obtain ⟨t327, A22, H⟩ := bs1 H
        simp only [Option.some.injEq, Prod.mk.injEq] at H
        obtain ⟨rfl, rfl⟩ := H
        obtain ⟨Ao23, co23, eo23⟩ := Kd.R_slice HO_4.out
        subst eo23
        go_wp2_with (first | ((with_reducible refine gc 137 rfl ?_); refine gl (some 40) Tryz.func137 #[.slice Ao23 x4_2.length co23] ?_; (with_reducible refine (natural_limbs_trim.calls k2 (fun k_ => some k_ = (.slice Ao23 x4_2.length co23 : Value).ownBlock) _ _ x4_2 t324 _ ?side1 A21.out).mono ?_); (case side1 => exact Kd.R_V (Kd.R_tight rfl (HO_4.out))); rintro e w24 ⟨v325, rfl, ho0, hb⟩; refine ⟨_, rfl, ?_⟩; replace HO_4 := Aside0.mk (rb HO_4.out hb); have HO326 := Aside0.mk (Kd.V_lower (Kd.V_mono (ok' := fun k_ => True) ho0 (fun k_ hk_ => trivial)) (sz HB.out)); replace HB := Aside0.mk (bs HB.out hb); (try clear hb ho0); obtain ⟨Ao25, co25, rfl⟩ := Kd.V_slice HO326.out) | ((with_reducible refine gc 111 rfl ?_); refine gl (some 41) Tryz.func111 #[.slice Ao25 t324.length co25] ?_; (with_reducible refine (natural_limbs_text.calls k2 _ _ t324 t327 _ ?side1 ?side2 A22.out).mono ?_); (case side1 => exact vs (Kd.V_reads' HO326.out).2.2); (case side2 => exact (Kd.V_reads' HO326.out).2.1); rintro e w26 ⟨rfl, hb⟩; refine ⟨_, rfl, ?_⟩; replace HO_4 := Aside0.mk (rb HO_4.out hb); replace HO326 := Aside0.mk (vb HO326.out hb); replace HB := Aside0.mk (bs HB.out hb); (try clear hb)))
        go_ret2
        exact ⟨fe, bz HB.out⟩

/-! ### rational_digits: function 65 -/
def rational_digits.f (k : Nat) (a0 : ByteArray) : Option (ByteArray) := (strings_TrimLeft.f k a0 (⟨#[48]⟩ : ByteArray)).bind fun t328 => (if t328.toList = ([] : List UInt8) then (some (⟨#[]⟩ : ByteArray)) else ((natural_Parse.f k t328).bind fun bt329 => (some bt329.1)))
set_option maxHeartbeats 8000000 in
set_option maxRecDepth 100000 in
theorem rational_digits.calls (k : Nat) (a0 : ByteArray) (r : ByteArray) (w : World) (h : rational_digits.f k a0 = some r) :
  Calls Tryz.prog 65 #[.string a0] w fun e w' => e = .returned (.string r) ∧ Below w.heap.size w w' := by
 have HB := Aside0.mk (Below.refl w.heap.size w)
 have H := h
 clear h
 unfold rational_digits.f at H
 obtain ⟨t328, A2, H⟩ := bs1 H
 by_cases c3 : t328.toList = ([] : List UInt8)
 ·rw [if_pos c3] at H
  have c3b0 := beq_iff_eq.mpr c3
  have c3b1 := bne_eq_false_iff_eq.mpr c3
  clear c3
  obtain rfl := Option.some.inj H
  go_enter Tryz.func65, Tryz.ntmps65
  go_wp2_with (first | ((with_reducible refine gc 112 rfl ?_); refine gl (some 6) Tryz.func112 #[.string a0, .string (⟨#[48]⟩ : ByteArray)] ?_; (with_reducible refine (strings_TrimLeft.calls k a0 (⟨#[48]⟩ : ByteArray) t328 _ A2.out).mono ?_); rintro e w4 ⟨rfl, hb⟩; refine ⟨_, rfl, ?_⟩; replace HB := Aside0.mk (bs HB.out hb); (try clear hb)))
  go_ret
  exact ⟨fe, bz HB.out⟩
 ·rw [if_neg c3] at H
  have c3b0 := beq_eq_false_iff_ne.mpr c3
  have c3b1 := bne_iff_ne.mpr c3
  obtain ⟨⟨t329, t330⟩, A5, H⟩ := bs1 H; dsimp only at H
  obtain rfl := Option.some.inj H
  go_enter Tryz.func65, Tryz.ntmps65
  go_wp2_with (first | ((with_reducible refine gc 112 rfl ?_); refine gl (some 6) Tryz.func112 #[.string a0, .string (⟨#[48]⟩ : ByteArray)] ?_; (with_reducible refine (strings_TrimLeft.calls k a0 (⟨#[48]⟩ : ByteArray) t328 _ A2.out).mono ?_); rintro e w6 ⟨rfl, hb⟩; refine ⟨_, rfl, ?_⟩; replace HB := Aside0.mk (bs HB.out hb); (try clear hb)) | ((with_reducible refine gc 113 rfl ?_); refine gl (some 11) Tryz.func113 #[.string t328] ?_; (with_reducible refine (natural_Parse.calls k t328 t329 t330 _ A5.out).mono ?_); rintro e w7 ⟨rfl, hb⟩; refine ⟨_, rfl, ?_⟩; replace HB := Aside0.mk (bs HB.out hb); (try clear hb)))
  go_ret
  exact ⟨fe, bz HB.out⟩

/-! ### rational_Parse: function 17 -/
mutual
def rational_Parse.j0 : Nat → Bool → ByteArray → ByteArray → Bool → Option (Bool × ByteArray × ByteArray × Int)
 | 0, _, _, _, _ => none
 | k + 1, x5, x6, x7, x39 => if x39 = true then (some (false, (⟨#[]⟩ : ByteArray), (⟨#[]⟩ : ByteArray), 3)) else (if (x6.size : Int) > 2000 then (rational_Parse.j1 k x5 x6 x7 true) else (rational_Parse.j1 k x5 x6 x7 (decide ((x7.size : Int) > 2000))))
def rational_Parse.j1 : Nat → Bool → ByteArray → ByteArray → Bool → Option (Bool × ByteArray × ByteArray × Int)
 | 0, _, _, _, _ => none
 | k + 1, x5, x6, x7, x48 => if x48 = true then (some (false, (⟨#[]⟩ : ByteArray), (⟨#[]⟩ : ByteArray), 2)) else ((rational_tenTo.f k (x7.size : Int)).bind fun t342 => ((rational_digits.f k x6).bind fun t343 => ((natural_Multiply.f k t343 t342).bind fun t344 => ((rational_digits.f k x7).bind fun t345 => ((natural_Add.f k t344 t345).bind fun t346 => ((rational_reduced.f k x5 t346 t342).bind fun bt347 => (some (bt347.1, bt347.2.1, bt347.2.2, 0))))))))
def rational_Parse.j2 : Nat → Bool → ByteArray → ByteArray → Bool → Option (Bool × ByteArray × ByteArray × Int)
 | 0, _, _, _, _ => none
 | k + 1, x5, x9, x10, x72 => if x72 = true then (some (false, (⟨#[]⟩ : ByteArray), (⟨#[]⟩ : ByteArray), 3)) else (if (x9.size : Int) > 2000 then (rational_Parse.j3 k x5 x9 x10 true) else (rational_Parse.j3 k x5 x9 x10 (decide ((x10.size : Int) > 2000))))
def rational_Parse.j3 : Nat → Bool → ByteArray → ByteArray → Bool → Option (Bool × ByteArray × ByteArray × Int)
 | 0, _, _, _, _ => none
 | k + 1, x5, x9, x10, x81 => if x81 = true then (some (false, (⟨#[]⟩ : ByteArray), (⟨#[]⟩ : ByteArray), 2)) else (if x10.toList = ([48] : List UInt8) then (some (false, (⟨#[]⟩ : ByteArray), (⟨#[]⟩ : ByteArray), 1)) else ((rational_digits.f k x9).bind fun t352 => ((rational_digits.f k x10).bind fun t353 => ((rational_reduced.f k x5 t352 t353).bind fun bt354 => (some (bt354.1, bt354.2.1, bt354.2.2, 0))))))
end
def rational_Parse.f (k : Nat) (a0 : ByteArray) : Option (Bool × ByteArray × ByteArray × Int) := (strings_CutPrefix.f a0 (⟨#[45]⟩ : ByteArray)).bind fun bt332 => ((strings_Cut.f k bt332.1 (⟨#[46]⟩ : ByteArray)).bind fun bt334 => ((strings_Cut.f k bt332.1 (⟨#[47]⟩ : ByteArray)).bind fun bt337 => (if bt334.2.2 = true then ((rational_isInteger.f k bt334.1).bind fun t340 => (if t340 = true then ((rational_isDigits.f k bt334.2.1).bind fun t341 => (rational_Parse.j0 k bt332.2 bt334.1 bt334.2.1 (!t341))) else (rational_Parse.j0 k bt332.2 bt334.1 bt334.2.1 true))) else (if bt337.2.2 = true then ((rational_isInteger.f k bt337.1).bind fun t350 => (if t350 = true then ((rational_isInteger.f k bt337.2.1).bind fun t351 => (rational_Parse.j2 k bt332.2 bt337.1 bt337.2.1 (!t351))) else (rational_Parse.j2 k bt332.2 bt337.1 bt337.2.1 true))) else ((rational_isInteger.f k bt332.1).bind fun t357 => (if t357 = true then (if (bt332.1.size : Int) > 2000 then (some (false, (⟨#[]⟩ : ByteArray), (⟨#[]⟩ : ByteArray), 2)) else ((rational_digits.f k bt332.1).bind fun t358 => ((rational_reduced.f k bt332.2 t358 (⟨#[1]⟩ : ByteArray)).bind fun bt359 => (some (bt359.1, bt359.2.1, bt359.2.2, 0))))) else (some (false, (⟨#[]⟩ : ByteArray), (⟨#[]⟩ : ByteArray), 3))))))))
set_option maxHeartbeats 8000000 in
set_option maxRecDepth 100000 in
theorem rational_Parse.calls (k : Nat) (a0 : ByteArray) (r1 : Bool) (r2 : ByteArray) (r3 : ByteArray) (r4 : Int) (w : World) (h : rational_Parse.f k a0 = some (r1, r2, r3, r4)) :
  Calls Tryz.prog 17 #[.string a0] w fun e w' => e = .returned (.tuple #[.agg #[.bool r1, .string r2, .string r3], .int .i64 r4]) ∧ Below w.heap.size w w' := by
 have hu24 := Tryz.underlying24
 have HB := Aside0.mk (Below.refl w.heap.size w)
 have H := h
 clear h
 unfold rational_Parse.f at H
 obtain ⟨⟨t332, t333⟩, A2, H⟩ := bs1 H; dsimp only at H
 obtain ⟨⟨t334, t335, t336⟩, A3, H⟩ := bs1 H; dsimp only at H
 obtain ⟨⟨t337, t338, t339⟩, A4, H⟩ := bs1 H; dsimp only at H
 by_cases c5 : t336 = true
 ·subst c5
  have H1 : ((rational_isInteger.f k t334).bind fun t340 => (if t340 = true then ((rational_isDigits.f k t335).bind fun t341 => (rational_Parse.j0 k t333 t334 t335 (!t341))) else (rational_Parse.j0 k t333 t334 t335 true))) = some (r1, r2, r3, r4) := by rw [if_pos rfl] at H; exact H
  clear H
  have H := H1
  clear H1
  have HC6 := Aside0.mk H
  clear H
  go_enter Tryz.func17, Tryz.ntmps17
  (try (simp only [Exit.then]; refine (by assumption : ∀ (a : Act) (w : World), Code.wp _ _ _ a w → _) _ _ ?_))
  go_upto_region 5 with (first | ((with_reducible refine gd 2 rfl ?_); (try (refine gate_guard (by rfl) ?_; dsimp only)); refine bx 2 (#[.bool false, .string (⟨#[]⟩ : ByteArray), .string (⟨#[]⟩ : ByteArray)]) 24 ?_; intro gb331 hg w7 hbox hb; have BK331 := Aside0.mk (hbox); have GW331 := sg hg HB.out; have GE331 := sg hg HB.out; replace HB := Aside0.mk (bs HB.out hb); clear hb hbox hg) | ((with_reducible refine gc 57 rfl ?_); refine gl (some 15) Tryz.func57 #[.string a0, .string (⟨#[45]⟩ : ByteArray)] ?_; (with_reducible refine (strings_CutPrefix.calls a0 (⟨#[45]⟩ : ByteArray) t332 t333 _ A2.out).mono ?_); rintro e w' ⟨rfl, ⟨nd, rfl⟩⟩; refine ⟨_, rfl, ?_⟩) | ((with_reducible refine gc 58 rfl ?_); refine gl (some 20) Tryz.func58 #[.string t332, .string (⟨#[46]⟩ : ByteArray)] ?_; (with_reducible refine (strings_Cut.calls k t332 (⟨#[46]⟩ : ByteArray) t334 t335 true _ A3.out).mono ?_); rintro e w' ⟨rfl, ⟨nd, rfl⟩⟩; refine ⟨_, rfl, ?_⟩) | ((with_reducible refine gc 58 rfl ?_); refine gl (some 26) Tryz.func58 #[.string t332, .string (⟨#[47]⟩ : ByteArray)] ?_; (with_reducible refine (strings_Cut.calls k t332 (⟨#[47]⟩ : ByteArray) t337 t338 t339 _ A4.out).mono ?_); rintro e w' ⟨rfl, ⟨nd, rfl⟩⟩; refine ⟨_, rfl, ?_⟩))
  (try simp only [Act.put, List.setIfInBounds_toArray, List.set_cons_zero, List.set_cons_succ])
  go_cut [39] (fun v39 wc => ∃ (kq : Nat) (x39_5 : Bool), v39 = .bool x39_5 ∧ Aside0 (rational_Parse.j0 kq t333 t334 t335 x39_5 = some (r1, r2, r3, r4)) ∧ Aside0 (kq ≤ k) ∧ Aside0 (wc.heap[gb331]? = some (.cells #[.bool false, .string (⟨#[]⟩ : ByteArray), .string (⟨#[]⟩ : ByteArray)] 24 (0, 0))) ∧ Aside0 (Below w.heap.size w wc))
  case first =>
   have H := HC6.out
   clear HC6
   obtain ⟨t340, A8, H⟩ := bs1 H
   by_cases c9 : t340 = true
   ·subst c9
    have H1 : ((rational_isDigits.f k t335).bind fun t341 => (rational_Parse.j0 k t333 t334 t335 (!t341))) = some (r1, r2, r3, r4) := by rw [if_pos rfl] at H; exact H
    clear H
    have H := H1
    clear H1
    obtain ⟨t341, A10, H⟩ := bs1 H
    have H' := Aside0.mk H
    clear H
    go_wp2_with (first | ((with_reducible refine gc 59 rfl ?_); refine gl (some 33) Tryz.func59 #[.string t334] ?_; (with_reducible refine (rational_isInteger.calls k t334 true _ A8.out).mono ?_); rintro e w' ⟨rfl, ⟨nd, rfl⟩⟩; refine ⟨_, rfl, ?_⟩) | (go_at_call 60; (with_reducible refine (rational_isDigits.calls k t335 t341 _ A10.out).mono ?_); rintro e w' ⟨rfl, ⟨nd, rfl⟩⟩))
    go_meet
    case rel => exact ⟨_, (!t341), fs, H', ⟨by first | omega | exact Nat.le_refl _⟩, ⟨bq BK331.out⟩, ⟨bz HB.out⟩⟩
   ·replace c9 := Bool.eq_false_iff.mpr c9
    subst c9
    have H1 : (rational_Parse.j0 k t333 t334 t335 true) = some (r1, r2, r3, r4) := by rw [if_neg (show ¬ (false = true) by decide)] at H; exact H
    clear H
    have H := H1
    clear H1
    have H' := Aside0.mk H
    clear H
    go_wp2_with (first | ((with_reducible refine gc 59 rfl ?_); refine gl (some 33) Tryz.func59 #[.string t334] ?_; (with_reducible refine (rational_isInteger.calls k t334 false _ A8.out).mono ?_); rintro e w' ⟨rfl, ⟨nd, rfl⟩⟩; refine ⟨_, rfl, ?_⟩))
    go_meet
    case rel => exact ⟨_, (true), fs, H', ⟨by first | omega | exact Nat.le_refl _⟩, ⟨bq BK331.out⟩, ⟨bz HB.out⟩⟩
  case rest =>
   clear HC6
   (try clear c5); (try clear c9)
   obtain ⟨kq, x39_5, rfl, HA, HJ5, BK331, HB⟩ := hcut
   cases kq with
   | zero => exact absurd HA.out (by simp [rational_Parse.j0])
   | succ kj5 =>
    have H := HA.out
    clear HA
    simp only [rational_Parse.j0] at H
    by_cases c11 : x39_5 = true
    ·subst c11
     have H1 : (some (false, (⟨#[]⟩ : ByteArray), (⟨#[]⟩ : ByteArray), 3)) = some (r1, r2, r3, r4) := by rw [if_pos rfl] at H; exact H
     clear H
     have H := H1
     clear H1
     simp only [Option.some.injEq, Prod.mk.injEq] at H
     obtain ⟨rfl, rfl, rfl, rfl⟩ := H
     obtain ⟨hcz12_0, hcz12_1, hcz12_2, hfz12_0, hfz12_1, hfz12_2⟩ := cz BK331.out
     go_wp2
     refine bodyPost_ret (results_ct rfl _ _ gb331 24 #[.bool false, .string (⟨#[]⟩ : ByteArray), .string (⟨#[]⟩ : ByteArray)] (0, 0) _ rfl (bq BK331.out) Tryz.underlying24 rfl (by kernel_rfl)) rfl ?_
     exact ⟨fe, bz HB.out⟩
    ·replace c11 := Bool.eq_false_iff.mpr c11
     subst c11
     have H1 : (if (t334.size : Int) > 2000 then (rational_Parse.j1 kj5 t333 t334 t335 true) else (rational_Parse.j1 kj5 t333 t334 t335 (decide ((t335.size : Int) > 2000)))) = some (r1, r2, r3, r4) := by rw [if_neg (show ¬ (false = true) by decide)] at H; exact H
     clear H
     have H := H1
     clear H1
     have HC13 := Aside0.mk H
     clear H
     (try (simp only [Exit.then]; refine (by assumption : ∀ (a : Act) (w : World), Code.wp _ _ _ a w → _) _ _ ?_))
     go_upto_region 7 with (fail)
     go_cut [48] (fun v48 wc => ∃ (kq : Nat) (x48_12 : Bool), v48 = .bool x48_12 ∧ Aside0 (rational_Parse.j1 kq t333 t334 t335 x48_12 = some (r1, r2, r3, r4)) ∧ Aside0 (kq ≤ kj5) ∧ Aside0 (wc.heap[gb331]? = some (.cells #[.bool false, .string (⟨#[]⟩ : ByteArray), .string (⟨#[]⟩ : ByteArray)] 24 (0, 0))) ∧ Aside0 (Below w.heap.size w wc))
     case first =>
      have H := HC13.out
      clear HC13
      by_cases c14 : (t334.size : Int) > 2000
      ·rw [if_pos c14] at H
       have c14b0 : decide (2000 < (t334.size : Int)) = true := decide_eq_true c14
       have c14b1 : decide (2000 < t334.size) = true := decide_eq_true (by omega)
       clear c14
       (first | rw [c14b0] | (simp only [i64_w, i32_w]; rw [c14b0]) | skip)
       have H' := Aside0.mk H
       clear H
       go_wp2
       go_meet
       case rel => exact ⟨_, (true), fs, H', ⟨by have := HJ5.out; first | omega | exact Nat.le_refl _⟩, ⟨bq BK331.out⟩, ⟨bz HB.out⟩⟩
      ·rw [if_neg c14] at H
       have c14b0 : decide (2000 < (t334.size : Int)) = false := decide_eq_false c14
       have c14b1 : decide (2000 < t334.size) = false := decide_eq_false (by omega)
       clear c14
       (first | rw [c14b0] | (simp only [i64_w, i32_w]; rw [c14b0]) | skip)
       have H' := Aside0.mk H
       clear H
       go_wp2
       go_meet
       case rel => exact ⟨_, (decide ((t335.size : Int) > 2000)), fs, H', ⟨by have := HJ5.out; first | omega | exact Nat.le_refl _⟩, ⟨bq BK331.out⟩, ⟨bz HB.out⟩⟩
     case rest =>
      clear HC13
      (try clear c5); (try clear c9); (try clear c11); (try clear c14b0); (try clear c14b1); (try clear hcz12_0); (try clear hcz12_1); (try clear hcz12_2); (try clear hfz12_0); (try clear hfz12_1); (try clear hfz12_2)
      obtain ⟨kq, x48_12, rfl, HA, HJ12, BK331, HB⟩ := hcut
      cases kq with
      | zero => exact absurd HA.out (by simp [rational_Parse.j1])
      | succ kj12 =>
       have H := HA.out
       clear HA
       simp only [rational_Parse.j1] at H
       by_cases c15 : x48_12 = true
       ·subst c15
        have H1 : (some (false, (⟨#[]⟩ : ByteArray), (⟨#[]⟩ : ByteArray), 2)) = some (r1, r2, r3, r4) := by rw [if_pos rfl] at H; exact H
        clear H
        have H := H1
        clear H1
        simp only [Option.some.injEq, Prod.mk.injEq] at H
        obtain ⟨rfl, rfl, rfl, rfl⟩ := H
        obtain ⟨hcz16_0, hcz16_1, hcz16_2, hfz16_0, hfz16_1, hfz16_2⟩ := cz BK331.out
        go_wp2
        refine bodyPost_ret (results_ct rfl _ _ gb331 24 #[.bool false, .string (⟨#[]⟩ : ByteArray), .string (⟨#[]⟩ : ByteArray)] (0, 0) _ rfl (bq BK331.out) Tryz.underlying24 rfl (by kernel_rfl)) rfl ?_
        exact ⟨fe, bz HB.out⟩
       ·replace c15 := Bool.eq_false_iff.mpr c15
        subst c15
        have H1 : ((rational_tenTo.f kj12 (t335.size : Int)).bind fun t342 => ((rational_digits.f kj12 t334).bind fun t343 => ((natural_Multiply.f kj12 t343 t342).bind fun t344 => ((rational_digits.f kj12 t335).bind fun t345 => ((natural_Add.f kj12 t344 t345).bind fun t346 => ((rational_reduced.f kj12 t333 t346 t342).bind fun bt347 => (some (bt347.1, bt347.2.1, bt347.2.2, 0)))))))) = some (r1, r2, r3, r4) := by rw [if_neg (show ¬ (false = true) by decide)] at H; exact H
        clear H
        have H := H1
        clear H1
        obtain ⟨t342, A17, H⟩ := bs1 H
        obtain ⟨t343, A18, H⟩ := bs1 H
        obtain ⟨t344, A19, H⟩ := bs1 H
        obtain ⟨t345, A20, H⟩ := bs1 H
        obtain ⟨t346, A21, H⟩ := bs1 H
        obtain ⟨⟨t347, t348, t349⟩, A22, H⟩ := bs1 H; dsimp only at H
        simp only [Option.some.injEq, Prod.mk.injEq] at H
        obtain ⟨rfl, rfl, rfl, rfl⟩ := H
        go_wp2_with (first | ((with_reducible refine gc 61 rfl ?_); refine gl (some 52) Tryz.func61 #[.int .i64 (t335.size : Int)] ?_; (with_reducible refine (rational_tenTo.calls kj12 (t335.size : Int) t342 _ A17.out).mono ?_); rintro e w23 ⟨rfl, hb⟩; refine ⟨_, rfl, ?_⟩; replace BK331 := Aside0.mk (bk0 BK331.out hb); replace HB := Aside0.mk (bs HB.out hb); (try clear hb)) | ((with_reducible refine gc 65 rfl ?_); refine gl (some 55) Tryz.func65 #[.string t334] ?_; (with_reducible refine (rational_digits.calls kj12 t334 t343 _ A18.out).mono ?_); rintro e w24 ⟨rfl, hb⟩; refine ⟨_, rfl, ?_⟩; replace BK331 := Aside0.mk (bk0 BK331.out hb); replace HB := Aside0.mk (bs HB.out hb); (try clear hb)) | ((with_reducible refine gc 64 rfl ?_); refine gl (some 57) Tryz.func64 #[.string t343, .string t342] ?_; (with_reducible refine (natural_Multiply.calls kj12 t343 t342 t344 _ A19.out).mono ?_); rintro e w25 ⟨rfl, hb⟩; refine ⟨_, rfl, ?_⟩; replace BK331 := Aside0.mk (bk0 BK331.out hb); replace HB := Aside0.mk (bs HB.out hb); (try clear hb)) | ((with_reducible refine gc 65 rfl ?_); refine gl (some 59) Tryz.func65 #[.string t335] ?_; (with_reducible refine (rational_digits.calls kj12 t335 t345 _ A20.out).mono ?_); rintro e w26 ⟨rfl, hb⟩; refine ⟨_, rfl, ?_⟩; replace BK331 := Aside0.mk (bk0 BK331.out hb); replace HB := Aside0.mk (bs HB.out hb); (try clear hb)) | ((with_reducible refine gc 63 rfl ?_); refine gl (some 60) Tryz.func63 #[.string t344, .string t345] ?_; (with_reducible refine (natural_Add.calls kj12 t344 t345 t346 _ A21.out).mono ?_); rintro e w27 ⟨rfl, hb⟩; refine ⟨_, rfl, ?_⟩; replace BK331 := Aside0.mk (bk0 BK331.out hb); replace HB := Aside0.mk (bs HB.out hb); (try clear hb)) | ((with_reducible refine gc 62 rfl ?_); refine gl (some 62) Tryz.func62 #[.bool t333, .string t346, .string t342] ?_; (with_reducible refine (rational_reduced.calls kj12 t333 t346 t342 t347 t348 t349 _ A22.out).mono ?_); rintro e w28 ⟨rfl, hb⟩; refine ⟨_, rfl, ?_⟩; replace BK331 := Aside0.mk (bk0 BK331.out hb); replace HB := Aside0.mk (bs HB.out hb); (try clear hb); obtain ⟨hcz29_0, hcz29_1, hcz29_2, hfz29_0, hfz29_1, hfz29_2⟩ := cz BK331.out))
        refine bodyPost_ret (results_ct rfl _ _ gb331 24 #[.bool t347, .string t348, .string t349] (0, 0) _ rfl (bq BK331.out) Tryz.underlying24 rfl (by kernel_rfl)) rfl ?_
        exact ⟨fe, bz HB.out⟩
 ·replace c5 := Bool.eq_false_iff.mpr c5
  subst c5
  have H1 : (if t339 = true then ((rational_isInteger.f k t337).bind fun t350 => (if t350 = true then ((rational_isInteger.f k t338).bind fun t351 => (rational_Parse.j2 k t333 t337 t338 (!t351))) else (rational_Parse.j2 k t333 t337 t338 true))) else ((rational_isInteger.f k t332).bind fun t357 => (if t357 = true then (if (t332.size : Int) > 2000 then (some (false, (⟨#[]⟩ : ByteArray), (⟨#[]⟩ : ByteArray), 2)) else ((rational_digits.f k t332).bind fun t358 => ((rational_reduced.f k t333 t358 (⟨#[1]⟩ : ByteArray)).bind fun bt359 => (some (bt359.1, bt359.2.1, bt359.2.2, 0))))) else (some (false, (⟨#[]⟩ : ByteArray), (⟨#[]⟩ : ByteArray), 3))))) = some (r1, r2, r3, r4) := by rw [if_neg (show ¬ (false = true) by decide)] at H; exact H
  clear H
  have H := H1
  clear H1
  by_cases c30 : t339 = true
  ·subst c30
   have H1 : ((rational_isInteger.f k t337).bind fun t350 => (if t350 = true then ((rational_isInteger.f k t338).bind fun t351 => (rational_Parse.j2 k t333 t337 t338 (!t351))) else (rational_Parse.j2 k t333 t337 t338 true))) = some (r1, r2, r3, r4) := by rw [if_pos rfl] at H; exact H
   clear H
   have H := H1
   clear H1
   have HC31 := Aside0.mk H
   clear H
   go_enter Tryz.func17, Tryz.ntmps17
   (try (simp only [Exit.then]; refine (by assumption : ∀ (a : Act) (w : World), Code.wp _ _ _ a w → _) _ _ ?_))
   go_upto_region 12 with (first | ((with_reducible refine gd 2 rfl ?_); (try (refine gate_guard (by rfl) ?_; dsimp only)); refine bx 2 (#[.bool false, .string (⟨#[]⟩ : ByteArray), .string (⟨#[]⟩ : ByteArray)]) 24 ?_; intro gb331 hg w32 hbox hb; have BK331 := Aside0.mk (hbox); have GW331 := sg hg HB.out; have GE331 := sg hg HB.out; replace HB := Aside0.mk (bs HB.out hb); clear hb hbox hg) | ((with_reducible refine gc 57 rfl ?_); refine gl (some 15) Tryz.func57 #[.string a0, .string (⟨#[45]⟩ : ByteArray)] ?_; (with_reducible refine (strings_CutPrefix.calls a0 (⟨#[45]⟩ : ByteArray) t332 t333 _ A2.out).mono ?_); rintro e w' ⟨rfl, ⟨nd, rfl⟩⟩; refine ⟨_, rfl, ?_⟩) | ((with_reducible refine gc 58 rfl ?_); refine gl (some 20) Tryz.func58 #[.string t332, .string (⟨#[46]⟩ : ByteArray)] ?_; (with_reducible refine (strings_Cut.calls k t332 (⟨#[46]⟩ : ByteArray) t334 t335 false _ A3.out).mono ?_); rintro e w' ⟨rfl, ⟨nd, rfl⟩⟩; refine ⟨_, rfl, ?_⟩) | ((with_reducible refine gc 58 rfl ?_); refine gl (some 26) Tryz.func58 #[.string t332, .string (⟨#[47]⟩ : ByteArray)] ?_; (with_reducible refine (strings_Cut.calls k t332 (⟨#[47]⟩ : ByteArray) t337 t338 true _ A4.out).mono ?_); rintro e w' ⟨rfl, ⟨nd, rfl⟩⟩; refine ⟨_, rfl, ?_⟩))
   (try simp only [Act.put, List.setIfInBounds_toArray, List.set_cons_zero, List.set_cons_succ])
   go_cut [72] (fun v72 wc => ∃ (kq : Nat) (x72_30 : Bool), v72 = .bool x72_30 ∧ Aside0 (rational_Parse.j2 kq t333 t337 t338 x72_30 = some (r1, r2, r3, r4)) ∧ Aside0 (kq ≤ k) ∧ Aside0 (wc.heap[gb331]? = some (.cells #[.bool false, .string (⟨#[]⟩ : ByteArray), .string (⟨#[]⟩ : ByteArray)] 24 (0, 0))) ∧ Aside0 (Below w.heap.size w wc))
   case first =>
    have H := HC31.out
    clear HC31
    obtain ⟨t350, A33, H⟩ := bs1 H
    by_cases c34 : t350 = true
    ·subst c34
     have H1 : ((rational_isInteger.f k t338).bind fun t351 => (rational_Parse.j2 k t333 t337 t338 (!t351))) = some (r1, r2, r3, r4) := by rw [if_pos rfl] at H; exact H
     clear H
     have H := H1
     clear H1
     obtain ⟨t351, A35, H⟩ := bs1 H
     have H' := Aside0.mk H
     clear H
     go_wp2_with (first | ((with_reducible refine gc 59 rfl ?_); refine gl (some 66) Tryz.func59 #[.string t337] ?_; (with_reducible refine (rational_isInteger.calls k t337 true _ A33.out).mono ?_); rintro e w' ⟨rfl, ⟨nd, rfl⟩⟩; refine ⟨_, rfl, ?_⟩) | (go_at_call 59; (with_reducible refine (rational_isInteger.calls k t338 t351 _ A35.out).mono ?_); rintro e w' ⟨rfl, ⟨nd, rfl⟩⟩))
     go_meet
     case rel => exact ⟨_, (!t351), fs, H', ⟨by first | omega | exact Nat.le_refl _⟩, ⟨bq BK331.out⟩, ⟨bz HB.out⟩⟩
    ·replace c34 := Bool.eq_false_iff.mpr c34
     subst c34
     have H1 : (rational_Parse.j2 k t333 t337 t338 true) = some (r1, r2, r3, r4) := by rw [if_neg (show ¬ (false = true) by decide)] at H; exact H
     clear H
     have H := H1
     clear H1
     have H' := Aside0.mk H
     clear H
     go_wp2_with (first | ((with_reducible refine gc 59 rfl ?_); refine gl (some 66) Tryz.func59 #[.string t337] ?_; (with_reducible refine (rational_isInteger.calls k t337 false _ A33.out).mono ?_); rintro e w' ⟨rfl, ⟨nd, rfl⟩⟩; refine ⟨_, rfl, ?_⟩))
     go_meet
     case rel => exact ⟨_, (true), fs, H', ⟨by first | omega | exact Nat.le_refl _⟩, ⟨bq BK331.out⟩, ⟨bz HB.out⟩⟩
   case rest =>
    clear HC31
    (try clear c5); (try clear c9); (try clear c11); (try clear c14b0); (try clear c14b1); (try clear c15); (try clear c30); (try clear c34); (try clear hcz12_0); (try clear hcz12_1); (try clear hcz12_2); (try clear hcz16_0); (try clear hcz16_1); (try clear hcz16_2); (try clear hcz29_0); (try clear hcz29_1); (try clear hcz29_2); (try clear hfz12_0); (try clear hfz12_1); (try clear hfz12_2); (try clear hfz16_0); (try clear hfz16_1); (try clear hfz16_2); (try clear hfz29_0); (try clear hfz29_1); (try clear hfz29_2)
    obtain ⟨kq, x72_30, rfl, HA, HJ30, BK331, HB⟩ := hcut
    cases kq with
    | zero => exact absurd HA.out (by simp [rational_Parse.j2])
    | succ kj30 =>
     have H := HA.out
     clear HA
     simp only [rational_Parse.j2] at H
     by_cases c36 : x72_30 = true
     ·subst c36
      have H1 : (some (false, (⟨#[]⟩ : ByteArray), (⟨#[]⟩ : ByteArray), 3)) = some (r1, r2, r3, r4) := by rw [if_pos rfl] at H; exact H
      clear H
      have H := H1
      clear H1
      simp only [Option.some.injEq, Prod.mk.injEq] at H
      obtain ⟨rfl, rfl, rfl, rfl⟩ := H
      obtain ⟨hcz37_0, hcz37_1, hcz37_2, hfz37_0, hfz37_1, hfz37_2⟩ := cz BK331.out
      go_wp2
      refine bodyPost_ret (results_ct rfl _ _ gb331 24 #[.bool false, .string (⟨#[]⟩ : ByteArray), .string (⟨#[]⟩ : ByteArray)] (0, 0) _ rfl (bq BK331.out) Tryz.underlying24 rfl (by kernel_rfl)) rfl ?_
      exact ⟨fe, bz HB.out⟩
     ·replace c36 := Bool.eq_false_iff.mpr c36
      subst c36
      have H1 : (if (t337.size : Int) > 2000 then (rational_Parse.j3 kj30 t333 t337 t338 true) else (rational_Parse.j3 kj30 t333 t337 t338 (decide ((t338.size : Int) > 2000)))) = some (r1, r2, r3, r4) := by rw [if_neg (show ¬ (false = true) by decide)] at H; exact H
      clear H
      have H := H1
      clear H1
      have HC38 := Aside0.mk H
      clear H
      (try (simp only [Exit.then]; refine (by assumption : ∀ (a : Act) (w : World), Code.wp _ _ _ a w → _) _ _ ?_))
      go_upto_region 14 with (fail)
      go_cut [81] (fun v81 wc => ∃ (kq : Nat) (x81_37 : Bool), v81 = .bool x81_37 ∧ Aside0 (rational_Parse.j3 kq t333 t337 t338 x81_37 = some (r1, r2, r3, r4)) ∧ Aside0 (kq ≤ kj30) ∧ Aside0 (wc.heap[gb331]? = some (.cells #[.bool false, .string (⟨#[]⟩ : ByteArray), .string (⟨#[]⟩ : ByteArray)] 24 (0, 0))) ∧ Aside0 (Below w.heap.size w wc))
      case first =>
       have H := HC38.out
       clear HC38
       by_cases c39 : (t337.size : Int) > 2000
       ·rw [if_pos c39] at H
        have c39b0 : decide (2000 < (t337.size : Int)) = true := decide_eq_true c39
        have c39b1 : decide (2000 < t337.size) = true := decide_eq_true (by omega)
        clear c39
        (first | rw [c39b0] | (simp only [i64_w, i32_w]; rw [c39b0]) | skip)
        have H' := Aside0.mk H
        clear H
        go_wp2
        go_meet
        case rel => exact ⟨_, (true), fs, H', ⟨by have := HJ30.out; first | omega | exact Nat.le_refl _⟩, ⟨bq BK331.out⟩, ⟨bz HB.out⟩⟩
       ·rw [if_neg c39] at H
        have c39b0 : decide (2000 < (t337.size : Int)) = false := decide_eq_false c39
        have c39b1 : decide (2000 < t337.size) = false := decide_eq_false (by omega)
        clear c39
        (first | rw [c39b0] | (simp only [i64_w, i32_w]; rw [c39b0]) | skip)
        have H' := Aside0.mk H
        clear H
        go_wp2
        go_meet
        case rel => exact ⟨_, (decide ((t338.size : Int) > 2000)), fs, H', ⟨by have := HJ30.out; first | omega | exact Nat.le_refl _⟩, ⟨bq BK331.out⟩, ⟨bz HB.out⟩⟩
      case rest =>
       clear HC38
       (try clear c5); (try clear c9); (try clear c11); (try clear c14b0); (try clear c14b1); (try clear c15); (try clear c30); (try clear c34); (try clear c36); (try clear c39b0); (try clear c39b1); (try clear hcz12_0); (try clear hcz12_1); (try clear hcz12_2); (try clear hcz16_0); (try clear hcz16_1); (try clear hcz16_2); (try clear hcz29_0); (try clear hcz29_1); (try clear hcz29_2); (try clear hcz37_0); (try clear hcz37_1); (try clear hcz37_2); (try clear hfz12_0); (try clear hfz12_1); (try clear hfz12_2); (try clear hfz16_0); (try clear hfz16_1); (try clear hfz16_2); (try clear hfz29_0); (try clear hfz29_1); (try clear hfz29_2); (try clear hfz37_0); (try clear hfz37_1); (try clear hfz37_2)
       obtain ⟨kq, x81_37, rfl, HA, HJ37, BK331, HB⟩ := hcut
       cases kq with
       | zero => exact absurd HA.out (by simp [rational_Parse.j3])
       | succ kj37 =>
        have H := HA.out
        clear HA
        simp only [rational_Parse.j3] at H
        by_cases c40 : x81_37 = true
        ·subst c40
         have H1 : (some (false, (⟨#[]⟩ : ByteArray), (⟨#[]⟩ : ByteArray), 2)) = some (r1, r2, r3, r4) := by rw [if_pos rfl] at H; exact H
         clear H
         have H := H1
         clear H1
         simp only [Option.some.injEq, Prod.mk.injEq] at H
         obtain ⟨rfl, rfl, rfl, rfl⟩ := H
         obtain ⟨hcz41_0, hcz41_1, hcz41_2, hfz41_0, hfz41_1, hfz41_2⟩ := cz BK331.out
         go_wp2
         refine bodyPost_ret (results_ct rfl _ _ gb331 24 #[.bool false, .string (⟨#[]⟩ : ByteArray), .string (⟨#[]⟩ : ByteArray)] (0, 0) _ rfl (bq BK331.out) Tryz.underlying24 rfl (by kernel_rfl)) rfl ?_
         exact ⟨fe, bz HB.out⟩
        ·replace c40 := Bool.eq_false_iff.mpr c40
         subst c40
         have H1 : (if t338.toList = ([48] : List UInt8) then (some (false, (⟨#[]⟩ : ByteArray), (⟨#[]⟩ : ByteArray), 1)) else ((rational_digits.f kj37 t337).bind fun t352 => ((rational_digits.f kj37 t338).bind fun t353 => ((rational_reduced.f kj37 t333 t352 t353).bind fun bt354 => (some (bt354.1, bt354.2.1, bt354.2.2, 0)))))) = some (r1, r2, r3, r4) := by rw [if_neg (show ¬ (false = true) by decide)] at H; exact H
         clear H
         have H := H1
         clear H1
         by_cases c42 : t338.toList = ([48] : List UInt8)
         ·rw [if_pos c42] at H
          have c42b0 := beq_iff_eq.mpr c42
          have c42b1 := bne_eq_false_iff_eq.mpr c42
          clear c42
          simp only [Option.some.injEq, Prod.mk.injEq] at H
          obtain ⟨rfl, rfl, rfl, rfl⟩ := H
          obtain ⟨hcz43_0, hcz43_1, hcz43_2, hfz43_0, hfz43_1, hfz43_2⟩ := cz BK331.out
          go_wp2
          refine bodyPost_ret (results_ct rfl _ _ gb331 24 #[.bool false, .string (⟨#[]⟩ : ByteArray), .string (⟨#[]⟩ : ByteArray)] (0, 0) _ rfl (bq BK331.out) Tryz.underlying24 rfl (by kernel_rfl)) rfl ?_
          exact ⟨fe, bz HB.out⟩
         ·rw [if_neg c42] at H
          have c42b0 := beq_eq_false_iff_ne.mpr c42
          have c42b1 := bne_iff_ne.mpr c42
          obtain ⟨t352, A44, H⟩ := bs1 H
          obtain ⟨t353, A45, H⟩ := bs1 H
          obtain ⟨⟨t354, t355, t356⟩, A46, H⟩ := bs1 H; dsimp only at H
          simp only [Option.some.injEq, Prod.mk.injEq] at H
          obtain ⟨rfl, rfl, rfl, rfl⟩ := H
          go_wp2_with (first | ((with_reducible refine gc 65 rfl ?_); refine gl (some 88) Tryz.func65 #[.string t337] ?_; (with_reducible refine (rational_digits.calls kj37 t337 t352 _ A44.out).mono ?_); rintro e w47 ⟨rfl, hb⟩; refine ⟨_, rfl, ?_⟩; replace BK331 := Aside0.mk (bk0 BK331.out hb); replace HB := Aside0.mk (bs HB.out hb); (try clear hb)) | ((with_reducible refine gc 65 rfl ?_); refine gl (some 90) Tryz.func65 #[.string t338] ?_; (with_reducible refine (rational_digits.calls kj37 t338 t353 _ A45.out).mono ?_); rintro e w48 ⟨rfl, hb⟩; refine ⟨_, rfl, ?_⟩; replace BK331 := Aside0.mk (bk0 BK331.out hb); replace HB := Aside0.mk (bs HB.out hb); (try clear hb)) | ((with_reducible refine gc 62 rfl ?_); refine gl (some 91) Tryz.func62 #[.bool t333, .string t352, .string t353] ?_; (with_reducible refine (rational_reduced.calls kj37 t333 t352 t353 t354 t355 t356 _ A46.out).mono ?_); rintro e w49 ⟨rfl, hb⟩; refine ⟨_, rfl, ?_⟩; replace BK331 := Aside0.mk (bk0 BK331.out hb); replace HB := Aside0.mk (bs HB.out hb); (try clear hb); obtain ⟨hcz50_0, hcz50_1, hcz50_2, hfz50_0, hfz50_1, hfz50_2⟩ := cz BK331.out))
          refine bodyPost_ret (results_ct rfl _ _ gb331 24 #[.bool t354, .string t355, .string t356] (0, 0) _ rfl (bq BK331.out) Tryz.underlying24 rfl (by kernel_rfl)) rfl ?_
          exact ⟨fe, bz HB.out⟩
  ·replace c30 := Bool.eq_false_iff.mpr c30
   subst c30
   have H1 : ((rational_isInteger.f k t332).bind fun t357 => (if t357 = true then (if (t332.size : Int) > 2000 then (some (false, (⟨#[]⟩ : ByteArray), (⟨#[]⟩ : ByteArray), 2)) else ((rational_digits.f k t332).bind fun t358 => ((rational_reduced.f k t333 t358 (⟨#[1]⟩ : ByteArray)).bind fun bt359 => (some (bt359.1, bt359.2.1, bt359.2.2, 0))))) else (some (false, (⟨#[]⟩ : ByteArray), (⟨#[]⟩ : ByteArray), 3)))) = some (r1, r2, r3, r4) := by rw [if_neg (show ¬ (false = true) by decide)] at H; exact H
   clear H
   have H := H1
   clear H1
   obtain ⟨t357, A51, H⟩ := bs1 H
   by_cases c52 : t357 = true
   ·subst c52
    have H1 : (if (t332.size : Int) > 2000 then (some (false, (⟨#[]⟩ : ByteArray), (⟨#[]⟩ : ByteArray), 2)) else ((rational_digits.f k t332).bind fun t358 => ((rational_reduced.f k t333 t358 (⟨#[1]⟩ : ByteArray)).bind fun bt359 => (some (bt359.1, bt359.2.1, bt359.2.2, 0))))) = some (r1, r2, r3, r4) := by rw [if_pos rfl] at H; exact H
    clear H
    have H := H1
    clear H1
    by_cases c53 : (t332.size : Int) > 2000
    ·rw [if_pos c53] at H
     have c53b0 : decide (2000 < (t332.size : Int)) = true := decide_eq_true c53
     have c53b1 : decide (2000 < t332.size) = true := decide_eq_true (by omega)
     clear c53
     simp only [Option.some.injEq, Prod.mk.injEq] at H
     obtain ⟨rfl, rfl, rfl, rfl⟩ := H
     go_enter Tryz.func17, Tryz.ntmps17
     go_wp2_with (first | ((with_reducible refine gd 2 rfl ?_); (try (refine gate_guard (by rfl) ?_; dsimp only)); refine bx 2 (#[.bool false, .string (⟨#[]⟩ : ByteArray), .string (⟨#[]⟩ : ByteArray)]) 24 ?_; intro gb331 hg w54 hbox hb; have BK331 := Aside0.mk (hbox); have GW331 := sg hg HB.out; have GE331 := sg hg HB.out; replace HB := Aside0.mk (bs HB.out hb); clear hb hbox hg) | ((with_reducible refine gc 57 rfl ?_); refine gl (some 15) Tryz.func57 #[.string a0, .string (⟨#[45]⟩ : ByteArray)] ?_; (with_reducible refine (strings_CutPrefix.calls a0 (⟨#[45]⟩ : ByteArray) t332 t333 _ A2.out).mono ?_); rintro e w' ⟨rfl, ⟨nd, rfl⟩⟩; refine ⟨_, rfl, ?_⟩; (try (rw [drewN_self w54]; generalize hq_ : World.drewN w54 _ = w54; have n0_ : Aside0 (w54.heap[gb331]? = some (.cells #[.bool false, .string (⟨#[]⟩ : ByteArray), .string (⟨#[]⟩ : ByteArray)] 24 (0, 0))) := ⟨by rw [← hq_]; exact (bq BK331.out)⟩; have n1_ : Aside0 (Below w.heap.size w w54) := ⟨by rw [← hq_]; exact (bz HB.out)⟩; clear BK331 HB hq_; have BK331 := n0_; have HB := n1_; clear n0_ n1_))) | ((with_reducible refine gc 58 rfl ?_); refine gl (some 20) Tryz.func58 #[.string t332, .string (⟨#[46]⟩ : ByteArray)] ?_; (with_reducible refine (strings_Cut.calls k t332 (⟨#[46]⟩ : ByteArray) t334 t335 false _ A3.out).mono ?_); rintro e w' ⟨rfl, ⟨nd, rfl⟩⟩; refine ⟨_, rfl, ?_⟩; (try (rw [drewN_self w54]; generalize hq_ : World.drewN w54 _ = w54; have n0_ : Aside0 (w54.heap[gb331]? = some (.cells #[.bool false, .string (⟨#[]⟩ : ByteArray), .string (⟨#[]⟩ : ByteArray)] 24 (0, 0))) := ⟨by rw [← hq_]; exact (bq BK331.out)⟩; have n1_ : Aside0 (Below w.heap.size w w54) := ⟨by rw [← hq_]; exact (bz HB.out)⟩; clear BK331 HB hq_; have BK331 := n0_; have HB := n1_; clear n0_ n1_))) | ((with_reducible refine gc 58 rfl ?_); refine gl (some 26) Tryz.func58 #[.string t332, .string (⟨#[47]⟩ : ByteArray)] ?_; (with_reducible refine (strings_Cut.calls k t332 (⟨#[47]⟩ : ByteArray) t337 t338 false _ A4.out).mono ?_); rintro e w' ⟨rfl, ⟨nd, rfl⟩⟩; refine ⟨_, rfl, ?_⟩; (try (rw [drewN_self w54]; generalize hq_ : World.drewN w54 _ = w54; have n0_ : Aside0 (w54.heap[gb331]? = some (.cells #[.bool false, .string (⟨#[]⟩ : ByteArray), .string (⟨#[]⟩ : ByteArray)] 24 (0, 0))) := ⟨by rw [← hq_]; exact (bq BK331.out)⟩; have n1_ : Aside0 (Below w.heap.size w w54) := ⟨by rw [← hq_]; exact (bz HB.out)⟩; clear BK331 HB hq_; have BK331 := n0_; have HB := n1_; clear n0_ n1_))) | ((with_reducible refine gc 59 rfl ?_); refine gl (some 94) Tryz.func59 #[.string t332] ?_; (with_reducible refine (rational_isInteger.calls k t332 true _ A51.out).mono ?_); rintro e w' ⟨rfl, ⟨nd, rfl⟩⟩; refine ⟨_, rfl, ?_⟩; (try (rw [drewN_self w54]; generalize hq_ : World.drewN w54 _ = w54; have n0_ : Aside0 (w54.heap[gb331]? = some (.cells #[.bool false, .string (⟨#[]⟩ : ByteArray), .string (⟨#[]⟩ : ByteArray)] 24 (0, 0))) := ⟨by rw [← hq_]; exact (bq BK331.out)⟩; have n1_ : Aside0 (Below w.heap.size w w54) := ⟨by rw [← hq_]; exact (bz HB.out)⟩; clear BK331 HB hq_; have BK331 := n0_; have HB := n1_; clear n0_ n1_)); obtain ⟨hcz55_0, hcz55_1, hcz55_2, hfz55_0, hfz55_1, hfz55_2⟩ := cz BK331.out))
     refine bodyPost_ret (results_ct rfl _ _ gb331 24 #[.bool false, .string (⟨#[]⟩ : ByteArray), .string (⟨#[]⟩ : ByteArray)] (0, 0) _ rfl (bq BK331.out) Tryz.underlying24 rfl (by kernel_rfl)) rfl ?_
     exact ⟨fe, bz HB.out⟩
    ·rw [if_neg c53] at H
     have c53b0 : decide (2000 < (t332.size : Int)) = false := decide_eq_false c53
     have c53b1 : decide (2000 < t332.size) = false := decide_eq_false (by omega)
     clear c53
     obtain ⟨t358, A56, H⟩ := bs1 H
     obtain ⟨⟨t359, t360, t361⟩, A57, H⟩ := bs1 H; dsimp only at H
     simp only [Option.some.injEq, Prod.mk.injEq] at H
     obtain ⟨rfl, rfl, rfl, rfl⟩ := H
     go_enter Tryz.func17, Tryz.ntmps17
     go_wp2_with (first | ((with_reducible refine gd 2 rfl ?_); (try (refine gate_guard (by rfl) ?_; dsimp only)); refine bx 2 (#[.bool false, .string (⟨#[]⟩ : ByteArray), .string (⟨#[]⟩ : ByteArray)]) 24 ?_; intro gb331 hg w58 hbox hb; have BK331 := Aside0.mk (hbox); have GW331 := sg hg HB.out; have GE331 := sg hg HB.out; replace HB := Aside0.mk (bs HB.out hb); clear hb hbox hg) | ((with_reducible refine gc 57 rfl ?_); refine gl (some 15) Tryz.func57 #[.string a0, .string (⟨#[45]⟩ : ByteArray)] ?_; (with_reducible refine (strings_CutPrefix.calls a0 (⟨#[45]⟩ : ByteArray) t332 t333 _ A2.out).mono ?_); rintro e w' ⟨rfl, ⟨nd, rfl⟩⟩; refine ⟨_, rfl, ?_⟩; (try (rw [drewN_self w58]; generalize hq_ : World.drewN w58 _ = w58; have n0_ : Aside0 (w58.heap[gb331]? = some (.cells #[.bool false, .string (⟨#[]⟩ : ByteArray), .string (⟨#[]⟩ : ByteArray)] 24 (0, 0))) := ⟨by rw [← hq_]; exact (bq BK331.out)⟩; have n1_ : Aside0 (Below w.heap.size w w58) := ⟨by rw [← hq_]; exact (bz HB.out)⟩; clear BK331 HB hq_; have BK331 := n0_; have HB := n1_; clear n0_ n1_))) | ((with_reducible refine gc 58 rfl ?_); refine gl (some 20) Tryz.func58 #[.string t332, .string (⟨#[46]⟩ : ByteArray)] ?_; (with_reducible refine (strings_Cut.calls k t332 (⟨#[46]⟩ : ByteArray) t334 t335 false _ A3.out).mono ?_); rintro e w' ⟨rfl, ⟨nd, rfl⟩⟩; refine ⟨_, rfl, ?_⟩; (try (rw [drewN_self w58]; generalize hq_ : World.drewN w58 _ = w58; have n0_ : Aside0 (w58.heap[gb331]? = some (.cells #[.bool false, .string (⟨#[]⟩ : ByteArray), .string (⟨#[]⟩ : ByteArray)] 24 (0, 0))) := ⟨by rw [← hq_]; exact (bq BK331.out)⟩; have n1_ : Aside0 (Below w.heap.size w w58) := ⟨by rw [← hq_]; exact (bz HB.out)⟩; clear BK331 HB hq_; have BK331 := n0_; have HB := n1_; clear n0_ n1_))) | ((with_reducible refine gc 58 rfl ?_); refine gl (some 26) Tryz.func58 #[.string t332, .string (⟨#[47]⟩ : ByteArray)] ?_; (with_reducible refine (strings_Cut.calls k t332 (⟨#[47]⟩ : ByteArray) t337 t338 false _ A4.out).mono ?_); rintro e w' ⟨rfl, ⟨nd, rfl⟩⟩; refine ⟨_, rfl, ?_⟩; (try (rw [drewN_self w58]; generalize hq_ : World.drewN w58 _ = w58; have n0_ : Aside0 (w58.heap[gb331]? = some (.cells #[.bool false, .string (⟨#[]⟩ : ByteArray), .string (⟨#[]⟩ : ByteArray)] 24 (0, 0))) := ⟨by rw [← hq_]; exact (bq BK331.out)⟩; have n1_ : Aside0 (Below w.heap.size w w58) := ⟨by rw [← hq_]; exact (bz HB.out)⟩; clear BK331 HB hq_; have BK331 := n0_; have HB := n1_; clear n0_ n1_))) | ((with_reducible refine gc 59 rfl ?_); refine gl (some 94) Tryz.func59 #[.string t332] ?_; (with_reducible refine (rational_isInteger.calls k t332 true _ A51.out).mono ?_); rintro e w' ⟨rfl, ⟨nd, rfl⟩⟩; refine ⟨_, rfl, ?_⟩; (try (rw [drewN_self w58]; generalize hq_ : World.drewN w58 _ = w58; have n0_ : Aside0 (w58.heap[gb331]? = some (.cells #[.bool false, .string (⟨#[]⟩ : ByteArray), .string (⟨#[]⟩ : ByteArray)] 24 (0, 0))) := ⟨by rw [← hq_]; exact (bq BK331.out)⟩; have n1_ : Aside0 (Below w.heap.size w w58) := ⟨by rw [← hq_]; exact (bz HB.out)⟩; clear BK331 HB hq_; have BK331 := n0_; have HB := n1_; clear n0_ n1_))) | ((with_reducible refine gc 65 rfl ?_); refine gl (some 104) Tryz.func65 #[.string t332] ?_; (with_reducible refine (rational_digits.calls k t332 t358 _ A56.out).mono ?_); rintro e w59 ⟨rfl, hb⟩; refine ⟨_, rfl, ?_⟩; replace BK331 := Aside0.mk (bk0 BK331.out hb); replace HB := Aside0.mk (bs HB.out hb); (try clear hb)) | ((with_reducible refine gc 62 rfl ?_); refine gl (some 105) Tryz.func62 #[.bool t333, .string t358, .string (⟨#[1]⟩ : ByteArray)] ?_; (with_reducible refine (rational_reduced.calls k t333 t358 (⟨#[1]⟩ : ByteArray) t359 t360 t361 _ A57.out).mono ?_); rintro e w60 ⟨rfl, hb⟩; refine ⟨_, rfl, ?_⟩; replace BK331 := Aside0.mk (bk0 BK331.out hb); replace HB := Aside0.mk (bs HB.out hb); (try clear hb); obtain ⟨hcz61_0, hcz61_1, hcz61_2, hfz61_0, hfz61_1, hfz61_2⟩ := cz BK331.out))
     refine bodyPost_ret (results_ct rfl _ _ gb331 24 #[.bool t359, .string t360, .string t361] (0, 0) _ rfl (bq BK331.out) Tryz.underlying24 rfl (by kernel_rfl)) rfl ?_
     exact ⟨fe, bz HB.out⟩
   ·replace c52 := Bool.eq_false_iff.mpr c52
    subst c52
    have H1 : (some (false, (⟨#[]⟩ : ByteArray), (⟨#[]⟩ : ByteArray), 3)) = some (r1, r2, r3, r4) := by rw [if_neg (show ¬ (false = true) by decide)] at H; exact H
    clear H
    have H := H1
    clear H1
    simp only [Option.some.injEq, Prod.mk.injEq] at H
    obtain ⟨rfl, rfl, rfl, rfl⟩ := H
    go_enter Tryz.func17, Tryz.ntmps17
    go_wp2_with (first | ((with_reducible refine gd 2 rfl ?_); (try (refine gate_guard (by rfl) ?_; dsimp only)); refine bx 2 (#[.bool false, .string (⟨#[]⟩ : ByteArray), .string (⟨#[]⟩ : ByteArray)]) 24 ?_; intro gb331 hg w62 hbox hb; have BK331 := Aside0.mk (hbox); have GW331 := sg hg HB.out; have GE331 := sg hg HB.out; replace HB := Aside0.mk (bs HB.out hb); clear hb hbox hg) | ((with_reducible refine gc 57 rfl ?_); refine gl (some 15) Tryz.func57 #[.string a0, .string (⟨#[45]⟩ : ByteArray)] ?_; (with_reducible refine (strings_CutPrefix.calls a0 (⟨#[45]⟩ : ByteArray) t332 t333 _ A2.out).mono ?_); rintro e w' ⟨rfl, ⟨nd, rfl⟩⟩; refine ⟨_, rfl, ?_⟩; (try (rw [drewN_self w62]; generalize hq_ : World.drewN w62 _ = w62; have n0_ : Aside0 (w62.heap[gb331]? = some (.cells #[.bool false, .string (⟨#[]⟩ : ByteArray), .string (⟨#[]⟩ : ByteArray)] 24 (0, 0))) := ⟨by rw [← hq_]; exact (bq BK331.out)⟩; have n1_ : Aside0 (Below w.heap.size w w62) := ⟨by rw [← hq_]; exact (bz HB.out)⟩; clear BK331 HB hq_; have BK331 := n0_; have HB := n1_; clear n0_ n1_))) | ((with_reducible refine gc 58 rfl ?_); refine gl (some 20) Tryz.func58 #[.string t332, .string (⟨#[46]⟩ : ByteArray)] ?_; (with_reducible refine (strings_Cut.calls k t332 (⟨#[46]⟩ : ByteArray) t334 t335 false _ A3.out).mono ?_); rintro e w' ⟨rfl, ⟨nd, rfl⟩⟩; refine ⟨_, rfl, ?_⟩; (try (rw [drewN_self w62]; generalize hq_ : World.drewN w62 _ = w62; have n0_ : Aside0 (w62.heap[gb331]? = some (.cells #[.bool false, .string (⟨#[]⟩ : ByteArray), .string (⟨#[]⟩ : ByteArray)] 24 (0, 0))) := ⟨by rw [← hq_]; exact (bq BK331.out)⟩; have n1_ : Aside0 (Below w.heap.size w w62) := ⟨by rw [← hq_]; exact (bz HB.out)⟩; clear BK331 HB hq_; have BK331 := n0_; have HB := n1_; clear n0_ n1_))) | ((with_reducible refine gc 58 rfl ?_); refine gl (some 26) Tryz.func58 #[.string t332, .string (⟨#[47]⟩ : ByteArray)] ?_; (with_reducible refine (strings_Cut.calls k t332 (⟨#[47]⟩ : ByteArray) t337 t338 false _ A4.out).mono ?_); rintro e w' ⟨rfl, ⟨nd, rfl⟩⟩; refine ⟨_, rfl, ?_⟩; (try (rw [drewN_self w62]; generalize hq_ : World.drewN w62 _ = w62; have n0_ : Aside0 (w62.heap[gb331]? = some (.cells #[.bool false, .string (⟨#[]⟩ : ByteArray), .string (⟨#[]⟩ : ByteArray)] 24 (0, 0))) := ⟨by rw [← hq_]; exact (bq BK331.out)⟩; have n1_ : Aside0 (Below w.heap.size w w62) := ⟨by rw [← hq_]; exact (bz HB.out)⟩; clear BK331 HB hq_; have BK331 := n0_; have HB := n1_; clear n0_ n1_))) | ((with_reducible refine gc 59 rfl ?_); refine gl (some 94) Tryz.func59 #[.string t332] ?_; (with_reducible refine (rational_isInteger.calls k t332 false _ A51.out).mono ?_); rintro e w' ⟨rfl, ⟨nd, rfl⟩⟩; refine ⟨_, rfl, ?_⟩; (try (rw [drewN_self w62]; generalize hq_ : World.drewN w62 _ = w62; have n0_ : Aside0 (w62.heap[gb331]? = some (.cells #[.bool false, .string (⟨#[]⟩ : ByteArray), .string (⟨#[]⟩ : ByteArray)] 24 (0, 0))) := ⟨by rw [← hq_]; exact (bq BK331.out)⟩; have n1_ : Aside0 (Below w.heap.size w w62) := ⟨by rw [← hq_]; exact (bz HB.out)⟩; clear BK331 HB hq_; have BK331 := n0_; have HB := n1_; clear n0_ n1_)); obtain ⟨hcz63_0, hcz63_1, hcz63_2, hfz63_0, hfz63_1, hfz63_2⟩ := cz BK331.out))
    refine bodyPost_ret (results_ct rfl _ _ gb331 24 #[.bool false, .string (⟨#[]⟩ : ByteArray), .string (⟨#[]⟩ : ByteArray)] (0, 0) _ rfl (bq BK331.out) Tryz.underlying24 rfl (by kernel_rfl)) rfl ?_
    exact ⟨fe, bz HB.out⟩

/-! ### rational_Valid: function 115 -/
def rational_Valid.j0 : Nat → Bool → Bool → ByteArray → ByteArray → Option (Bool)
 | 0, _, _, _, _ => none
 | k + 1, x16, x363000, x363001, x363002 => if x16 = true then (some false) else (if x363001.toList = ([] : List UInt8) then (if x363000 = true then (some false) else (some (x363002.toList == ([] : List UInt8)))) else (if x363002.toList = ([] : List UInt8) then (some true) else (if x363002.toList = ([1] : List UInt8) then (some false) else ((natural_GCD.f k x363001 x363002).bind fun t365 => (some (t365.toList == ([1] : List UInt8)))))))
def rational_Valid.f (k : Nat) (a0_0 : Bool) (a0_1 : ByteArray) (a0_2 : ByteArray) : Option (Bool) := (natural_Normalize.f k a0_1).bind fun t363 => (if t363.toList = a0_1.toList then ((natural_Normalize.f k a0_2).bind fun t364 => (rational_Valid.j0 k (t364.toList != a0_2.toList) a0_0 a0_1 a0_2)) else (rational_Valid.j0 k true a0_0 a0_1 a0_2))
def rational_Valid.T1 : Bool × List (List Nat × List Nat) := (true, [([], []), ([0], [0]), ([1], [1]), ([], []), ([3], [3]), ([2, 4], [2, 4]), ([5, 2], [5]), ([6], [6]), ([7, 6], [6, 7]), ([8, 6, 6], [6, 8]), ([6], [6]), ([10, 6], [6, 10]), ([9, 11, 6], [6, 9, 11]), ([6, 12], [6, 12])])
def rational_Valid.B1 : List Nat := [0, 1, 3, 0, 8, 31, 63, 127, 255, 511, 127, 1151, 4095, 8191]
theorem rational_Valid.tab1 : rtab .any (opsOf Tryz.f115 1) = rational_Valid.T1 := by kernel_rfl
theorem rational_Valid.bits1 : waitsOk rational_Valid.T1.2 rational_Valid.B1 = true := by kernel_rfl
set_option maxHeartbeats 8000000 in
set_option maxRecDepth 100000 in
theorem rational_Valid.calls (k : Nat) (a0_0 : Bool) (a0_1 : ByteArray) (a0_2 : ByteArray) (r : Bool) (w : World) (h : rational_Valid.f k a0_0 a0_1 a0_2 = some r) :
  Calls Tryz.prog 115 #[.agg #[.bool a0_0, .string a0_1, .string a0_2]] w fun e w' => e = .returned (.bool r) ∧ Below w.heap.size w w' := by
 have hu24 := Tryz.underlying24
 have HB := Aside0.mk (Below.refl w.heap.size w)
 have H := h
 clear h
 unfold rational_Valid.f at H
 have HC2 := Aside0.mk H
 clear H
 go_enter Tryz.func115, Tryz.ntmps115
 (try (simp only [Exit.then]; refine (by assumption : ∀ (a : Act) (w : World), Code.wp _ _ _ a w → _) _ _ ?_))
 go_upto_region 1 with (first | ((with_reducible refine gd 1 rfl ?_); refine bx 1 (#[.bool a0_0, .string a0_1, .string a0_2]) 24 ?_; intro gb362 hg w3 hbox hb; have BK362 := Aside0.mk (hbox); have GW362 := sg hg HB.out; have GE362 := sg hg HB.out; replace HB := Aside0.mk (bs HB.out hb); clear hb hbox hg))
 (try simp only [Act.put, List.setIfInBounds_toArray, List.set_cons_zero, List.set_cons_succ])
 go_cut [16] (fun v16 wc => ∃ (kq : Nat) (x16_1 : Bool), v16 = .bool x16_1 ∧ Aside0 (rational_Valid.j0 kq x16_1 a0_0 a0_1 a0_2 = some r) ∧ Aside0 (kq ≤ k) ∧ Aside0 (wc.heap[gb362]? = some (.cells #[.bool a0_0, .string a0_1, .string a0_2] 24 (0, 0))) ∧ Aside0 (Below w.heap.size w wc))
 case first =>
  have H := HC2.out
  clear HC2
  obtain ⟨t363, A4, H⟩ := bs1 H
  by_cases c5 : t363.toList = a0_1.toList
  ·rw [if_pos c5] at H
   have c5b0 := beq_iff_eq.mpr c5
   have c5b1 := bne_eq_false_iff_eq.mpr c5
   clear c5
   (first | rw [c5b0] | (simp only [i64_w, i32_w]; rw [c5b0]) | skip)
   obtain ⟨t364, A6, H⟩ := bs1 H
   have H' := Aside0.mk H
   clear H
   try go_wp2
   replace BK362 := Aside0.mk (blk_drew BK362.out)
   replace HB := Aside0.mk (below_drew1 HB.out)
   refine start_ (n := 14) (S := fun w' => w'.cell? ⟨gb362, 0, none⟩ = some (.bool a0_0) ∧ w'.cell? ⟨gb362, 1, none⟩ = some (.string a0_1) ∧ w'.cell? ⟨gb362, 2, none⟩ = some (.string a0_2)) (ds := []) #[false, false, false, false, false, false, false, false, false, false, false, false, false, false] (by kernel_rfl) rfl rfl ⟨(blk_cell BK362.out 0).trans rfl, (blk_cell BK362.out 1).trans rfl, (blk_cell BK362.out 2).trans rfl⟩ (fun hHeld => ?_); refine with_tabW rational_Valid.tab1 rational_Valid.bits1 (fun HT_ HW_ => ?_)
   generalize w3.drew = w7 at BK362 HB hHeld ⊢
   refine py 0 (some 3) #[true, false, false, false, false, false, false, false, false, false, false, false, false, false] HT_ ?_
   refine py 3 (some 6) #[true, false, false, true, false, false, false, false, false, false, false, false, false, false] HT_ ?_
   refine take_ (i := 1) (N := some 4) (v := ?_) (a' := ?_) #[true, true, false, true, false, false, false, false, false, false, false, false, false, false] rfl rfl (take_ofW HT_.out HW_.out (by kernel_rfl)) (fun _ _ _ h => h) (Or.inl ⟨by rfl, ?_⟩) hHeld ?_ ?_
   rotate_left
   ·rintro w' ⟨s0, s1, s2⟩
    go_simp
    with_reducible rfl
   rotate_left
   ·simp only [Act.put, List.setIfInBounds_toArray, List.set_cons_zero, List.set_cons_succ, i64_w, i32_w]
    rfl
   refine take_ (i := 4) (N := some 7) (v := ?_) (a' := ?_) #[true, true, false, true, true, false, false, false, false, false, false, false, false, false] rfl rfl (take_ofW HT_.out HW_.out (by kernel_rfl)) (fun _ _ _ h => h) (Or.inl ⟨by rfl, ?_⟩) hHeld ?_ ?_
   rotate_left
   ·rintro w' ⟨s0, s1, s2⟩
    go_simp
    with_reducible rfl
   rotate_left
   ·simp only [Act.put, List.setIfInBounds_toArray, List.set_cons_zero, List.set_cons_succ, i64_w, i32_w]
    rfl
   refine one_ (i := 2) (N := some 5) #[true, true, true, true, true, false, false, false, false, false, false, false, false, false] rfl rfl (one_of HT_.out (by kernel_rfl)) (by decide) (fun K hK => ?_)
   refine gs Tryz.func107 #[.string a0_1] ?_
   with_reducible refine (natural_Normalize.calls k a0_1 t363 _ A4.out).mono ?_
   rintro e w8 ⟨rfl, hb⟩
   refine ⟨_, rfl, ?_⟩
   replace BK362 := Aside0.mk (bk0 BK362.out hb)
   replace HB := Aside0.mk (bs HB.out hb)
   (try clear hb)
   refine hK.out _ _ ⟨(blk_cell BK362.out 0).trans rfl, (blk_cell BK362.out 1).trans rfl, (blk_cell BK362.out 2).trans rfl⟩ (fun hHeld => ?_)
   clear hK K
   refine nm ?_
   refine py 5 (some 8) #[true, true, true, true, true, true, false, false, false, false, false, false, false, false] HT_ ?_
   refine py 6 (some 9) #[true, true, true, true, true, true, true, false, false, false, false, false, false, false] HT_ ?_
   refine py 7 (some 10) #[true, true, true, true, true, true, true, true, false, false, false, false, false, false] HT_ ?_
   refine py 10 (some 13) #[true, true, true, true, true, true, true, true, false, false, true, false, false, false] HT_ ?_
   refine take_ (i := 8) (N := some 11) (v := ?_) (a' := ?_) #[true, true, true, true, true, true, true, true, true, false, true, false, false, false] rfl rfl (take_ofW HT_.out HW_.out (by kernel_rfl)) (fun _ _ _ h => h) (Or.inl ⟨by rfl, ?_⟩) hHeld ?_ ?_
   rotate_left
   ·rintro w' ⟨s0, s1, s2⟩
    go_simp
    with_reducible rfl
   rotate_left
   ·simp only [Act.put, List.setIfInBounds_toArray, List.set_cons_zero, List.set_cons_succ, i64_w, i32_w]
    rfl
   refine take_ (i := 11) (N := some 14) (v := ?_) (a' := ?_) #[true, true, true, true, true, true, true, true, true, false, true, true, false, false] rfl rfl (take_ofW HT_.out HW_.out (by kernel_rfl)) (fun _ _ _ h => h) (Or.inl ⟨by rfl, ?_⟩) hHeld ?_ ?_
   rotate_left
   ·rintro w' ⟨s0, s1, s2⟩
    go_simp
    with_reducible rfl
   rotate_left
   ·simp only [Act.put, List.setIfInBounds_toArray, List.set_cons_zero, List.set_cons_succ, i64_w, i32_w]
    rfl
   refine one_ (i := 9) (N := some 12) #[true, true, true, true, true, true, true, true, true, true, true, true, false, false] rfl rfl (one_of HT_.out (by kernel_rfl)) (by decide) (fun K hK => ?_)
   refine gs Tryz.func107 #[.string a0_2] ?_
   with_reducible refine (natural_Normalize.calls k a0_2 t364 _ A6.out).mono ?_
   rintro e w9 ⟨rfl, hb⟩
   refine ⟨_, rfl, ?_⟩
   replace BK362 := Aside0.mk (bk0 BK362.out hb)
   replace HB := Aside0.mk (bs HB.out hb)
   (try clear hb)
   refine hK.out _ _ ⟨(blk_cell BK362.out 0).trans rfl, (blk_cell BK362.out 1).trans rfl, (blk_cell BK362.out 2).trans rfl⟩ (fun hHeld => ?_)
   clear hK K
   refine nm ?_
   refine py 12 (some 15) #[true, true, true, true, true, true, true, true, true, true, true, true, true, false] HT_ ?_
   refine py 13 (some 16) #[true, true, true, true, true, true, true, true, true, true, true, true, true, true] HT_ ?_
   refine done_ (done_of HT_.out (by kernel_rfl)) ?_
   try go_wp2
   go_meet
   case rel => exact ⟨_, ((t364.toList != a0_2.toList)), fs, H', ⟨by first | omega | exact Nat.le_refl _⟩, ⟨bq BK362.out⟩, ⟨bz HB.out⟩⟩
  ·rw [if_neg c5] at H
   have c5b0 := beq_eq_false_iff_ne.mpr c5
   have c5b1 := bne_iff_ne.mpr c5
   (first | rw [c5b0] | (simp only [i64_w, i32_w]; rw [c5b0]) | skip)
   have H' := Aside0.mk H
   clear H
   try go_wp2
   replace BK362 := Aside0.mk (blk_drew BK362.out)
   replace HB := Aside0.mk (below_drew1 HB.out)
   refine start_ (n := 14) (S := fun w' => w'.cell? ⟨gb362, 0, none⟩ = some (.bool a0_0) ∧ w'.cell? ⟨gb362, 1, none⟩ = some (.string a0_1) ∧ w'.cell? ⟨gb362, 2, none⟩ = some (.string a0_2)) (ds := []) #[false, false, false, false, false, false, false, false, false, false, false, false, false, false] (by kernel_rfl) rfl rfl ⟨(blk_cell BK362.out 0).trans rfl, (blk_cell BK362.out 1).trans rfl, (blk_cell BK362.out 2).trans rfl⟩ (fun hHeld => ?_); refine with_tabW rational_Valid.tab1 rational_Valid.bits1 (fun HT_ HW_ => ?_)
   generalize w3.drew = w10 at BK362 HB hHeld ⊢
   refine py 0 (some 3) #[true, false, false, false, false, false, false, false, false, false, false, false, false, false] HT_ ?_
   refine py 3 (some 6) #[true, false, false, true, false, false, false, false, false, false, false, false, false, false] HT_ ?_
   refine take_ (i := 1) (N := some 4) (v := ?_) (a' := ?_) #[true, true, false, true, false, false, false, false, false, false, false, false, false, false] rfl rfl (take_ofW HT_.out HW_.out (by kernel_rfl)) (fun _ _ _ h => h) (Or.inl ⟨by rfl, ?_⟩) hHeld ?_ ?_
   rotate_left
   ·rintro w' ⟨s0, s1, s2⟩
    go_simp
    with_reducible rfl
   rotate_left
   ·simp only [Act.put, List.setIfInBounds_toArray, List.set_cons_zero, List.set_cons_succ, i64_w, i32_w]
    rfl
   refine take_ (i := 4) (N := some 7) (v := ?_) (a' := ?_) #[true, true, false, true, true, false, false, false, false, false, false, false, false, false] rfl rfl (take_ofW HT_.out HW_.out (by kernel_rfl)) (fun _ _ _ h => h) (Or.inl ⟨by rfl, ?_⟩) hHeld ?_ ?_
   rotate_left
   ·rintro w' ⟨s0, s1, s2⟩
    go_simp
    with_reducible rfl
   rotate_left
   ·simp only [Act.put, List.setIfInBounds_toArray, List.set_cons_zero, List.set_cons_succ, i64_w, i32_w]
    rfl
   refine one_ (i := 2) (N := some 5) #[true, true, true, true, true, false, false, false, false, false, false, false, false, false] rfl rfl (one_of HT_.out (by kernel_rfl)) (by decide) (fun K hK => ?_)
   refine gs Tryz.func107 #[.string a0_1] ?_
   with_reducible refine (natural_Normalize.calls k a0_1 t363 _ A4.out).mono ?_
   rintro e w11 ⟨rfl, hb⟩
   refine ⟨_, rfl, ?_⟩
   replace BK362 := Aside0.mk (bk0 BK362.out hb)
   replace HB := Aside0.mk (bs HB.out hb)
   (try clear hb)
   refine hK.out _ _ ⟨(blk_cell BK362.out 0).trans rfl, (blk_cell BK362.out 1).trans rfl, (blk_cell BK362.out 2).trans rfl⟩ (fun hHeld => ?_)
   clear hK K
   refine nm ?_
   refine py 5 (some 8) #[true, true, true, true, true, true, false, false, false, false, false, false, false, false] HT_ ?_
   refine py 6 (some 9) #[true, true, true, true, true, true, true, false, false, false, false, false, false, false] HT_ ?_
   refine pu 7 (some 10) #[true, true, true, true, true, true, true, true, false, false, false, false, false, false] HT_ ?_
   refine pu 8 (some 11) #[true, true, true, true, true, true, true, true, true, false, false, false, false, false] HT_ ?_
   refine pu 9 (some 12) #[true, true, true, true, true, true, true, true, true, true, false, false, false, false] HT_ ?_
   refine pu 10 (some 13) #[true, true, true, true, true, true, true, true, true, true, true, false, false, false] HT_ ?_
   refine pu 11 (some 14) #[true, true, true, true, true, true, true, true, true, true, true, true, false, false] HT_ ?_
   refine pu 12 (some 15) #[true, true, true, true, true, true, true, true, true, true, true, true, true, false] HT_ ?_
   refine py 13 (some 16) #[true, true, true, true, true, true, true, true, true, true, true, true, true, true] HT_ ?_
   refine done_ (done_of HT_.out (by kernel_rfl)) ?_
   try go_wp2
   go_meet
   case rel => exact ⟨_, (true), fs, H', ⟨by first | omega | exact Nat.le_refl _⟩, ⟨bq BK362.out⟩, ⟨bz HB.out⟩⟩
 case rest =>
  clear HC2
  (try clear c5b0); (try clear c5b1)
  obtain ⟨kq, x16_1, rfl, HA, HJ1, BK362, HB⟩ := hcut
  cases kq with
  | zero => exact absurd HA.out (by simp [rational_Valid.j0])
  | succ kj1 =>
   have H := HA.out
   clear HA
   simp only [rational_Valid.j0] at H
   by_cases c12 : x16_1 = true
   ·subst c12
    have H1 : (some false) = some r := by rw [if_pos rfl] at H; exact H
    clear H
    have H := H1
    clear H1
    obtain rfl := Option.some.inj H
    go_wp2
    go_ret
    exact ⟨fe, bz HB.out⟩
   ·replace c12 := Bool.eq_false_iff.mpr c12
    subst c12
    have H1 : (if a0_1.toList = ([] : List UInt8) then (if a0_0 = true then (some false) else (some (a0_2.toList == ([] : List UInt8)))) else (if a0_2.toList = ([] : List UInt8) then (some true) else (if a0_2.toList = ([1] : List UInt8) then (some false) else ((natural_GCD.f kj1 a0_1 a0_2).bind fun t365 => (some (t365.toList == ([1] : List UInt8))))))) = some r := by rw [if_neg (show ¬ (false = true) by decide)] at H; exact H
    clear H
    have H := H1
    clear H1
    by_cases c13 : a0_1.toList = ([] : List UInt8)
    ·rw [if_pos c13] at H
     have c13b0 := beq_iff_eq.mpr c13
     have c13b1 := bne_eq_false_iff_eq.mpr c13
     clear c13
     by_cases c14 : a0_0 = true
     ·subst c14
      have H1 : (some false) = some r := by rw [if_pos rfl] at H; exact H
      clear H
      have H := H1
      clear H1
      obtain rfl := Option.some.inj H
      obtain ⟨hcz15_0, hcz15_1, hcz15_2, hfz15_0, hfz15_1, hfz15_2⟩ := cz BK362.out
      go_wp2
      go_ret
      exact ⟨fe, bz HB.out⟩
     ·replace c14 := Bool.eq_false_iff.mpr c14
      subst c14
      have H1 : (some (a0_2.toList == ([] : List UInt8))) = some r := by rw [if_neg (show ¬ (false = true) by decide)] at H; exact H
      clear H
      have H := H1
      clear H1
      obtain rfl := Option.some.inj H
      obtain ⟨hcz16_0, hcz16_1, hcz16_2, hfz16_0, hfz16_1, hfz16_2⟩ := cz BK362.out
      go_wp2
      go_ret
      exact ⟨fe, bz HB.out⟩
    ·rw [if_neg c13] at H
     have c13b0 := beq_eq_false_iff_ne.mpr c13
     have c13b1 := bne_iff_ne.mpr c13
     by_cases c17 : a0_2.toList = ([] : List UInt8)
     ·rw [if_pos c17] at H
      have c17b0 := beq_iff_eq.mpr c17
      have c17b1 := bne_eq_false_iff_eq.mpr c17
      clear c17
      obtain rfl := Option.some.inj H
      obtain ⟨hcz18_0, hcz18_1, hcz18_2, hfz18_0, hfz18_1, hfz18_2⟩ := cz BK362.out
      go_wp2
      go_ret
      exact ⟨fe, bz HB.out⟩
     ·rw [if_neg c17] at H
      have c17b0 := beq_eq_false_iff_ne.mpr c17
      have c17b1 := bne_iff_ne.mpr c17
      by_cases c19 : a0_2.toList = ([1] : List UInt8)
      ·rw [if_pos c19] at H
       have c19b0 := beq_iff_eq.mpr c19
       have c19b1 := bne_eq_false_iff_eq.mpr c19
       clear c19
       obtain rfl := Option.some.inj H
       obtain ⟨hcz20_0, hcz20_1, hcz20_2, hfz20_0, hfz20_1, hfz20_2⟩ := cz BK362.out
       go_wp2
       go_ret
       exact ⟨fe, bz HB.out⟩
      ·rw [if_neg c19] at H
       have c19b0 := beq_eq_false_iff_ne.mpr c19
       have c19b1 := bne_iff_ne.mpr c19
       obtain ⟨t365, A21, H⟩ := bs1 H
       obtain rfl := Option.some.inj H
       obtain ⟨hcz22_0, hcz22_1, hcz22_2, hfz22_0, hfz22_1, hfz22_2⟩ := cz BK362.out
       go_wp2_with (first | (go_at_call 108; (with_reducible refine (natural_GCD.calls kj1 a0_1 a0_2 t365 _ A21.out).mono ?_); rintro e w23 ⟨rfl, hb⟩; replace BK362 := Aside0.mk (bk0 BK362.out hb); replace HB := Aside0.mk (bs HB.out hb); (try clear hb)))
       go_ret
       exact ⟨fe, bz HB.out⟩

/-! ### rational_clean: function 73 -/
def rational_clean.f (k : Nat) (a0_0 : Bool) (a0_1 : ByteArray) (a0_2 : ByteArray) : Option (Bool × ByteArray × ByteArray) := (rational_Valid.f k a0_0 a0_1 a0_2).bind fun t368 => (if t368 = true then (some (a0_0, a0_1, a0_2)) else (some (false, (⟨#[]⟩ : ByteArray), (⟨#[]⟩ : ByteArray))))
set_option maxHeartbeats 8000000 in
set_option maxRecDepth 100000 in
theorem rational_clean.calls (k : Nat) (a0_0 : Bool) (a0_1 : ByteArray) (a0_2 : ByteArray) (r1 : Bool) (r2 : ByteArray) (r3 : ByteArray) (w : World) (h : rational_clean.f k a0_0 a0_1 a0_2 = some (r1, r2, r3)) :
  Calls Tryz.prog 73 #[.agg #[.bool a0_0, .string a0_1, .string a0_2]] w fun e w' => e = .returned (.agg #[.bool r1, .string r2, .string r3]) ∧ Below w.heap.size w w' := by
 have hu24 := Tryz.underlying24
 have HB := Aside0.mk (Below.refl w.heap.size w)
 have H := h
 clear h
 unfold rational_clean.f at H
 obtain ⟨t368, A2, H⟩ := bs1 H
 by_cases c3 : t368 = true
 ·subst c3
  have H1 : (some (a0_0, a0_1, a0_2)) = some (r1, r2, r3) := by rw [if_pos rfl] at H; exact H
  clear H
  have H := H1
  clear H1
  simp only [Option.some.injEq, Prod.mk.injEq] at H
  obtain ⟨rfl, rfl, rfl⟩ := H
  go_enter Tryz.func73, Tryz.ntmps73
  go_wp2_with (first | ((with_reducible refine gd 1 rfl ?_); refine bx 1 (#[.bool a0_0, .string a0_1, .string a0_2]) 24 ?_; intro gb366 hg w4 hbox hb; have BK366 := Aside0.mk (hbox); have GW366 := sg hg HB.out; have GE366 := sg hg HB.out; replace HB := Aside0.mk (bs HB.out hb); clear hb hbox hg) | ((with_reducible refine gd 2 rfl ?_); refine bx 2 (#[.bool false, .string (⟨#[]⟩ : ByteArray), .string (⟨#[]⟩ : ByteArray)]) 24 ?_; intro gb367 hg w5 hbox hb; have BK367 := Aside0.mk (hbox); have GW367 := sg hg HB.out; have GE367 := sg hg HB.out; replace HB := Aside0.mk (bs HB.out hb); have NB366_367 := nl hg BK366.out; have NB367_366 := nr hg BK366.out; replace BK366 := Aside0.mk (bk0 BK366.out hb); clear hb hbox hg; have hnb6 := NB366_367.out; have hnc6 := NB367_366.out; obtain ⟨hcz7_0, hcz7_1, hcz7_2, hfz7_0, hfz7_1, hfz7_2⟩ := cz BK366.out) | ((with_reducible refine gc 115 rfl ?_); refine gl (some 4) Tryz.func115 #[.agg #[.bool a0_0, .string a0_1, .string a0_2]] ?_; (with_reducible refine (rational_Valid.calls k a0_0 a0_1 a0_2 true _ A2.out).mono ?_); rintro e w8 ⟨rfl, hb⟩; refine ⟨_, rfl, ?_⟩; replace BK366 := Aside0.mk (bk0 BK366.out hb); replace BK367 := Aside0.mk (bk0 BK367.out hb); replace HB := Aside0.mk (bs HB.out hb); (try clear hb); obtain ⟨hcz9_0, hcz9_1, hcz9_2, hfz9_0, hfz9_1, hfz9_2⟩ := cz BK366.out; obtain ⟨hcz10_0, hcz10_1, hcz10_2, hfz10_0, hfz10_1, hfz10_2⟩ := cz BK367.out))
  refine bodyPost_ret (results_cell_row rfl _ _ gb367 24 #[.bool a0_0, .string a0_1, .string a0_2] (0, 0) _ rfl (bq BK367.out) Tryz.underlying24 rfl (by kernel_rfl)) rfl ?_
  exact ⟨fe, bz HB.out⟩
 ·replace c3 := Bool.eq_false_iff.mpr c3
  subst c3
  have H1 : (some (false, (⟨#[]⟩ : ByteArray), (⟨#[]⟩ : ByteArray))) = some (r1, r2, r3) := by rw [if_neg (show ¬ (false = true) by decide)] at H; exact H
  clear H
  have H := H1
  clear H1
  simp only [Option.some.injEq, Prod.mk.injEq] at H
  obtain ⟨rfl, rfl, rfl⟩ := H
  go_enter Tryz.func73, Tryz.ntmps73
  go_wp2_with (first | ((with_reducible refine gd 1 rfl ?_); refine bx 1 (#[.bool a0_0, .string a0_1, .string a0_2]) 24 ?_; intro gb366 hg w11 hbox hb; have BK366 := Aside0.mk (hbox); have GW366 := sg hg HB.out; have GE366 := sg hg HB.out; replace HB := Aside0.mk (bs HB.out hb); clear hb hbox hg) | ((with_reducible refine gd 2 rfl ?_); refine bx 2 (#[.bool false, .string (⟨#[]⟩ : ByteArray), .string (⟨#[]⟩ : ByteArray)]) 24 ?_; intro gb367 hg w12 hbox hb; have BK367 := Aside0.mk (hbox); have GW367 := sg hg HB.out; have GE367 := sg hg HB.out; replace HB := Aside0.mk (bs HB.out hb); have NB366_367 := nl hg BK366.out; have NB367_366 := nr hg BK366.out; replace BK366 := Aside0.mk (bk0 BK366.out hb); clear hb hbox hg; have hnb13 := NB366_367.out; have hnc13 := NB367_366.out; obtain ⟨hcz14_0, hcz14_1, hcz14_2, hfz14_0, hfz14_1, hfz14_2⟩ := cz BK366.out) | ((with_reducible refine gc 115 rfl ?_); refine gl (some 4) Tryz.func115 #[.agg #[.bool a0_0, .string a0_1, .string a0_2]] ?_; (with_reducible refine (rational_Valid.calls k a0_0 a0_1 a0_2 false _ A2.out).mono ?_); rintro e w15 ⟨rfl, hb⟩; refine ⟨_, rfl, ?_⟩; replace BK366 := Aside0.mk (bk0 BK366.out hb); replace BK367 := Aside0.mk (bk0 BK367.out hb); replace HB := Aside0.mk (bs HB.out hb); (try clear hb); obtain ⟨hcz16_0, hcz16_1, hcz16_2, hfz16_0, hfz16_1, hfz16_2⟩ := cz BK367.out))
  refine bodyPost_ret (results_cell_row rfl _ _ gb367 24 #[.bool false, .string (⟨#[]⟩ : ByteArray), .string (⟨#[]⟩ : ByteArray)] (0, 0) _ rfl (bq BK367.out) Tryz.underlying24 rfl (by kernel_rfl)) rfl ?_
  exact ⟨fe, bz HB.out⟩
end Go.Proofs.YtgepdnoaemeofaaGreatDoor.A
