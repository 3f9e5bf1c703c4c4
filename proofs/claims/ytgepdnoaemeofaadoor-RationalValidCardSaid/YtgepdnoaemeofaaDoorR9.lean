/- Printed by a program of this session (wip/tools) out of the translation: plain functions and the proofs that the code comes to their answers. -/
import Derived.Test.YtgepdnoaemeofaaDoorK
import Derived.Test.YtgepdnoaemeofaaDoorR0
import Derived.Test.YtgepdnoaemeofaaDoorR3
import Derived.Test.YtgepdnoaemeofaaDoorR4
import Derived.Test.YtgepdnoaemeofaaDoorR7
import Derived.Test.YtgepdnoaemeofaaDoorR8
namespace Go.Proofs.YtgepdnoaemeofaaDoor.R
open Go.RowKit Go.Proofs.YtgepdnoaemeofaaDoorW.PrintWords Go.Proofs.YtgepdnoaemeofaaDoorW.PrintLast Go.Proofs.YtgepdnoaemeofaaDoorW.PrintMore Go.Proofs.YtgepdnoaemeofaaDoorW.PK
attribute [local go_sem] max2_int min2_int max_two min_two max_three min_three max_four min_four   -- for this text's walks alone
set_option linter.unusedVariables false
set_option linter.unusedSimpArgs false

/-! ### rational_tenTo: function 47 -/
def rational_tenTo.l0 : Nat → ByteArray → ByteArray → Int → Int → Option (ByteArray)
 | 0, _, _, _, _ => none
 | k + 1, x3, x4, x7, x8 => if x8 < x7 then ((natural_Multiply.f k x3 x4).bind fun t309 => (rational_tenTo.l0 k t309 x4 x7 (wrap64 (x8 + 1)))) else (some x3)
def rational_tenTo.f (k : Nat) (a0 : Int) : Option (ByteArray) := (natural_FromUint.f k 1).bind fun t307 => ((natural_FromUint.f k 10).bind fun t308 => (rational_tenTo.l0 k t307 t308 a0 0))
theorem rational_tenTo.mono_l : ∀ k, (∀ y0 y1 y2 y3, LeO (rational_tenTo.l0 k y0 y1 y2 y3) (rational_tenTo.l0 (k + 1) y0 y1 y2 y3))
 | 0 => fun _ _ _ _ r h => by simp [rational_tenTo.l0] at h
 | k + 1 => by
  have ih0 := rational_tenTo.mono_l k
  ·intro y0 y1 y2 y3
   unfold rational_tenTo.l0
   repeat' with_reducible first | exact ih0 _ _ _ _ | exact natural_FromUint.mono _ _ | exact natural_Multiply.mono _ _ _ | exact LeO.refl _ | exact LeO.none _ | refine LeO.ite ?_ ?_ | refine LeO.bind ?_ (fun _ => ?_)
theorem rational_tenTo.mono : ∀ a0 k, LeO (rational_tenTo.f k a0) (rational_tenTo.f (k + 1) a0) := by
 intro a0 k
 have ih0 := rational_tenTo.mono_l k
 unfold rational_tenTo.f
 repeat' with_reducible first | exact ih0 _ _ _ _ | exact natural_FromUint.mono _ _ | exact natural_Multiply.mono _ _ _ | exact LeO.refl _ | exact LeO.none _ | refine LeO.ite ?_ ?_ | refine LeO.bind ?_ (fun _ => ?_)
set_option maxHeartbeats 8000000 in
set_option maxRecDepth 100000 in
theorem rational_tenTo.calls (k : Nat) (a0 : Int) (r : ByteArray) (w : World) (h : rational_tenTo.f k a0 = some r) :
  Calls Tryd.prog 47 #[.int .i64 a0] w fun e w' => e = .returned (.string r) ∧ Below w.heap.size w w' := by
 have HB := Aside0.mk (Below.refl w.heap.size w)
 have H := h
 clear h
 unfold rational_tenTo.f at H
 obtain ⟨t307, A2, H⟩ := bs1 H
 obtain ⟨t308, A3, H⟩ := bs1 H
 have H' := Aside0.mk H
 clear H
 go_enter Tryd.func47, Tryd.ntmps47
 go_wp2_with (first | ((with_reducible refine gc 60 rfl ?_); refine gl (some 5) Tryd.func60 #[.int .u64 1] ?_; (with_reducible refine (natural_FromUint.calls k 1 t307 _ A2.out).mono ?_); rintro e w4 ⟨rfl, hb⟩; refine ⟨_, rfl, ?_⟩; replace HB := Aside0.mk (bs HB.out hb); (try clear hb)) | ((with_reducible refine gc 60 rfl ?_); refine gl (some 6) Tryd.func60 #[.int .u64 10] ?_; (with_reducible refine (natural_FromUint.calls k 10 t308 _ A3.out).mono ?_); rintro e w5 ⟨rfl, hb⟩; refine ⟨_, rfl, ?_⟩; replace HB := Aside0.mk (bs HB.out hb); (try clear hb)))
 go_loopg [3, 8] k (fun kq v3 v8 w' => ∃ (x3_1 : ByteArray) (x8_1 : Int), v3 = .string x3_1 ∧ v8 = .int .i64 x8_1 ∧ Aside0 (rational_tenTo.l0 kq x3_1 t308 a0 x8_1 = some r) ∧ Aside0 (kq ≤ k) ∧ Aside0 (Below w.heap.size w w'))
 case atStart => exact ⟨(t307), (0), fs, fs, H', ⟨Nat.le_refl _⟩, ⟨bz HB.out⟩⟩
 case round =>
  clear H'
  obtain ⟨x3_1, x8_1, rfl, rfl, HA, HK1, HB⟩ := hrel
  cases gk with
  | zero => exact absurd HA.out (by simp [rational_tenTo.l0])
  | succ k1 =>
   have H := HA.out
   clear HA
   simp only [rational_tenTo.l0] at H
   by_cases c6 : x8_1 < a0
   ·rw [if_pos c6] at H
    have c6b0 : decide (x8_1 < a0) = true := decide_eq_true c6
    clear c6
    obtain ⟨t309, A7, H⟩ := bs1 H
    have H' := Aside0.mk H
    clear H
    go_wp2_with (first | ((with_reducible refine gc 40 rfl ?_); refine gl (some 12) Tryd.func40 #[.string x3_1, .string t308] ?_; (with_reducible refine (natural_Multiply.calls k1 x3_1 t308 t309 _ A7.out).mono ?_); rintro e w8 ⟨rfl, hb⟩; refine ⟨_, rfl, ?_⟩; replace HB := Aside0.mk (bs HB.out hb); (try clear hb)))
    go_roundg k1
    case measure => have := HK1.out; omega
    case rel => exact ⟨(t309), (wrap64 (x8_1 + 1)), fs, fs, H', ⟨by have := HK1.out; omega⟩, ⟨bz HB.out⟩⟩
   ·rw [if_neg c6] at H
    have c6b0 : decide (x8_1 < a0) = false := decide_eq_false c6
    clear c6
    obtain rfl := Option.some.inj H
    go_wp2
    go_ret
    exact ⟨fe, bz HB.out⟩

/-! ### natural_Add: function 48 -/
def natural_Add.l0 : Nat → List Int → List Int → List Int → Int → Int → Int → Option (ByteArray)
 | 0, _, _, _, _, _, _ => none
 | k + 1, x5, x6, x7, x8, x27, x28 => if x28 < x27 then (if x28 < (x6.length : Int) then (if 0 ≤ x28 then (if x28 < (x5.length : Int) then ((bits_Add32.f (rd x5 x28) (rd x6 x28) x8).bind fun bt321 => (if x28 < (x7.length : Int) then (natural_Add.l0 k x5 x6 (x7.set (x28 : Int).toNat bt321.1) bt321.2 x27 (wrap64 (x28 + 1))) else (none))) else (none)) else (none)) else (if 0 ≤ x28 then (if x28 < (x5.length : Int) then ((bits_Add32.f (rd x5 x28) 0 x8).bind fun bt325 => (if x28 < (x7.length : Int) then (natural_Add.l0 k x5 x6 (x7.set (x28 : Int).toNat bt325.1) bt325.2 x27 (wrap64 (x28 + 1))) else (none))) else (none)) else (none))) else (if 0 ≤ (x5.length : Int) then (if (x5.length : Int) < (x7.length : Int) then ((natural_limbs_text.f k (x7.set ((x5.length : Int) : Int).toNat x8)).bind fun t329 => (some t329)) else (none)) else (none))
def natural_Add.f (k : Nat) (a0 : ByteArray) (a1 : ByteArray) : Option (ByteArray) := (natural_parse.f k a0).bind fun t310 => ((natural_parse.f k a1).bind fun t313 => (if (t310.length : Int) < (t313.length : Int) then (if 0 ≤ (wrap64 ((t313.length : Int) + 1)) then (if (wrap64 ((t313.length : Int) + 1) : Int).toNat ≤ 70368744177664 then (natural_Add.l0 k t313 t310 (List.replicate (wrap64 ((t313.length : Int) + 1) : Int).toNat 0) 0 (t313.length : Int) 0) else (none)) else (none)) else (if 0 ≤ (wrap64 ((t310.length : Int) + 1)) then (if (wrap64 ((t310.length : Int) + 1) : Int).toNat ≤ 70368744177664 then (natural_Add.l0 k t310 t313 (List.replicate (wrap64 ((t310.length : Int) + 1) : Int).toNat 0) 0 (t310.length : Int) 0) else (none)) else (none))))
theorem natural_Add.mono_l : ∀ k, (∀ y0 y1 y2 y3 y4 y5, LeO (natural_Add.l0 k y0 y1 y2 y3 y4 y5) (natural_Add.l0 (k + 1) y0 y1 y2 y3 y4 y5))
 | 0 => fun _ _ _ _ _ _ r h => by simp [natural_Add.l0] at h
 | k + 1 => by
  have ih0 := natural_Add.mono_l k
  ·intro y0 y1 y2 y3 y4 y5
   unfold natural_Add.l0
   repeat' with_reducible first | exact ih0 _ _ _ _ _ _ | exact natural_limbs_text.mono _ _ | exact natural_parse.mono _ _ | exact LeO.refl _ | exact LeO.none _ | refine LeO.ite ?_ ?_ | refine LeO.bind ?_ (fun _ => ?_)
theorem natural_Add.mono : ∀ a0 a1 k, LeO (natural_Add.f k a0 a1) (natural_Add.f (k + 1) a0 a1) := by
 intro a0 a1 k
 have ih0 := natural_Add.mono_l k
 unfold natural_Add.f
 repeat' with_reducible first | exact ih0 _ _ _ _ _ _ | exact natural_limbs_text.mono _ _ | exact natural_parse.mono _ _ | exact LeO.refl _ | exact LeO.none _ | refine LeO.ite ?_ ?_ | refine LeO.bind ?_ (fun _ => ?_)
set_option maxHeartbeats 8000000 in
set_option maxRecDepth 100000 in
theorem natural_Add.calls (k : Nat) (a0 : ByteArray) (a1 : ByteArray) (r : ByteArray) (w : World) (h : natural_Add.f k a0 a1 = some r) :
  Calls Tryd.prog 48 #[.string a0, .string a1] w fun e w' => e = .returned (.string r) ∧ Below w.heap.size w w' := by
 have HB := Aside0.mk (Below.refl w.heap.size w)
 have H := h
 clear h
 unfold natural_Add.f at H
 obtain ⟨t310, A3, H⟩ := bs1 H
 obtain ⟨t313, A4, H⟩ := bs1 H
 by_cases c5 : (t310.length : Int) < (t313.length : Int)
 ·rw [if_pos c5] at H
  have c5b0 : decide ((t310.length : Int) < (t313.length : Int)) = true := decide_eq_true c5
  have c5b1 : decide (t310.length < t313.length) = true := decide_eq_true (Int.ofNat_lt.mp c5)
  clear c5
  obtain ⟨ji6, hji6⟩ : ∃ j_ : Int, (wrap64 ((t313.length : Int) + 1)) = j_ := ⟨_, rfl⟩
  first | rw [hji6] at H | simp only [hji6] at H
  (try rw [hji6] at A3)
  (try rw [hji6] at A4)
  have hji6w : (IntKind.i64.wrap ((t313.length : Int) + 1)) = ji6 := (i64_w _).trans hji6
  obtain ⟨c7, H⟩ := iN H
  have c7b0 := eq_true c7
  have c7b1 : decide (0 ≤ (ji6)) = true := decide_eq_true c7
  clear c7
  obtain ⟨c8, H⟩ := iN H
  have c8b0 := eq_true c8
  have c8b1 : decide ((ji6 : Int).toNat ≤ 70368744177664) = true := decide_eq_true c8
  clear c8
  obtain ⟨y316, hy316⟩ : ∃ y_ : List Int, y_ = (List.replicate (ji6 : Int).toNat 0) := ⟨_, rfl⟩
  (try first | rw [← hy316] at H | (dsimp only at H; rw [← hy316] at H)); (try rw [Option.bind_some] at H)
  have Ny316 := Aside0.mk hy316
  clear hy316
  have H' := Aside0.mk H
  clear H
  go_enter Tryd.func48, Tryd.ntmps48
  go_wp2_with (first | ((with_reducible refine gc 54 rfl ?_); refine gl (some 12) Tryd.func54 #[.string a0] ?_; (with_reducible refine (natural_parse.calls k a0 t310 _ A3.out).mono ?_); rintro e w9 ⟨v311, rfl, ho0, hb⟩; refine ⟨_, rfl, ?_⟩; have HO312 := Aside0.mk (Kd.V_lower (Kd.V_mono (ok' := fun k_ => True) ho0 (fun k_ hk_ => trivial)) (sz HB.out)); replace HB := Aside0.mk (bs HB.out hb); (try clear hb ho0)) | ((with_reducible refine gc 54 rfl ?_); refine gl (some 14) Tryd.func54 #[.string a1] ?_; (with_reducible refine (natural_parse.calls k a1 t313 _ A4.out).mono ?_); rintro e w10 ⟨v314, rfl, ho0, hb⟩; refine ⟨_, rfl, ?_⟩; replace HO312 := Aside0.mk (vb HO312.out hb); have HO315 := Aside0.mk (Kd.V_lower (Kd.V_mono (ok' := fun k_ => True) ho0 (fun k_ hk_ => trivial)) (sz HB.out)); replace HB := Aside0.mk (bs HB.out hb); (try clear hb ho0); obtain ⟨Ao11, co11, rfl⟩ := Kd.V_slice HO312.out; obtain ⟨Ao12, co12, rfl⟩ := Kd.V_slice HO315.out) | ((with_reducible refine gd 25 rfl ?_); refine Kd.R_make (Kd.int .u32) _ 72 rfl (N := 25) rfl 65 _ _ rfl ji6 rfl rfl Tryd.underlying65 (.int .u32 0) 4 info72 rfl (by decide) (by omega) 0 (ok := fun _ => True) (okp := fun _ => True) rfl (fun _ hk => hk) trivial oa (Nat.le_trans (Nat.mul_le_mul_right _ (oa : ji6.toNat ≤ 70368744177664)) (by omega)) (Below.refl _ _) (Nat.le_refl _) ?_; intro v317 w13 ho14 hb hg_ hnew_; clear hg_ hnew_; (first | rw [← Ny316.out] at ho14 | (simp only [Int.reduceToNat] at ho14; rw [← Ny316.out] at ho14)); replace HO312 := Aside0.mk (Kd.V_elder' (vs HO312.out) (Kd.R_base ho14) hb); replace HO315 := Aside0.mk (Kd.V_elder' (vs HO315.out) (Kd.R_base ho14) hb); have HO318 := Aside0.mk (Kd.R_lower ho14 (sz HB.out)); replace HB := Aside0.mk (bs HB.out hb); clear hb ho14))
  go_loopg [8, 28] k (fun kq v8 v28 w' => ∃ (x7_1 : List Int) (x8_1 : Int) (x28_1 : Int), v8 = .int .u32 x8_1 ∧ v28 = .int .i64 x28_1 ∧ Aside0 (natural_Add.l0 kq t313 t310 x7_1 x8_1 (t313.length : Int) x28_1 = some r) ∧ Aside0 (kq ≤ k) ∧ Aside0 (Kd.V (Kd.int .u32) 72 w' w.heap.size (fun k_ => some k_ ≠ (v317 : Value).ownBlock) (.slice Ao12 t313.length co12) t313) ∧ Aside0 (Kd.V (Kd.int .u32) 72 w' w.heap.size (fun k_ => some k_ ≠ (v317 : Value).ownBlock) (.slice Ao11 t310.length co11) t310) ∧ Aside0 (Kd.R (Kd.int .u32) 72 w' w.heap.size (fun _ => True) v317 x7_1) ∧ Aside0 (Below w.heap.size w w'))
  case atStart => exact ⟨(y316), (0), (0), fs, fs, H', ⟨Nat.le_refl _⟩, ⟨vm HO315.out (fun _ hk => hk.2)⟩, ⟨vm HO312.out (fun _ hk => hk.2)⟩, ⟨vs HO318.out⟩, ⟨bz HB.out⟩⟩
  case round =>
   clear H'
   (try clear c5b0); (try clear c5b1); (try clear c7b0); (try clear c7b1); (try clear c8b0); (try clear c8b1)
   obtain ⟨x7_1, x8_1, x28_1, rfl, rfl, HA, HK1, HO_5, HO_6, HO_7, HB⟩ := hrel
   cases gk with
   | zero => exact absurd HA.out (by simp [natural_Add.l0])
   | succ k1 =>
    have H := HA.out
    clear HA
    simp only [natural_Add.l0] at H
    by_cases c15 : x28_1 < (t313.length : Int)
    ·rw [if_pos c15] at H
     have c15b0 : decide (x28_1 < (t313.length : Int)) = true := decide_eq_true c15
     clear c15
     by_cases c16 : x28_1 < (t310.length : Int)
     ·rw [if_pos c16] at H
      have c16b0 : decide (x28_1 < (t310.length : Int)) = true := decide_eq_true c16
      clear c16
      obtain ⟨c17, H⟩ := iN H
      have c17b0 : decide (0 ≤ x28_1) = true := decide_eq_true c17
      clear c17
      obtain ⟨c18, H⟩ := iN H
      have c18b0 : decide (x28_1 < (t313.length : Int)) = true := decide_eq_true c18
      clear c18
      obtain ⟨⟨t321, t322⟩, A19, H⟩ := bs1 H; dsimp only at H
      obtain ⟨c20, H⟩ := iN H
      have c20b0 : decide (x28_1 < (x7_1.length : Int)) = true := decide_eq_true c20
      clear c20
      obtain ⟨y323, hy323⟩ : ∃ y_ : List Int, y_ = (x7_1.set (x28_1 : Int).toNat t321) := ⟨_, rfl⟩
      (try first | rw [← hy323] at H | (dsimp only at H; rw [← hy323] at H)); (try rw [Option.bind_some] at H)
      have Ny323 := Aside0.mk hy323
      clear hy323
      have H' := Aside0.mk H
      clear H
      have p319 : 0 ≤ (x28_1 : Int) := oa
      have q319 : x28_1 < (t310.length : Int) := oa
      obtain ⟨ad319, e319, hx319_0⟩ := Kd.at_int (Kd.V_reads' HO_6.out).2.2 x28_1 p319 q319
      cases e319
      replace p319 := eq_true p319
      replace q319 := eq_true q319
      have p320 : 0 ≤ (x28_1 : Int) := oa
      have q320 : x28_1 < (t313.length : Int) := oa
      obtain ⟨ad320, e320, hx320_0⟩ := Kd.at_int (Kd.V_reads' HO_5.out).2.2 x28_1 p320 q320
      cases e320
      replace p320 := eq_true p320
      replace q320 := eq_true q320
      go_wp2_with (first | ((with_reducible refine gc 66 rfl ?_); refine gl (some 48) Tryd.func66 #[.int .u32 (rd t313 x28_1), .int .u32 (rd t310 x28_1), .int .u32 x8_1] ?_; (with_reducible refine (bits_Add32.calls (rd t313 x28_1) (rd t310 x28_1) x8_1 t321 t322 _ A19.out).mono ?_); rintro e w' ⟨rfl, ⟨nd, rfl⟩⟩; refine ⟨_, rfl, ?_⟩; (try (rw [drewN_self wr]; generalize hq_ : World.drewN wr _ = wr; have n0_ : Aside0 (Kd.V (Kd.int .u32) 72 wr w.heap.size (fun k_ => some k_ ≠ (v317 : Value).ownBlock) (.slice (some ad320) t313.length co12) t313) := ⟨by rw [← hq_]; exact (vs HO_5.out)⟩; have n1_ : Aside0 (Kd.V (Kd.int .u32) 72 wr w.heap.size (fun k_ => some k_ ≠ (v317 : Value).ownBlock) (.slice (some ad319) t310.length co11) t310) := ⟨by rw [← hq_]; exact (vs HO_6.out)⟩; have n2_ : Aside0 (Kd.R (Kd.int .u32) 72 wr w.heap.size (fun _ => True) v317 x7_1) := ⟨by rw [← hq_]; exact (vs HO_7.out)⟩; have n3_ : Aside0 (Below w.heap.size w wr) := ⟨by rw [← hq_]; exact (bz HB.out)⟩; clear HO_5 HO_6 HO_7 HB hq_; have HO_5 := n0_; have HO_6 := n1_; have HO_7 := n2_; have HB := n3_; clear n0_ n1_ n2_ n3_)); have p21 : 0 ≤ (x28_1 : Int) := oa; have q21 : (x28_1 : Int) < ((x7_1.length : Int) : Int) := oa; obtain ⟨go21, co21, eo21, gb21, gl21, cl21, HG21⟩ := Kd.R_form HO_7.out (by omega); (first | cases eo21 | (injection eo21 with ea_ en_ ec_; (first | subst ea_ | (injection ea_ with ea_; subst ea_)); subst ec_; clear en_)); have GB21 := Aside0.mk gb21; have GG21 := Aside0.mk HG21; clear gb21 gl21 HG21; obtain ⟨hx21_0, hf21_0⟩ := Kd.R_celln 0 HO_7.out (x28_1 : Int) p21 q21; replace p21 := eq_true p21; replace q21 := eq_true q21; obtain ⟨hy22_, hz22_⟩ := Kd.R_celln 0 HO_7.out (x28_1 : Int) oa oa; have HP22 := Kd.R_putg HO_7.out (x28_1 : Int) t321) | ((with_reducible refine gate_store (t := 72) (p := 51) rfl ?_); refine se 72 51 (w1 := (wr.setCell ⟨go21, (x28_1 : Int).toNat, none⟩ (.int .u32 t321))) ?_; intro w23 hw; have hg : wr.grownBy w23 (some go21) := (by rw [hw]; exact HP22.2); have hp_ : Kd.R (Kd.int .u32) 72 w23 w.heap.size (fun _ => True) (.slice (some ⟨go21, 0, none⟩) x7_1.length co21) y323 := (by rw [hw, Ny323.out]; exact HP22.1); clear HP22; replace HO_5 := Aside0.mk (Kd.V_afterv (v := (.slice (some ⟨go21, 0, none⟩) x7_1.length co21)) (v1 := (.slice (some ⟨go21, 0, none⟩) x7_1.length co21)) (ok := (fun _ => True)) (vm HO_5.out (fun _ hk => ⟨trivial, hk⟩)) hg (.inl rfl)); replace HO_6 := Aside0.mk (Kd.V_afterv (v := (.slice (some ⟨go21, 0, none⟩) x7_1.length co21)) (v1 := (.slice (some ⟨go21, 0, none⟩) x7_1.length co21)) (ok := (fun _ => True)) (vm HO_6.out (fun _ hk => ⟨trivial, hk⟩)) hg (.inl rfl)); replace HO_7 := Aside0.mk (hp_); replace HB := Aside0.mk ((by rw [hw]; exact below_set (HB.out) GB21.out : Below w.heap.size w w23)); clear hg hw hp_))
      go_roundg k1
      case measure => have := HK1.out; omega
      case rel => exact ⟨(y323), (t322), (wrap64 (x28_1 + 1)), fs, fs, H', ⟨by have := HK1.out; omega⟩, ⟨vm HO_5.out (fun _ hk => hk.2)⟩, ⟨vm HO_6.out (fun _ hk => hk.2)⟩, ⟨vs HO_7.out⟩, ⟨bz HB.out⟩⟩
     ·rw [if_neg c16] at H
      have c16b0 : decide (x28_1 < (t310.length : Int)) = false := decide_eq_false c16
      clear c16
      obtain ⟨c24, H⟩ := iN H
      have c24b0 : decide (0 ≤ x28_1) = true := decide_eq_true c24
      clear c24
      obtain ⟨c25, H⟩ := iN H
      have c25b0 : decide (x28_1 < (t313.length : Int)) = true := decide_eq_true c25
      clear c25
      obtain ⟨⟨t325, t326⟩, A26, H⟩ := bs1 H; dsimp only at H
      obtain ⟨c27, H⟩ := iN H
      have c27b0 : decide (x28_1 < (x7_1.length : Int)) = true := decide_eq_true c27
      clear c27
      obtain ⟨y327, hy327⟩ : ∃ y_ : List Int, y_ = (x7_1.set (x28_1 : Int).toNat t325) := ⟨_, rfl⟩
      (try first | rw [← hy327] at H | (dsimp only at H; rw [← hy327] at H)); (try rw [Option.bind_some] at H)
      have Ny327 := Aside0.mk hy327
      clear hy327
      have H' := Aside0.mk H
      clear H
      have p324 : 0 ≤ (x28_1 : Int) := oa
      have q324 : x28_1 < (t313.length : Int) := oa
      obtain ⟨ad324, e324, hx324_0⟩ := Kd.at_int (Kd.V_reads' HO_5.out).2.2 x28_1 p324 q324
      cases e324
      replace p324 := eq_true p324
      replace q324 := eq_true q324
      go_wp2_with (first | ((with_reducible refine gc 66 rfl ?_); refine gl (some 48) Tryd.func66 #[.int .u32 (rd t313 x28_1), .int .u32 0, .int .u32 x8_1] ?_; (with_reducible refine (bits_Add32.calls (rd t313 x28_1) 0 x8_1 t325 t326 _ A26.out).mono ?_); rintro e w' ⟨rfl, ⟨nd, rfl⟩⟩; refine ⟨_, rfl, ?_⟩; (try (rw [drewN_self wr]; generalize hq_ : World.drewN wr _ = wr; have n0_ : Aside0 (Kd.V (Kd.int .u32) 72 wr w.heap.size (fun k_ => some k_ ≠ (v317 : Value).ownBlock) (.slice (some ad324) t313.length co12) t313) := ⟨by rw [← hq_]; exact (vs HO_5.out)⟩; have n1_ : Aside0 (Kd.V (Kd.int .u32) 72 wr w.heap.size (fun k_ => some k_ ≠ (v317 : Value).ownBlock) (.slice Ao11 t310.length co11) t310) := ⟨by rw [← hq_]; exact (vs HO_6.out)⟩; have n2_ : Aside0 (Kd.R (Kd.int .u32) 72 wr w.heap.size (fun _ => True) v317 x7_1) := ⟨by rw [← hq_]; exact (vs HO_7.out)⟩; have n3_ : Aside0 (Below w.heap.size w wr) := ⟨by rw [← hq_]; exact (bz HB.out)⟩; clear HO_5 HO_6 HO_7 HB hq_; have HO_5 := n0_; have HO_6 := n1_; have HO_7 := n2_; have HB := n3_; clear n0_ n1_ n2_ n3_)); have p28 : 0 ≤ (x28_1 : Int) := oa; have q28 : (x28_1 : Int) < ((x7_1.length : Int) : Int) := oa; obtain ⟨go28, co28, eo28, gb28, gl28, cl28, HG28⟩ := Kd.R_form HO_7.out (by omega); (first | cases eo28 | (injection eo28 with ea_ en_ ec_; (first | subst ea_ | (injection ea_ with ea_; subst ea_)); subst ec_; clear en_)); have GB28 := Aside0.mk gb28; have GG28 := Aside0.mk HG28; clear gb28 gl28 HG28; obtain ⟨hx28_0, hf28_0⟩ := Kd.R_celln 0 HO_7.out (x28_1 : Int) p28 q28; replace p28 := eq_true p28; replace q28 := eq_true q28; obtain ⟨hy29_, hz29_⟩ := Kd.R_celln 0 HO_7.out (x28_1 : Int) oa oa; have HP29 := Kd.R_putg HO_7.out (x28_1 : Int) t325) | ((with_reducible refine gate_store (t := 72) (p := 51) rfl ?_); refine se 72 51 (w1 := (wr.setCell ⟨go28, (x28_1 : Int).toNat, none⟩ (.int .u32 t325))) ?_; intro w30 hw; have hg : wr.grownBy w30 (some go28) := (by rw [hw]; exact HP29.2); have hp_ : Kd.R (Kd.int .u32) 72 w30 w.heap.size (fun _ => True) (.slice (some ⟨go28, 0, none⟩) x7_1.length co28) y327 := (by rw [hw, Ny327.out]; exact HP29.1); clear HP29; replace HO_5 := Aside0.mk (Kd.V_afterv (v := (.slice (some ⟨go28, 0, none⟩) x7_1.length co28)) (v1 := (.slice (some ⟨go28, 0, none⟩) x7_1.length co28)) (ok := (fun _ => True)) (vm HO_5.out (fun _ hk => ⟨trivial, hk⟩)) hg (.inl rfl)); replace HO_6 := Aside0.mk (Kd.V_afterv (v := (.slice (some ⟨go28, 0, none⟩) x7_1.length co28)) (v1 := (.slice (some ⟨go28, 0, none⟩) x7_1.length co28)) (ok := (fun _ => True)) (vm HO_6.out (fun _ hk => ⟨trivial, hk⟩)) hg (.inl rfl)); replace HO_7 := Aside0.mk (hp_); replace HB := Aside0.mk ((by rw [hw]; exact below_set (HB.out) GB28.out : Below w.heap.size w w30)); clear hg hw hp_))
      go_roundg k1
      case measure => have := HK1.out; omega
      case rel => exact ⟨(y327), (t326), (wrap64 (x28_1 + 1)), fs, fs, H', ⟨by have := HK1.out; omega⟩, ⟨vm HO_5.out (fun _ hk => hk.2)⟩, ⟨vm HO_6.out (fun _ hk => hk.2)⟩, ⟨vs HO_7.out⟩, ⟨bz HB.out⟩⟩
    ·rw [if_neg c15] at H
     have c15b0 : decide (x28_1 < (t313.length : Int)) = false := decide_eq_false c15
     clear c15
     obtain ⟨c31, H⟩ := iN H
     have c31b0 : decide (0 ≤ (t313.length : Int)) = true := decide_eq_true c31
     have c31b1 : decide (0 ≤ t313.length) = true := decide_eq_true (by omega)
     clear c31
     obtain ⟨c32, H⟩ := iN H
     have c32b0 : decide ((t313.length : Int) < (x7_1.length : Int)) = true := decide_eq_true c32
     have c32b1 : decide (t313.length < x7_1.length) = true := decide_eq_true (Int.ofNat_lt.mp c32)
     clear c32
     obtain ⟨y328, hy328⟩ : ∃ y_ : List Int, y_ = (x7_1.set ((t313.length : Int) : Int).toNat x8_1) := ⟨_, rfl⟩
     (try first | rw [← hy328] at H | (dsimp only at H; rw [← hy328] at H)); (try rw [Option.bind_some] at H)
     have Ny328 := Aside0.mk hy328
     clear hy328
     obtain ⟨t329, A34, H⟩ := bs1 H
     obtain rfl := Option.some.inj H
     have p33 : 0 ≤ ((t313.length : Int) : Int) := oa
     have q33 : ((t313.length : Int) : Int) < ((x7_1.length : Int) : Int) := oa
     obtain ⟨go33, co33, eo33, gb33, gl33, cl33, HG33⟩ := Kd.R_form HO_7.out (by omega)
     (first | cases eo33 | (injection eo33 with ea_ en_ ec_; (first | subst ea_ | (injection ea_ with ea_; subst ea_)); subst ec_; clear en_))
     have GB33 := Aside0.mk gb33
     have GG33 := Aside0.mk HG33
     clear gb33 gl33 HG33
     obtain ⟨hx33_0, hf33_0⟩ := Kd.R_celln 0 HO_7.out ((t313.length : Int) : Int) p33 q33
     (try simp only [Int.toNat_natCast] at hx33_0); (try simp only [Int.toNat_natCast] at hf33_0)
     replace p33 := eq_true p33
     replace q33 := eq_true q33
     have HP35 := Kd.R_putg HO_7.out ((t313.length : Int) : Int) x8_1
     go_wp2_with (first | ((with_reducible refine gate_store (t := 72) (p := 57) rfl ?_); refine se 72 57 (w1 := (wr.setCell ⟨go33, ((t313.length : Int) : Int).toNat, none⟩ (.int .u32 x8_1))) ?_; intro w36 hw; have hg : wr.grownBy w36 (some go33) := (by rw [hw]; exact HP35.2); have hp_ : Kd.R (Kd.int .u32) 72 w36 w.heap.size (fun _ => True) (.slice (some ⟨go33, 0, none⟩) x7_1.length co33) y328 := (by rw [hw, Ny328.out]; exact HP35.1); clear HP35; replace HO_5 := Aside0.mk (Kd.V_afterv (v := (.slice (some ⟨go33, 0, none⟩) x7_1.length co33)) (v1 := (.slice (some ⟨go33, 0, none⟩) x7_1.length co33)) (ok := (fun _ => True)) (vm HO_5.out (fun _ hk => ⟨trivial, hk⟩)) hg (.inl rfl)); replace HO_6 := Aside0.mk (Kd.V_afterv (v := (.slice (some ⟨go33, 0, none⟩) x7_1.length co33)) (v1 := (.slice (some ⟨go33, 0, none⟩) x7_1.length co33)) (ok := (fun _ => True)) (vm HO_6.out (fun _ hk => ⟨trivial, hk⟩)) hg (.inl rfl)); replace HO_7 := Aside0.mk (hp_); replace HB := Aside0.mk ((by rw [hw]; exact below_set (HB.out) GB33.out : Below w.heap.size w w36)); clear hg hw hp_) | ((with_reducible refine gc 56 rfl ?_); refine goesL_ (some 59) rfl rfl Tryd.func56 (by kernel_rfl) rfl #[.slice (some ⟨go33, 0, none⟩) y328.length co33] rfl (by (try simp only [List.map_toArray, List.map_cons, List.map_nil]); first | done | (rw [show y328.length = x7_1.length from (Kd.R_reads' HO_7.out).1.symm] <;> rfl) | rfl | (simp only [List.length_drop, List.length_take]; rfl)) ?_; (with_reducible refine (natural_limbs_text.calls k1 _ _ y328 t329 _ ?side1 ?side2 A34.out).mono ?_); (case side1 => exact vs (Kd.R_reads' HO_7.out).2.2); (case side2 => rw [show y328.length = x7_1.length from (Kd.R_reads' HO_7.out).1.symm]; exact (Kd.R_reads' HO_7.out).2.1); rintro e w37 ⟨rfl, hb⟩; refine ⟨_, rfl, ?_⟩; replace HO_5 := Aside0.mk (vb HO_5.out hb); replace HO_6 := Aside0.mk (vb HO_6.out hb); replace HO_7 := Aside0.mk (rb HO_7.out hb); replace HB := Aside0.mk (bs HB.out hb); (try clear hb)))
     go_ret
     exact ⟨by first | rfl | (simp [errW_none, errW_some] <;> rfl) | (simp only [← hji6]; first | rfl | (simp [errW_none, errW_some] <;> rfl)) | (simp [*, errW_none, errW_some] <;> rfl), bz HB.out⟩
 ·rw [if_neg c5] at H
  have c5b0 : decide ((t310.length : Int) < (t313.length : Int)) = false := decide_eq_false c5
  have c5b1 : decide (t310.length < t313.length) = false := decide_eq_false (fun h => c5 (Int.ofNat_lt.mpr h))
  clear c5
  obtain ⟨ji38, hji38⟩ : ∃ j_ : Int, (wrap64 ((t310.length : Int) + 1)) = j_ := ⟨_, rfl⟩
  first | rw [hji38] at H | simp only [hji38] at H
  (try rw [hji38] at A3)
  (try rw [hji38] at A4)
  have hji38w : (IntKind.i64.wrap ((t310.length : Int) + 1)) = ji38 := (i64_w _).trans hji38
  obtain ⟨c39, H⟩ := iN H
  have c39b0 := eq_true c39
  have c39b1 : decide (0 ≤ (ji38)) = true := decide_eq_true c39
  clear c39
  obtain ⟨c40, H⟩ := iN H
  have c40b0 := eq_true c40
  have c40b1 : decide ((ji38 : Int).toNat ≤ 70368744177664) = true := decide_eq_true c40
  clear c40
  obtain ⟨y330, hy330⟩ : ∃ y_ : List Int, y_ = (List.replicate (ji38 : Int).toNat 0) := ⟨_, rfl⟩
  (try first | rw [← hy330] at H | (dsimp only at H; rw [← hy330] at H)); (try rw [Option.bind_some] at H)
  have Ny330 := Aside0.mk hy330
  clear hy330
  have H' := Aside0.mk H
  clear H
  go_enter Tryd.func48, Tryd.ntmps48
  go_wp2_with (first | ((with_reducible refine gc 54 rfl ?_); refine gl (some 12) Tryd.func54 #[.string a0] ?_; (with_reducible refine (natural_parse.calls k a0 t310 _ A3.out).mono ?_); rintro e w41 ⟨v311, rfl, ho0, hb⟩; refine ⟨_, rfl, ?_⟩; have HO312 := Aside0.mk (Kd.V_lower (Kd.V_mono (ok' := fun k_ => True) ho0 (fun k_ hk_ => trivial)) (sz HB.out)); replace HB := Aside0.mk (bs HB.out hb); (try clear hb ho0)) | ((with_reducible refine gc 54 rfl ?_); refine gl (some 14) Tryd.func54 #[.string a1] ?_; (with_reducible refine (natural_parse.calls k a1 t313 _ A4.out).mono ?_); rintro e w42 ⟨v314, rfl, ho0, hb⟩; refine ⟨_, rfl, ?_⟩; replace HO312 := Aside0.mk (vb HO312.out hb); have HO315 := Aside0.mk (Kd.V_lower (Kd.V_mono (ok' := fun k_ => True) ho0 (fun k_ hk_ => trivial)) (sz HB.out)); replace HB := Aside0.mk (bs HB.out hb); (try clear hb ho0); obtain ⟨Ao43, co43, rfl⟩ := Kd.V_slice HO312.out; obtain ⟨Ao44, co44, rfl⟩ := Kd.V_slice HO315.out) | ((with_reducible refine gd 25 rfl ?_); refine Kd.R_make (Kd.int .u32) _ 72 rfl (N := 25) rfl 65 _ _ rfl ji38 rfl rfl Tryd.underlying65 (.int .u32 0) 4 info72 rfl (by decide) (by omega) 0 (ok := fun _ => True) (okp := fun _ => True) rfl (fun _ hk => hk) trivial oa (Nat.le_trans (Nat.mul_le_mul_right _ (oa : ji38.toNat ≤ 70368744177664)) (by omega)) (Below.refl _ _) (Nat.le_refl _) ?_; intro v331 w45 ho46 hb hg_ hnew_; clear hg_ hnew_; (first | rw [← Ny330.out] at ho46 | (simp only [Int.reduceToNat] at ho46; rw [← Ny330.out] at ho46)); replace HO312 := Aside0.mk (Kd.V_elder' (vs HO312.out) (Kd.R_base ho46) hb); replace HO315 := Aside0.mk (Kd.V_elder' (vs HO315.out) (Kd.R_base ho46) hb); have HO332 := Aside0.mk (Kd.R_lower ho46 (sz HB.out)); replace HB := Aside0.mk (bs HB.out hb); clear hb ho46))
  go_loopg [8, 28] k (fun kq v8 v28 w' => ∃ (x7_1 : List Int) (x8_1 : Int) (x28_1 : Int), v8 = .int .u32 x8_1 ∧ v28 = .int .i64 x28_1 ∧ Aside0 (natural_Add.l0 kq t310 t313 x7_1 x8_1 (t310.length : Int) x28_1 = some r) ∧ Aside0 (kq ≤ k) ∧ Aside0 (Kd.V (Kd.int .u32) 72 w' w.heap.size (fun k_ => some k_ ≠ (v331 : Value).ownBlock) (.slice Ao43 t310.length co43) t310) ∧ Aside0 (Kd.V (Kd.int .u32) 72 w' w.heap.size (fun k_ => some k_ ≠ (v331 : Value).ownBlock) (.slice Ao44 t313.length co44) t313) ∧ Aside0 (Kd.R (Kd.int .u32) 72 w' w.heap.size (fun _ => True) v331 x7_1) ∧ Aside0 (Below w.heap.size w w'))
  case atStart => exact ⟨(y330), (0), (0), fs, fs, H', ⟨Nat.le_refl _⟩, ⟨vm HO312.out (fun _ hk => hk.2)⟩, ⟨vm HO315.out (fun _ hk => hk.2)⟩, ⟨vs HO332.out⟩, ⟨bz HB.out⟩⟩
  case round =>
   clear H'
   (try clear c5b0); (try clear c5b1); (try clear c7b0); (try clear c7b1); (try clear c8b0); (try clear c8b1); (try clear c15b0); (try clear c16b0); (try clear c17b0); (try clear c18b0); (try clear c20b0); (try clear p21); (try clear q21); (try clear c24b0); (try clear c25b0); (try clear c27b0); (try clear p28); (try clear q28); (try clear c31b0); (try clear c31b1); (try clear c32b0); (try clear c32b1); (try clear p33); (try clear q33); (try clear c39b0); (try clear c39b1); (try clear c40b0); (try clear c40b1); (try clear hx21_0); (try clear hx28_0); (try clear hx319_0); (try clear hx320_0); (try clear hx324_0); (try clear hx33_0); (try clear p21); (try clear p28); (try clear p319); (try clear p320); (try clear p324); (try clear p33); (try clear q21); (try clear q28); (try clear q319); (try clear q320); (try clear q324); (try clear q33)
   obtain ⟨x7_1, x8_1, x28_1, rfl, rfl, HA, HK1, HO_5, HO_6, HO_7, HB⟩ := hrel
   cases gk with
   | zero => exact absurd HA.out (by simp [natural_Add.l0])
   | succ k1 =>
    have H := HA.out
    clear HA
    simp only [natural_Add.l0] at H
    by_cases c47 : x28_1 < (t310.length : Int)
    ·rw [if_pos c47] at H
     have c47b0 : decide (x28_1 < (t310.length : Int)) = true := decide_eq_true c47
     clear c47
     by_cases c48 : x28_1 < (t313.length : Int)
     ·rw [if_pos c48] at H
      have c48b0 : decide (x28_1 < (t313.length : Int)) = true := decide_eq_true c48
      clear c48
      obtain ⟨c49, H⟩ := iN H
      have c49b0 : decide (0 ≤ x28_1) = true := decide_eq_true c49
      clear c49
      obtain ⟨c50, H⟩ := iN H
      have c50b0 : decide (x28_1 < (t310.length : Int)) = true := decide_eq_true c50
      clear c50
      obtain ⟨⟨t321, t322⟩, A51, H⟩ := bs1 H; dsimp only at H
      obtain ⟨c52, H⟩ := iN H
      have c52b0 : decide (x28_1 < (x7_1.length : Int)) = true := decide_eq_true c52
      clear c52
      obtain ⟨y323, hy323⟩ : ∃ y_ : List Int, y_ = (x7_1.set (x28_1 : Int).toNat t321) := ⟨_, rfl⟩
      (try first | rw [← hy323] at H | (dsimp only at H; rw [← hy323] at H)); (try rw [Option.bind_some] at H)
      have Ny323 := Aside0.mk hy323
      clear hy323
      have H' := Aside0.mk H
      clear H
      have p319 : 0 ≤ (x28_1 : Int) := oa
      have q319 : x28_1 < (t313.length : Int) := oa
      obtain ⟨ad319, e319, hx319_0⟩ := Kd.at_int (Kd.V_reads' HO_6.out).2.2 x28_1 p319 q319
      cases e319
      replace p319 := eq_true p319
      replace q319 := eq_true q319
      have p320 : 0 ≤ (x28_1 : Int) := oa
      have q320 : x28_1 < (t310.length : Int) := oa
      obtain ⟨ad320, e320, hx320_0⟩ := Kd.at_int (Kd.V_reads' HO_5.out).2.2 x28_1 p320 q320
      cases e320
      replace p320 := eq_true p320
      replace q320 := eq_true q320
      go_wp2_with (first | ((with_reducible refine gc 66 rfl ?_); refine gl (some 48) Tryd.func66 #[.int .u32 (rd t310 x28_1), .int .u32 (rd t313 x28_1), .int .u32 x8_1] ?_; (with_reducible refine (bits_Add32.calls (rd t310 x28_1) (rd t313 x28_1) x8_1 t321 t322 _ A51.out).mono ?_); rintro e w' ⟨rfl, ⟨nd, rfl⟩⟩; refine ⟨_, rfl, ?_⟩; (try (rw [drewN_self wr]; generalize hq_ : World.drewN wr _ = wr; have n0_ : Aside0 (Kd.V (Kd.int .u32) 72 wr w.heap.size (fun k_ => some k_ ≠ (v331 : Value).ownBlock) (.slice (some ad320) t310.length co43) t310) := ⟨by rw [← hq_]; exact (vs HO_5.out)⟩; have n1_ : Aside0 (Kd.V (Kd.int .u32) 72 wr w.heap.size (fun k_ => some k_ ≠ (v331 : Value).ownBlock) (.slice (some ad319) t313.length co44) t313) := ⟨by rw [← hq_]; exact (vs HO_6.out)⟩; have n2_ : Aside0 (Kd.R (Kd.int .u32) 72 wr w.heap.size (fun _ => True) v331 x7_1) := ⟨by rw [← hq_]; exact (vs HO_7.out)⟩; have n3_ : Aside0 (Below w.heap.size w wr) := ⟨by rw [← hq_]; exact (bz HB.out)⟩; clear HO_5 HO_6 HO_7 HB hq_; have HO_5 := n0_; have HO_6 := n1_; have HO_7 := n2_; have HB := n3_; clear n0_ n1_ n2_ n3_)); have p53 : 0 ≤ (x28_1 : Int) := oa; have q53 : (x28_1 : Int) < ((x7_1.length : Int) : Int) := oa; obtain ⟨go53, co53, eo53, gb53, gl53, cl53, HG53⟩ := Kd.R_form HO_7.out (by omega); (first | cases eo53 | (injection eo53 with ea_ en_ ec_; (first | subst ea_ | (injection ea_ with ea_; subst ea_)); subst ec_; clear en_)); have GB53 := Aside0.mk gb53; have GG53 := Aside0.mk HG53; clear gb53 gl53 HG53; obtain ⟨hx53_0, hf53_0⟩ := Kd.R_celln 0 HO_7.out (x28_1 : Int) p53 q53; replace p53 := eq_true p53; replace q53 := eq_true q53; obtain ⟨hy54_, hz54_⟩ := Kd.R_celln 0 HO_7.out (x28_1 : Int) oa oa; have HP54 := Kd.R_putg HO_7.out (x28_1 : Int) t321) | ((with_reducible refine gate_store (t := 72) (p := 51) rfl ?_); refine se 72 51 (w1 := (wr.setCell ⟨go53, (x28_1 : Int).toNat, none⟩ (.int .u32 t321))) ?_; intro w55 hw; have hg : wr.grownBy w55 (some go53) := (by rw [hw]; exact HP54.2); have hp_ : Kd.R (Kd.int .u32) 72 w55 w.heap.size (fun _ => True) (.slice (some ⟨go53, 0, none⟩) x7_1.length co53) y323 := (by rw [hw, Ny323.out]; exact HP54.1); clear HP54; replace HO_5 := Aside0.mk (Kd.V_afterv (v := (.slice (some ⟨go53, 0, none⟩) x7_1.length co53)) (v1 := (.slice (some ⟨go53, 0, none⟩) x7_1.length co53)) (ok := (fun _ => True)) (vm HO_5.out (fun _ hk => ⟨trivial, hk⟩)) hg (.inl rfl)); replace HO_6 := Aside0.mk (Kd.V_afterv (v := (.slice (some ⟨go53, 0, none⟩) x7_1.length co53)) (v1 := (.slice (some ⟨go53, 0, none⟩) x7_1.length co53)) (ok := (fun _ => True)) (vm HO_6.out (fun _ hk => ⟨trivial, hk⟩)) hg (.inl rfl)); replace HO_7 := Aside0.mk (hp_); replace HB := Aside0.mk ((by rw [hw]; exact below_set (HB.out) GB53.out : Below w.heap.size w w55)); clear hg hw hp_))
      go_roundg k1
      case measure => have := HK1.out; omega
      case rel => exact ⟨(y323), (t322), (wrap64 (x28_1 + 1)), fs, fs, H', ⟨by have := HK1.out; omega⟩, ⟨vm HO_5.out (fun _ hk => hk.2)⟩, ⟨vm HO_6.out (fun _ hk => hk.2)⟩, ⟨vs HO_7.out⟩, ⟨bz HB.out⟩⟩
     ·rw [if_neg c48] at H
      have c48b0 : decide (x28_1 < (t313.length : Int)) = false := decide_eq_false c48
      clear c48
      obtain ⟨c56, H⟩ := iN H
      have c56b0 : decide (0 ≤ x28_1) = true := decide_eq_true c56
      clear c56
      obtain ⟨c57, H⟩ := iN H
      have c57b0 : decide (x28_1 < (t310.length : Int)) = true := decide_eq_true c57
      clear c57
      obtain ⟨⟨t325, t326⟩, A58, H⟩ := bs1 H; dsimp only at H
      obtain ⟨c59, H⟩ := iN H
      have c59b0 : decide (x28_1 < (x7_1.length : Int)) = true := decide_eq_true c59
      clear c59
      obtain ⟨y327, hy327⟩ : ∃ y_ : List Int, y_ = (x7_1.set (x28_1 : Int).toNat t325) := ⟨_, rfl⟩
      (try first | rw [← hy327] at H | (dsimp only at H; rw [← hy327] at H)); (try rw [Option.bind_some] at H)
      have Ny327 := Aside0.mk hy327
      clear hy327
      have H' := Aside0.mk H
      clear H
      have p324 : 0 ≤ (x28_1 : Int) := oa
      have q324 : x28_1 < (t310.length : Int) := oa
      obtain ⟨ad324, e324, hx324_0⟩ := Kd.at_int (Kd.V_reads' HO_5.out).2.2 x28_1 p324 q324
      cases e324
      replace p324 := eq_true p324
      replace q324 := eq_true q324
      go_wp2_with (first | ((with_reducible refine gc 66 rfl ?_); refine gl (some 48) Tryd.func66 #[.int .u32 (rd t310 x28_1), .int .u32 0, .int .u32 x8_1] ?_; (with_reducible refine (bits_Add32.calls (rd t310 x28_1) 0 x8_1 t325 t326 _ A58.out).mono ?_); rintro e w' ⟨rfl, ⟨nd, rfl⟩⟩; refine ⟨_, rfl, ?_⟩; (try (rw [drewN_self wr]; generalize hq_ : World.drewN wr _ = wr; have n0_ : Aside0 (Kd.V (Kd.int .u32) 72 wr w.heap.size (fun k_ => some k_ ≠ (v331 : Value).ownBlock) (.slice (some ad324) t310.length co43) t310) := ⟨by rw [← hq_]; exact (vs HO_5.out)⟩; have n1_ : Aside0 (Kd.V (Kd.int .u32) 72 wr w.heap.size (fun k_ => some k_ ≠ (v331 : Value).ownBlock) (.slice Ao44 t313.length co44) t313) := ⟨by rw [← hq_]; exact (vs HO_6.out)⟩; have n2_ : Aside0 (Kd.R (Kd.int .u32) 72 wr w.heap.size (fun _ => True) v331 x7_1) := ⟨by rw [← hq_]; exact (vs HO_7.out)⟩; have n3_ : Aside0 (Below w.heap.size w wr) := ⟨by rw [← hq_]; exact (bz HB.out)⟩; clear HO_5 HO_6 HO_7 HB hq_; have HO_5 := n0_; have HO_6 := n1_; have HO_7 := n2_; have HB := n3_; clear n0_ n1_ n2_ n3_)); have p60 : 0 ≤ (x28_1 : Int) := oa; have q60 : (x28_1 : Int) < ((x7_1.length : Int) : Int) := oa; obtain ⟨go60, co60, eo60, gb60, gl60, cl60, HG60⟩ := Kd.R_form HO_7.out (by omega); (first | cases eo60 | (injection eo60 with ea_ en_ ec_; (first | subst ea_ | (injection ea_ with ea_; subst ea_)); subst ec_; clear en_)); have GB60 := Aside0.mk gb60; have GG60 := Aside0.mk HG60; clear gb60 gl60 HG60; obtain ⟨hx60_0, hf60_0⟩ := Kd.R_celln 0 HO_7.out (x28_1 : Int) p60 q60; replace p60 := eq_true p60; replace q60 := eq_true q60; obtain ⟨hy61_, hz61_⟩ := Kd.R_celln 0 HO_7.out (x28_1 : Int) oa oa; have HP61 := Kd.R_putg HO_7.out (x28_1 : Int) t325) | ((with_reducible refine gate_store (t := 72) (p := 51) rfl ?_); refine se 72 51 (w1 := (wr.setCell ⟨go60, (x28_1 : Int).toNat, none⟩ (.int .u32 t325))) ?_; intro w62 hw; have hg : wr.grownBy w62 (some go60) := (by rw [hw]; exact HP61.2); have hp_ : Kd.R (Kd.int .u32) 72 w62 w.heap.size (fun _ => True) (.slice (some ⟨go60, 0, none⟩) x7_1.length co60) y327 := (by rw [hw, Ny327.out]; exact HP61.1); clear HP61; replace HO_5 := Aside0.mk (Kd.V_afterv (v := (.slice (some ⟨go60, 0, none⟩) x7_1.length co60)) (v1 := (.slice (some ⟨go60, 0, none⟩) x7_1.length co60)) (ok := (fun _ => True)) (vm HO_5.out (fun _ hk => ⟨trivial, hk⟩)) hg (.inl rfl)); replace HO_6 := Aside0.mk (Kd.V_afterv (v := (.slice (some ⟨go60, 0, none⟩) x7_1.length co60)) (v1 := (.slice (some ⟨go60, 0, none⟩) x7_1.length co60)) (ok := (fun _ => True)) (vm HO_6.out (fun _ hk => ⟨trivial, hk⟩)) hg (.inl rfl)); replace HO_7 := Aside0.mk (hp_); replace HB := Aside0.mk ((by rw [hw]; exact below_set (HB.out) GB60.out : Below w.heap.size w w62)); clear hg hw hp_))
      go_roundg k1
      case measure => have := HK1.out; omega
      case rel => exact ⟨(y327), (t326), (wrap64 (x28_1 + 1)), fs, fs, H', ⟨by have := HK1.out; omega⟩, ⟨vm HO_5.out (fun _ hk => hk.2)⟩, ⟨vm HO_6.out (fun _ hk => hk.2)⟩, ⟨vs HO_7.out⟩, ⟨bz HB.out⟩⟩
    ·rw [if_neg c47] at H
     have c47b0 : decide (x28_1 < (t310.length : Int)) = false := decide_eq_false c47
     clear c47
     obtain ⟨c63, H⟩ := iN H
     have c63b0 : decide (0 ≤ (t310.length : Int)) = true := decide_eq_true c63
     have c63b1 : decide (0 ≤ t310.length) = true := decide_eq_true (by omega)
     clear c63
     obtain ⟨c64, H⟩ := iN H
     have c64b0 : decide ((t310.length : Int) < (x7_1.length : Int)) = true := decide_eq_true c64
     have c64b1 : decide (t310.length < x7_1.length) = true := decide_eq_true (Int.ofNat_lt.mp c64)
     clear c64
     obtain ⟨y328, hy328⟩ : ∃ y_ : List Int, y_ = (x7_1.set ((t310.length : Int) : Int).toNat x8_1) := ⟨_, rfl⟩
     (try first | rw [← hy328] at H | (dsimp only at H; rw [← hy328] at H)); (try rw [Option.bind_some] at H)
     have Ny328 := Aside0.mk hy328
     clear hy328
     obtain ⟨t329, A66, H⟩ := bs1 H
     obtain rfl := Option.some.inj H
     have p65 : 0 ≤ ((t310.length : Int) : Int) := oa
     have q65 : ((t310.length : Int) : Int) < ((x7_1.length : Int) : Int) := oa
     obtain ⟨go65, co65, eo65, gb65, gl65, cl65, HG65⟩ := Kd.R_form HO_7.out (by omega)
     (first | cases eo65 | (injection eo65 with ea_ en_ ec_; (first | subst ea_ | (injection ea_ with ea_; subst ea_)); subst ec_; clear en_))
     have GB65 := Aside0.mk gb65
     have GG65 := Aside0.mk HG65
     clear gb65 gl65 HG65
     obtain ⟨hx65_0, hf65_0⟩ := Kd.R_celln 0 HO_7.out ((t310.length : Int) : Int) p65 q65
     (try simp only [Int.toNat_natCast] at hx65_0); (try simp only [Int.toNat_natCast] at hf65_0)
     replace p65 := eq_true p65
     replace q65 := eq_true q65
     have HP67 := Kd.R_putg HO_7.out ((t310.length : Int) : Int) x8_1
     go_wp2_with (first | ((with_reducible refine gate_store (t := 72) (p := 57) rfl ?_); refine se 72 57 (w1 := (wr.setCell ⟨go65, ((t310.length : Int) : Int).toNat, none⟩ (.int .u32 x8_1))) ?_; intro w68 hw; have hg : wr.grownBy w68 (some go65) := (by rw [hw]; exact HP67.2); have hp_ : Kd.R (Kd.int .u32) 72 w68 w.heap.size (fun _ => True) (.slice (some ⟨go65, 0, none⟩) x7_1.length co65) y328 := (by rw [hw, Ny328.out]; exact HP67.1); clear HP67; replace HO_5 := Aside0.mk (Kd.V_afterv (v := (.slice (some ⟨go65, 0, none⟩) x7_1.length co65)) (v1 := (.slice (some ⟨go65, 0, none⟩) x7_1.length co65)) (ok := (fun _ => True)) (vm HO_5.out (fun _ hk => ⟨trivial, hk⟩)) hg (.inl rfl)); replace HO_6 := Aside0.mk (Kd.V_afterv (v := (.slice (some ⟨go65, 0, none⟩) x7_1.length co65)) (v1 := (.slice (some ⟨go65, 0, none⟩) x7_1.length co65)) (ok := (fun _ => True)) (vm HO_6.out (fun _ hk => ⟨trivial, hk⟩)) hg (.inl rfl)); replace HO_7 := Aside0.mk (hp_); replace HB := Aside0.mk ((by rw [hw]; exact below_set (HB.out) GB65.out : Below w.heap.size w w68)); clear hg hw hp_) | ((with_reducible refine gc 56 rfl ?_); refine goesL_ (some 59) rfl rfl Tryd.func56 (by kernel_rfl) rfl #[.slice (some ⟨go65, 0, none⟩) y328.length co65] rfl (by (try simp only [List.map_toArray, List.map_cons, List.map_nil]); first | done | (rw [show y328.length = x7_1.length from (Kd.R_reads' HO_7.out).1.symm] <;> rfl) | rfl | (simp only [List.length_drop, List.length_take]; rfl)) ?_; (with_reducible refine (natural_limbs_text.calls k1 _ _ y328 t329 _ ?side1 ?side2 A66.out).mono ?_); (case side1 => exact vs (Kd.R_reads' HO_7.out).2.2); (case side2 => rw [show y328.length = x7_1.length from (Kd.R_reads' HO_7.out).1.symm]; exact (Kd.R_reads' HO_7.out).2.1); rintro e w69 ⟨rfl, hb⟩; refine ⟨_, rfl, ?_⟩; replace HO_5 := Aside0.mk (vb HO_5.out hb); replace HO_6 := Aside0.mk (vb HO_6.out hb); replace HO_7 := Aside0.mk (rb HO_7.out hb); replace HB := Aside0.mk (bs HB.out hb); (try clear hb)))
     go_ret
     exact ⟨by first | rfl | (simp [errW_none, errW_some] <;> rfl) | (simp only [← hji38]; first | rfl | (simp [errW_none, errW_some] <;> rfl)) | (simp [*, errW_none, errW_some] <;> rfl), bz HB.out⟩

-- NOT PRINTED: function 111 (strings_trimRightByte)

-- NOT PRINTED: function 112 (strings_trimRightASCII)

-- NOT PRINTED: function 123 (utf8_RuneStart)

-- NOT PRINTED: function 120 (utf8_DecodeLastRuneInString)

-- NOT PRINTED: function 113 (strings_trimRightUnicode)

/-! ### strings_Trim: function 94 (by hand) -/
def strings_Trim.f (a0 : ByteArray) (a1 : ByteArray) : Option (ByteArray) := if a0.size ≤ 9223372036854775807 ∧ a1.size < 4294967281 ∧ (a1.data.toList.all fun b => decide (b.toNat < 128)) = true then some ⟨(Lib.trimS a0.data.toList a1.data.toList).toArray⟩ else none
theorem strings_Trim.calls (a0 : ByteArray) (a1 : ByteArray) (r : ByteArray) (w : World) (h : strings_Trim.f a0 a1 = some r) :
  Calls Tryd.prog 94 #[.string a0, .string a1] w fun e w' => e = .returned (.string r) ∧ Below w.heap.size w w' := by
 unfold strings_Trim.f at h
 split at h
 ·rename_i hc
  obtain rfl := Option.some.inj h
  exact Tryd.strings_Trim_laid a0 a1 w hc.1 hc.2.1 (fun _ b hb => of_decide_eq_true (List.all_eq_true.1 hc.2.2 b (List.mem_of_getElem? hb)))
 ·cases h


/-! ### natural_multiplyAdd: function 95 -/
def natural_multiplyAdd.l0 : Nat → List Int → Int → Int → Int → Int → Option (List Int)
 | 0, _, _, _, _, _ => none
 | k + 1, x0, x1, x7, x13, x14 => if x14 < x13 then (if 0 ≤ x14 then (if x14 < (x0.length : Int) then (natural_multiplyAdd.l0 k (x0.set (x14 : Int).toNat ((IntKind.u64.wrap ((IntKind.u64.wrap ((IntKind.u64.wrap (rd x0 x14)) * (IntKind.u64.wrap (x1)))) + x7)) % 4294967296)) x1 ((IntKind.u64.wrap ((IntKind.u64.wrap ((IntKind.u64.wrap (rd x0 x14)) * (IntKind.u64.wrap (x1)))) + x7)) / 4294967296) x13 (wrap64 (x14 + 1))) else (none)) else (none)) else (if x7 > 0 then (if x0.length < 35184372088832 then (some (x0 ++ [(x7) % 4294967296])) else (none)) else (some x0))
def natural_multiplyAdd.f (k : Nat) (l0 : List Int) (a1 : Int) (a2 : Int) : Option (List Int) := natural_multiplyAdd.l0 k l0 a1 (IntKind.u64.wrap (a2)) (l0.length : Int) 0
theorem natural_multiplyAdd.mono_l : ∀ k, (∀ y0 y1 y2 y3 y4, LeO (natural_multiplyAdd.l0 k y0 y1 y2 y3 y4) (natural_multiplyAdd.l0 (k + 1) y0 y1 y2 y3 y4))
 | 0 => fun _ _ _ _ _ r h => by simp [natural_multiplyAdd.l0] at h
 | k + 1 => by
  have ih0 := natural_multiplyAdd.mono_l k
  ·intro y0 y1 y2 y3 y4
   unfold natural_multiplyAdd.l0
   repeat' with_reducible first | exact ih0 _ _ _ _ _ | exact LeO.refl _ | exact LeO.none _ | refine LeO.ite ?_ ?_ | refine LeO.bind ?_ (fun _ => ?_)
theorem natural_multiplyAdd.mono : ∀ a0 a1 a2 k, LeO (natural_multiplyAdd.f k a0 a1 a2) (natural_multiplyAdd.f (k + 1) a0 a1 a2) := by
 intro a0 a1 a2 k
 have ih0 := natural_multiplyAdd.mono_l k
 unfold natural_multiplyAdd.f
 repeat' with_reducible first | exact ih0 _ _ _ _ _ | exact LeO.refl _ | exact LeO.none _ | refine LeO.ite ?_ ?_ | refine LeO.bind ?_ (fun _ => ?_)
set_option maxHeartbeats 8000000 in
set_option maxRecDepth 100000 in
theorem natural_multiplyAdd.calls (k : Nat) (P0_ : Nat → Prop) (u9000_ : Value) (l0 : List Int) (a1 : Int) (a2 : Int) (r : List Int) (w0 w : World) (hB : Below w0.heap.size w0 w) (ho0 : Kd.R (Kd.int .u32) 72 w w0.heap.size P0_ u9000_ l0) (h : natural_multiplyAdd.f k l0 a1 a2 = some r) :
  Calls Tryd.prog 95 #[u9000_, .int .u32 a1, .int .u32 a2] w fun e w' => ∃ v0_ : Value, e = .returned (v0_) ∧ Kd.R (Kd.int .u32) 72 w' w0.heap.size (fun k_ => (P0_ k_ ∨ w.heap.size ≤ k_)) v0_ r ∧ Below w0.heap.size w0 w' ∧ Kept w w' (fun k_ => P0_ k_) := by
 have HO0 := Aside0.mk (show Kd.R (Kd.int .u32) 72 w w0.heap.size (fun k_ => (P0_ k_ ∨ w.heap.size ≤ k_)) u9000_ l0 from Kd.R_mono ho0 (fun k_ hk => (.inl hk)))
 have HK := Aside0.mk (Kept.refl w (fun k_ => P0_ k_))
 have HW0 := Aside0.mk hB.size
 have HB := Aside0.mk hB
 clear hB
 have H := h
 clear h
 unfold natural_multiplyAdd.f at H
 have H' := Aside0.mk H
 clear H
 obtain ⟨Ao4, co4, eo4⟩ := Kd.R_slice HO0.out
 subst eo4
 go_enter Tryd.func95, Tryd.ntmps95
 go_wp2
 go_loopg [7, 14] k (fun kq v7 v14 w' => ∃ (x0_1 : List Int) (x7_1 : Int) (x14_1 : Int), v7 = .int .u64 x7_1 ∧ v14 = .int .i64 x14_1 ∧ Aside0 (natural_multiplyAdd.l0 kq x0_1 a1 x7_1 (l0.length : Int) x14_1 = some r) ∧ Aside0 (kq ≤ k) ∧ Aside0 (Kd.R (Kd.int .u32) 72 w' w0.heap.size (fun k_ => (P0_ k_ ∨ w.heap.size ≤ k_)) (.slice Ao4 l0.length co4) x0_1) ∧ Aside0 (Kept w w' (fun k_ => P0_ k_)) ∧ Aside0 (Below w0.heap.size w0 w'))
 case atStart => exact ⟨(l0), (IntKind.u64.wrap (a2)), (0), fs, fs, H', ⟨Nat.le_refl _⟩, ⟨vs HO0.out⟩, ⟨by repeat (first | (with_reducible first | exact HK.out | apply Kept.alloc | apply Kept.drewN | apply Kept.drew) | exact HK.out)⟩, ⟨bz HB.out⟩⟩
 case round =>
  clear H'
  obtain ⟨x0_1, x7_1, x14_1, rfl, rfl, HA, HK1, HO_0, HK, HB⟩ := hrel
  have hl0_1 := (Kd.R_reads' HO_0.out).1
  rw [hl0_1] at HO_0
  (try simp only [hl0_1])
  cases gk with
  | zero => exact absurd HA.out (by simp [natural_multiplyAdd.l0])
  | succ k1 =>
   have H := HA.out
   clear HA
   simp only [natural_multiplyAdd.l0] at H
   by_cases c5 : x14_1 < (l0.length : Int)
   ·rw [if_pos c5] at H
    have c5b0 : decide (x14_1 < (l0.length : Int)) = true := decide_eq_true c5
    (try (have c5b0_hl0_1 := c5b0; rw [hl0_1] at c5b0_hl0_1))
    clear c5
    obtain ⟨c6, H⟩ := iN H
    have c6b0 : decide (0 ≤ x14_1) = true := decide_eq_true c6
    clear c6
    obtain ⟨c7, H⟩ := iN H
    have c7b0 : decide (x14_1 < (x0_1.length : Int)) = true := decide_eq_true c7
    (try (have c7b0_hl0_1 := c7b0; rw [hl0_1] at c7b0_hl0_1))
    clear c7
    obtain ⟨y334, hy334⟩ : ∃ y_ : List Int, y_ = (x0_1.set (x14_1 : Int).toNat ((IntKind.u64.wrap ((IntKind.u64.wrap ((IntKind.u64.wrap (rd x0_1 x14_1)) * (IntKind.u64.wrap (a1)))) + x7_1)) % 4294967296)) := ⟨_, rfl⟩
    (try first | rw [← hy334] at H | (dsimp only at H; rw [← hy334] at H)); (try rw [Option.bind_some] at H)
    have Ny334 := Aside0.mk hy334
    clear hy334
    have H' := Aside0.mk H
    clear H
    have p333 : 0 ≤ (x14_1 : Int) := oa
    have q333 : x14_1 < (x0_1.length : Int) := oa
    obtain ⟨ad333, e333, hx333_0⟩ := Kd.at_int (Kd.R_reads' HO_0.out).2.2 x14_1 p333 q333
    cases e333
    replace p333 := eq_true p333
    replace q333 := eq_true q333
    have p8 : 0 ≤ (x14_1 : Int) := oa
    have q8 : (x14_1 : Int) < ((x0_1.length : Int) : Int) := oa
    obtain ⟨go8, co8, eo8, gb8, gl8, cl8, HG8⟩ := Kd.R_form HO_0.out (by omega)
    (first | cases eo8 | (injection eo8 with ea_ en_ ec_; (first | subst ea_ | (injection ea_ with ea_; subst ea_)); subst ec_; clear en_))
    have GB8 := Aside0.mk gb8
    have GG8 := Aside0.mk HG8
    clear gb8 gl8 HG8
    have HMgo8 := Aside0.mk (show (P0_ go8 ∨ w.heap.size ≤ go8) from (HO_0.out.1 _ rfl))
    (first | simp only [add_plain] at hx333_0 | skip)
    obtain ⟨hx8_0, hf8_0⟩ := Kd.R_celln 0 HO_0.out (x14_1 : Int) p8 q8
    replace p8 := eq_true p8
    replace q8 := eq_true q8
    have HP9 := Kd.R_putg HO_0.out (x14_1 : Int) ((IntKind.u64.wrap ((IntKind.u64.wrap ((IntKind.u64.wrap (rd x0_1 x14_1)) * (IntKind.u64.wrap (a1)))) + x7_1)) % 4294967296)
    go_wp2_with (first | ((with_reducible refine gate_store (t := 72) (p := 31) rfl ?_); refine se 72 31 (w1 := (wr.setCell ⟨go8, (x14_1 : Int).toNat, none⟩ (.int .u32 ((IntKind.u64.wrap ((IntKind.u64.wrap ((IntKind.u64.wrap (rd x0_1 x14_1)) * (IntKind.u64.wrap (a1)))) + x7_1)) % 4294967296)))) ?_; intro w10 hw; have hg : wr.grownBy w10 (some go8) := (by rw [hw]; exact HP9.2); have hp_ : Kd.R (Kd.int .u32) 72 w10 w0.heap.size (fun k_ => (P0_ k_ ∨ w.heap.size ≤ k_)) (.slice (some ⟨go8, 0, none⟩) x0_1.length co4) y334 := (by rw [hw, Ny334.out]; exact HP9.1); clear HP9; replace HB := Aside0.mk ((by rw [hw]; exact below_set (HB.out) GB8.out : Below w0.heap.size w0 w10)); replace HK := Aside0.mk (Kept.of_grown (S := (fun k_ => P0_ k_)) hg (by repeat (first | (with_reducible first | exact HK.out | apply Kept.alloc | apply Kept.drewN | apply Kept.drew) | exact HK.out)) (fun k_ e_ => (HO_0.out.1 k_ e_))); replace HO_0 := Aside0.mk (hp_); clear hg hw hp_))
    (try simp only [← hl0_1])
    go_roundg k1
    case measure => have := HK1.out; omega
    case rel => exact ⟨(y334), ((IntKind.u64.wrap ((IntKind.u64.wrap ((IntKind.u64.wrap (rd x0_1 x14_1)) * (IntKind.u64.wrap (a1)))) + x7_1)) / 4294967296), (wrap64 (x14_1 + 1)), fs, fs, H', ⟨by have := HK1.out; omega⟩, ⟨by (try simp only [hl0_1]); (with_reducible repeat (first | apply Kd.R_alloc | apply Kd.R_drewN | apply Kd.R_drew)); exact HO_0.out⟩, ⟨by repeat (first | (with_reducible first | exact HK.out | apply Kept.alloc | apply Kept.drewN | apply Kept.drew) | exact HK.out)⟩, ⟨bz HB.out⟩⟩
   ·rw [if_neg c5] at H
    have c5b0 : decide (x14_1 < (l0.length : Int)) = false := decide_eq_false c5
    (try (have c5b0_hl0_1 := c5b0; rw [hl0_1] at c5b0_hl0_1))
    clear c5
    by_cases c11 : x7_1 > 0
    ·rw [if_pos c11] at H
     have c11b0 : decide (0 < x7_1) = true := decide_eq_true c11
     clear c11
     obtain ⟨c12, H⟩ := iN H
     have LMc12 := Aside0.mk c12
     clear c12
     obtain ⟨y335, hy335⟩ : ∃ y_ : List Int, y_ = (x0_1 ++ [(x7_1) % 4294967296]) := ⟨_, rfl⟩
     (try first | rw [← hy335] at H | (dsimp only at H; rw [← hy335] at H)); (try rw [Option.bind_some] at H)
     have Ny335 := Aside0.mk hy335
     clear hy335
     obtain rfl := Option.some.inj H
     go_wp2_with (first | ((with_reducible refine gate_builtin (b := .append) (xs := #[.tmp 37, .tmp 40]) rfl ?_); at_builtin; refine Kd.R_append (Kd.int .u32) (w0 := w0) w0.heap.size rfl (.tmp 37) (.tmp 40) 65 72 (.int .u32 0) 4 rfl Tryd.underlying65 info72 rfl (by decide) (by omega) (.slice Ao4 x0_1.length co4) x0_1 ((x7_1) % 4294967296) [.int .u32 ((x7_1) % 4294967296)] (fun k_ => (P0_ k_ ∨ w.heap.size ≤ k_)) (fun _ => False) rfl rfl ?aP (fun _ hk => hk.elim) ?aF ?aO ?aB ?aS ?aL ?_; (case aP => exact rfl); (case aB => exact (bz HB.out)); (case aF => exact (fun k_ hk => (.inr (Nat.le_trans (by first | exact HK.out.1 | exact (show Kept w _ (fun k_ => P0_ k_) from by repeat (first | (with_reducible first | exact HK.out | apply Kept.alloc | apply Kept.drewN | apply Kept.drew) | exact HK.out)).1) hk)))); (case aO => exact (vs HO_0.out)); (case aS => exact (sz HB.out)); (case aL => have := LMc12.out; omega); intro v336 w13 ho hb hg hat; rw [← Ny335.out] at ho; replace HB := Aside0.mk (hb); replace HK := Aside0.mk (Kept.of_grown (S := (fun k_ => P0_ k_)) hg (by repeat (first | (with_reducible first | exact HK.out | apply Kept.alloc | apply Kept.drewN | apply Kept.drew) | exact HK.out)) (fun k_ e_ => (HO_0.out.1 k_ e_))); have HO337 := Aside0.mk (ho); clear HO_0; clear ho hb hg hat))
     go_ret
     exact ⟨_, fe, vs HO337.out, bz HB.out, by repeat (first | (with_reducible first | exact HK.out | apply Kept.alloc | apply Kept.drewN | apply Kept.drew) | exact HK.out)⟩
    ·rw [if_neg c11] at H
     have c11b0 : decide (0 < x7_1) = false := decide_eq_false c11
     clear c11
     obtain rfl := Option.some.inj H
     go_wp2
     go_ret
     exact ⟨_, fe, vs HO_0.out, bz HB.out, by repeat (first | (with_reducible first | exact HK.out | apply Kept.alloc | apply Kept.drewN | apply Kept.drew) | exact HK.out)⟩

end Go.Proofs.YtgepdnoaemeofaaDoor.R
