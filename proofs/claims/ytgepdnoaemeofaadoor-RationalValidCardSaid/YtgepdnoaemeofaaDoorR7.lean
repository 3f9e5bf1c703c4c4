/- Printed by a program of this session (wip/tools) out of the translation: plain functions and the proofs that the code comes to their answers. -/
import Derived.Test.YtgepdnoaemeofaaDoorK
import Derived.Test.YtgepdnoaemeofaaDoorR0
import Derived.Test.YtgepdnoaemeofaaDoorR2
import Derived.Test.YtgepdnoaemeofaaDoorR3
import Derived.Test.YtgepdnoaemeofaaDoorR6
namespace Go.Proofs.YtgepdnoaemeofaaDoor.R
open Go.RowKit Go.Proofs.YtgepdnoaemeofaaDoorW.PrintWords Go.Proofs.YtgepdnoaemeofaaDoorW.PrintLast Go.Proofs.YtgepdnoaemeofaaDoorW.PrintMore Go.Proofs.YtgepdnoaemeofaaDoorW.PK
attribute [local go_sem] max2_int min2_int max_two min_two max_three min_three max_four min_four   -- for this text's walks alone
set_option linter.unusedVariables false
set_option linter.unusedSimpArgs false

/-! ### natural_limbs_text: function 56 -/
def natural_limbs_text.l0 : Nat → List Int → List Int → Int → Int → Option (ByteArray)
 | 0, _, _, _, _ => none
 | k + 1, x0, x3, x10, x11 => if x11 < x10 then (if 0 ≤ (wrap64 (Int.tdiv x11 4)) then (if (wrap64 (Int.tdiv x11 4)) < (x0.length : Int) then (if 0 ≤ (wrap64 (8 * (Int.tmod x11 4))) then (if 0 ≤ (wrap64 ((wrap64 ((x3.length : Int) - 1)) - x11)) then (if (wrap64 ((wrap64 ((x3.length : Int) - 1)) - x11)) < (x3.length : Int) then (natural_limbs_text.l0 k x0 (x3.set ((wrap64 ((wrap64 ((x3.length : Int) - 1)) - x11)) : Int).toNat ((shr .u32 (rd x0 (wrap64 (Int.tdiv x11 4))) (wrap64 (8 * (Int.tmod x11 4)))) % 256)) x10 (wrap64 (x11 + 1))) else (none)) else (none)) else (none)) else (none)) else (none)) else ((natural_Normalize.f k (strOfNums x3)).bind fun t227 => (some t227))
def natural_limbs_text.f (k : Nat) (l0 : List Int) : Option (ByteArray) := if 0 ≤ (wrap64 ((l0.length : Int) * 4)) then (if (wrap64 ((l0.length : Int) * 4) : Int).toNat ≤ 281474976710656 then ((some (List.replicate (wrap64 ((l0.length : Int) * 4) : Int).toNat 0 : List Int)).bind fun y222 => (natural_limbs_text.l0 k l0 y222 (y222.length : Int) 0)) else (none)) else (none)
theorem natural_limbs_text.mono_l : ∀ k, (∀ y0 y1 y2 y3, LeO (natural_limbs_text.l0 k y0 y1 y2 y3) (natural_limbs_text.l0 (k + 1) y0 y1 y2 y3))
 | 0 => fun _ _ _ _ r h => by simp [natural_limbs_text.l0] at h
 | k + 1 => by
  have ih0 := natural_limbs_text.mono_l k
  ·intro y0 y1 y2 y3
   unfold natural_limbs_text.l0
   repeat' with_reducible first | exact ih0 _ _ _ _ | exact natural_Normalize.mono _ _ | exact LeO.refl _ | exact LeO.none _ | refine LeO.ite ?_ ?_ | refine LeO.bind ?_ (fun _ => ?_)
theorem natural_limbs_text.mono : ∀ a0 k, LeO (natural_limbs_text.f k a0) (natural_limbs_text.f (k + 1) a0) := by
 intro a0 k
 have ih0 := natural_limbs_text.mono_l k
 unfold natural_limbs_text.f
 repeat' with_reducible first | exact ih0 _ _ _ _ | exact natural_Normalize.mono _ _ | exact LeO.refl _ | exact LeO.none _ | refine LeO.ite ?_ ?_ | refine LeO.bind ?_ (fun _ => ?_)
set_option maxHeartbeats 8000000 in
set_option maxRecDepth 100000 in
theorem natural_limbs_text.calls (k : Nat) (A0 : Option Addr) (c0 : Nat) (l0 : List Int) (r : ByteArray) (w : World) (hr0 : Kd.C (Kd.int .u32) w A0 l0.length l0) (hc0 : l0.length ≤ c0) (h : natural_limbs_text.f k l0 = some r) :
  Calls Tryd.prog 56 #[.slice A0 l0.length c0] w fun e w' => e = .returned (.string r) ∧ Below w.heap.size w w' := by
 have HR0 := Aside0.mk hr0
 have HC0 := Aside0.mk hc0
 clear hr0 hc0
 have HB := Aside0.mk (Below.refl w.heap.size w)
 have H := h
 clear h
 unfold natural_limbs_text.f at H
 obtain ⟨ji2, hji2⟩ : ∃ j_ : Int, (wrap64 ((l0.length : Int) * 4)) = j_ := ⟨_, rfl⟩
 first | rw [hji2] at H | simp only [hji2] at H
 have hji2w : (IntKind.i64.wrap ((l0.length : Int) * 4)) = ji2 := (i64_w _).trans hji2
 obtain ⟨c3, H⟩ := iN H
 have c3b0 := eq_true c3
 have c3b1 : decide (0 ≤ (ji2)) = true := decide_eq_true c3
 clear c3
 obtain ⟨c4, H⟩ := iN H
 have c4b0 := eq_true c4
 have c4b1 : decide ((ji2 : Int).toNat ≤ 281474976710656) = true := decide_eq_true c4
 clear c4
 obtain ⟨y222, hy222⟩ : ∃ y_ : List Int, y_ = (List.replicate (ji2 : Int).toNat 0) := ⟨_, rfl⟩
 (try first | rw [← hy222] at H | (dsimp only at H; rw [← hy222] at H)); (try rw [Option.bind_some] at H)
 have Ny222 := Aside0.mk hy222
 clear hy222
 have H' := Aside0.mk H
 clear H
 go_enter Tryd.func56, Tryd.ntmps56
 go_wp2_with (first | ((with_reducible refine gd 8 rfl ?_); refine Kd.R_make (Kd.int .u8) _ 5 rfl (N := 8) rfl 82 _ _ rfl ji2 rfl rfl Tryd.underlying82 (.int .u8 0) 1 info5 rfl (by decide) (by omega) 0 (ok := fun _ => True) (okp := fun _ => True) rfl (fun _ hk => hk) trivial oa (Nat.le_trans (Nat.mul_le_mul_right _ (oa : ji2.toNat ≤ 281474976710656)) (by omega)) (Below.refl _ _) (Nat.le_refl _) ?_; intro v223 w5 ho6 hb hg_ hnew_; clear hg_ hnew_; (first | rw [← Ny222.out] at ho6 | (simp only [Int.reduceToNat] at ho6; rw [← Ny222.out] at ho6)); have HO224 := Aside0.mk (Kd.R_lower ho6 (sz HB.out)); replace HB := Aside0.mk (bs HB.out hb); clear hb ho6; obtain ⟨Ao7, co7, eo7⟩ := Kd.R_slice HO224.out; subst eo7))
 go_loopg [11] k (fun kq v11 w' => ∃ (x3_1 : List Int) (x11_1 : Int), v11 = .int .i64 x11_1 ∧ Aside0 (natural_limbs_text.l0 kq l0 x3_1 (y222.length : Int) x11_1 = some r) ∧ Aside0 (kq ≤ k) ∧ Aside0 (Kd.R (Kd.int .u8) 5 w' w.heap.size (fun _ => True) (.slice Ao7 y222.length co7) x3_1) ∧ Aside0 (Below w.heap.size w w'))
 case atStart => exact ⟨(y222), (0), fs, H', ⟨Nat.le_refl _⟩, ⟨vs HO224.out⟩, ⟨bz HB.out⟩⟩
 case round =>
  clear H'
  (try clear c3b0); (try clear c3b1); (try clear c4b0); (try clear c4b1)
  obtain ⟨x3_1, x11_1, rfl, HA, HK1, HO_3, HB⟩ := hrel
  have hl3_1 := (Kd.R_reads' HO_3.out).1
  rw [hl3_1] at HO_3
  (try simp only [hl3_1])
  cases gk with
  | zero => exact absurd HA.out (by simp [natural_limbs_text.l0])
  | succ k1 =>
   have H := HA.out
   clear HA
   simp only [natural_limbs_text.l0] at H
   by_cases c8 : x11_1 < (y222.length : Int)
   ·rw [if_pos c8] at H
    have c8b0 : decide (x11_1 < (y222.length : Int)) = true := decide_eq_true c8
    (try (have c8b0_hl3_1 := c8b0; rw [hl3_1] at c8b0_hl3_1))
    clear c8
    obtain ⟨ji9, hji9⟩ : ∃ j_ : Int, (wrap64 (Int.tdiv x11_1 4)) = j_ := ⟨_, rfl⟩
    first | rw [hji9] at H | simp only [hji9] at H
    have hji9w : (IntKind.i64.wrap (Int.tdiv x11_1 4)) = ji9 := (i64_w _).trans hji9
    obtain ⟨c10, H⟩ := iN H
    have c10b0 : decide (0 ≤ (ji9)) = true := decide_eq_true c10
    clear c10
    obtain ⟨c11, H⟩ := iN H
    have c11b0 : decide ((ji9) < (l0.length : Int)) = true := decide_eq_true c11
    (try (have c11b0_hl3_1 := c11b0; rw [hl3_1] at c11b0_hl3_1))
    clear c11
    obtain ⟨ji12, hji12⟩ : ∃ j_ : Int, (wrap64 (8 * (Int.tmod x11_1 4))) = j_ := ⟨_, rfl⟩
    first | rw [hji12] at H | simp only [hji12] at H
    have hji12w : (IntKind.i64.wrap (8 * (Int.tmod x11_1 4))) = ji12 := (i64_w _).trans hji12
    obtain ⟨c13, H⟩ := iN H
    have c13b0 := eq_true c13
    have c13b1 : decide (0 ≤ (ji12)) = true := decide_eq_true c13
    clear c13
    obtain ⟨ji14, hji14⟩ : ∃ j_ : Int, (shr .u32 (rd l0 (ji9)) (ji12)) = j_ := ⟨_, rfl⟩
    first | rw [hji14] at H | simp only [hji14] at H
    have hji14_ : ((rd l0 (ji9)) / 2 ^ min (ji12).toNat 32) = ji14 := hji14
    have hji14z : (ji12) ≤ 32 → ((rd l0 (ji9)) / 2 ^ (ji12).toNat) = ji14 := shr_small hji14
    obtain ⟨ji15, hji15⟩ : ∃ j_ : Int, (wrap64 ((wrap64 ((x3_1.length : Int) - 1)) - x11_1)) = j_ := ⟨_, rfl⟩
    first | rw [hji15] at H | simp only [hji15] at H
    have hji15w : (IntKind.i64.wrap ((wrap64 ((x3_1.length : Int) - 1)) - x11_1)) = ji15 := (i64_w _).trans hji15
    obtain ⟨c16, H⟩ := iN H
    have c16b0 : decide (0 ≤ (ji15)) = true := decide_eq_true c16
    clear c16
    obtain ⟨c17, H⟩ := iN H
    have c17b0 : decide ((ji15) < (x3_1.length : Int)) = true := decide_eq_true c17
    (try (have c17b0_hl3_1 := c17b0; rw [hl3_1] at c17b0_hl3_1))
    clear c17
    obtain ⟨y226, hy226⟩ : ∃ y_ : List Int, y_ = (x3_1.set ((ji15) : Int).toNat ((ji14) % 256)) := ⟨_, rfl⟩
    (try first | rw [← hy226] at H | (dsimp only at H; rw [← hy226] at H)); (try rw [Option.bind_some] at H)
    have Ny226 := Aside0.mk hy226
    clear hy226
    have H' := Aside0.mk H
    clear H
    have p225 : 0 ≤ ((ji9) : Int) := oa
    have q225 : (ji9) < (l0.length : Int) := oa
    obtain ⟨ad225, e225, hx225_0⟩ := Kd.at_int HR0.out (ji9) p225 q225
    cases e225
    try replace hx225_0 := (HB.out.cell (World.block_lt_of_cell? w _ hx225_0)).trans hx225_0
    replace p225 := eq_true p225
    replace q225 := eq_true q225
    have p18 : 0 ≤ ((ji15) : Int) := oa
    have q18 : ((ji15) : Int) < ((x3_1.length : Int) : Int) := oa
    obtain ⟨go18, co18, eo18, gb18, gl18, cl18, HG18⟩ := Kd.R_form HO_3.out (by omega)
    (first | cases eo18 | (injection eo18 with ea_ en_ ec_; (first | subst ea_ | (injection ea_ with ea_; subst ea_)); subst ec_; clear en_))
    have GB18 := Aside0.mk gb18
    have GG18 := Aside0.mk HG18
    clear gb18 gl18 HG18
    obtain ⟨hx18_0, hf18_0⟩ := Kd.R_celln 0 HO_3.out ((ji15) : Int) p18 q18
    replace p18 := eq_true p18
    replace q18 := eq_true q18
    have HP19 := Kd.R_putg HO_3.out ((ji15) : Int) ((ji14) % 256)
    go_wp2_with (first | ((with_reducible refine gate_store (t := 5) (p := 30) rfl ?_); refine se 5 30 (w1 := (wr.setCell ⟨go18, ((ji15) : Int).toNat, none⟩ (.int .u8 ((ji14) % 256)))) ?_; intro w20 hw; have hg : wr.grownBy w20 (some go18) := (by rw [hw]; exact HP19.2); have hp_ : Kd.R (Kd.int .u8) 5 w20 w.heap.size (fun _ => True) (.slice (some ⟨go18, 0, none⟩) x3_1.length co7) y226 := (by rw [hw, Ny226.out]; exact HP19.1); clear HP19; replace HO_3 := Aside0.mk (hp_); replace HB := Aside0.mk ((by rw [hw]; exact below_set (HB.out) GB18.out : Below w.heap.size w w20)); clear hg hw hp_))
    (try simp only [← hl3_1])
    go_roundg k1
    case measure => have := HK1.out; omega
    case rel => exact ⟨(y226), (wrap64 (x11_1 + 1)), fs, H', ⟨by have := HK1.out; omega⟩, ⟨by (try simp only [hl3_1]); (with_reducible repeat (first | apply Kd.R_alloc | apply Kd.R_drewN | apply Kd.R_drew)); exact HO_3.out⟩, ⟨bz HB.out⟩⟩
   ·rw [if_neg c8] at H
    have c8b0 : decide (x11_1 < (y222.length : Int)) = false := decide_eq_false c8
    (try (have c8b0_hl3_1 := c8b0; rw [hl3_1] at c8b0_hl3_1))
    clear c8
    obtain ⟨t227, A21, H⟩ := bs1 H
    obtain rfl := Option.some.inj H
    have hcv22 := own_string (P := Tryd.prog) Tryd.underlying82 Tryd.underlying5 Tryd.underlying9 (Kd.own_of_R HO_3.out)
    go_wp2_with (first | ((with_reducible refine gc 26 rfl ?_); refine gl (some 34) Tryd.func26 #[.string (strOfNums x3_1)] ?_; (with_reducible refine (natural_Normalize.calls k1 (strOfNums x3_1) t227 _ A21.out).mono ?_); rintro e w23 ⟨rfl, hb⟩; refine ⟨_, rfl, ?_⟩; replace HO_3 := Aside0.mk (rb HO_3.out hb); replace HB := Aside0.mk (bs HB.out hb); (try clear hb)))
    go_ret
    exact ⟨by first | rfl | (simp [errW_none, errW_some] <;> rfl) | (simp only [← hji2]; first | rfl | (simp [errW_none, errW_some] <;> rfl)) | (simp [*, errW_none, errW_some] <;> rfl), bz HB.out⟩

/-! ### natural_GCD: function 27 -/
def natural_GCD.l0 : Nat → List Int → List Int → Option (ByteArray)
 | 0, _, _ => none
 | k + 1, x5, x6 => if (x6.length : Int) > 0 then ((natural_divide.f k x5 x6).bind fun bt234 => (natural_GCD.l0 k x6 bt234.2)) else ((natural_limbs_text.f k x5).bind fun t240 => (some t240))
def natural_GCD.f (k : Nat) (a0 : ByteArray) (a1 : ByteArray) : Option (ByteArray) := (natural_parse.f k a0).bind fun t228 => ((natural_parse.f k a1).bind fun t231 => (natural_GCD.l0 k t228 t231))
theorem natural_GCD.mono_l : ∀ k, (∀ y0 y1, LeO (natural_GCD.l0 k y0 y1) (natural_GCD.l0 (k + 1) y0 y1))
 | 0 => fun _ _ r h => by simp [natural_GCD.l0] at h
 | k + 1 => by
  have ih0 := natural_GCD.mono_l k
  ·intro y0 y1
   unfold natural_GCD.l0
   repeat' with_reducible first | exact ih0 _ _ | exact natural_divide.mono _ _ _ | exact natural_limbs_text.mono _ _ | exact natural_parse.mono _ _ | exact LeO.refl _ | exact LeO.none _ | refine LeO.ite ?_ ?_ | refine LeO.bind ?_ (fun _ => ?_)
theorem natural_GCD.mono : ∀ a0 a1 k, LeO (natural_GCD.f k a0 a1) (natural_GCD.f (k + 1) a0 a1) := by
 intro a0 a1 k
 have ih0 := natural_GCD.mono_l k
 unfold natural_GCD.f
 repeat' with_reducible first | exact ih0 _ _ | exact natural_divide.mono _ _ _ | exact natural_limbs_text.mono _ _ | exact natural_parse.mono _ _ | exact LeO.refl _ | exact LeO.none _ | refine LeO.ite ?_ ?_ | refine LeO.bind ?_ (fun _ => ?_)
set_option maxHeartbeats 8000000 in
set_option maxRecDepth 100000 in
theorem natural_GCD.calls (k : Nat) (a0 : ByteArray) (a1 : ByteArray) (r : ByteArray) (w : World) (h : natural_GCD.f k a0 a1 = some r) :
  Calls Tryd.prog 27 #[.string a0, .string a1] w fun e w' => e = .returned (.string r) ∧ Below w.heap.size w w' := by
 have HB := Aside0.mk (Below.refl w.heap.size w)
 have H := h
 clear h
 unfold natural_GCD.f at H
 obtain ⟨t228, A3, H⟩ := bs1 H
 obtain ⟨t231, A4, H⟩ := bs1 H
 have H' := Aside0.mk H
 clear H
 go_enter Tryd.func27, Tryd.ntmps27
 go_wp2_with (first | ((with_reducible refine gc 54 rfl ?_); refine gl (some 10) Tryd.func54 #[.string a0] ?_; (with_reducible refine (natural_parse.calls k a0 t228 _ A3.out).mono ?_); rintro e w5 ⟨v229, rfl, ho0, hb⟩; refine ⟨_, rfl, ?_⟩; have HO230 := Aside0.mk (Kd.V_lower (Kd.V_mono (ok' := fun k_ => True) ho0 (fun k_ hk_ => trivial)) (sz HB.out)); replace HB := Aside0.mk (bs HB.out hb); (try clear hb ho0)) | ((with_reducible refine gc 54 rfl ?_); refine gl (some 12) Tryd.func54 #[.string a1] ?_; (with_reducible refine (natural_parse.calls k a1 t231 _ A4.out).mono ?_); rintro e w6 ⟨v232, rfl, ho0, hb⟩; refine ⟨_, rfl, ?_⟩; replace HO230 := Aside0.mk (vb HO230.out hb); have HO233 := Aside0.mk (Kd.V_lower (Kd.V_mono (ok' := fun k_ => True) ho0 (fun k_ hk_ => trivial)) (sz HB.out)); replace HB := Aside0.mk (bs HB.out hb); (try clear hb ho0)))
 go_loopg [5, 6] k (fun kq v5 v6 w' => ∃ (x5_1 : List Int) (x6_1 : List Int), Aside0 (natural_GCD.l0 kq x5_1 x6_1 = some r) ∧ Aside0 (kq ≤ k) ∧ Aside0 (Kd.V (Kd.int .u32) 72 w' w.heap.size (fun _ => True) v5 x5_1) ∧ Aside0 (Kd.V (Kd.int .u32) 72 w' w.heap.size (fun _ => True) v6 x6_1) ∧ Aside0 (Below w.heap.size w w'))
 case atStart => exact ⟨(t228), (t231), H', ⟨Nat.le_refl _⟩, ⟨vs HO230.out⟩, ⟨vs HO233.out⟩, ⟨bz HB.out⟩⟩
 case round =>
  clear H'
  obtain ⟨x5_1, x6_1, HA, HK1, HO_5, HO_6, HB⟩ := hrel
  cases gk with
  | zero => exact absurd HA.out (by simp [natural_GCD.l0])
  | succ k1 =>
   have H := HA.out
   clear HA
   simp only [natural_GCD.l0] at H
   by_cases c7 : (x6_1.length : Int) > 0
   ·rw [if_pos c7] at H
    have c7b0 : decide (0 < (x6_1.length : Int)) = true := decide_eq_true c7
    have c7b1 : decide (0 < x6_1.length) = true := decide_eq_true (by omega)
    clear c7
    obtain ⟨⟨t234, t237⟩, A8, H⟩ := bs1 H; dsimp only at H
    have H' := Aside0.mk H
    clear H
    obtain ⟨Ao9, co9, rfl⟩ := Kd.V_slice HO_6.out
    obtain ⟨Ao10, co10, rfl⟩ := Kd.V_slice HO_5.out
    go_wp2_with (first | ((with_reducible refine gc 55 rfl ?_); refine gl (some 19) Tryd.func55 #[.slice Ao10 x5_1.length co10, .slice Ao9 x6_1.length co9] ?_; (with_reducible refine (natural_divide.calls k1 (fun k_ => True) _ _ x5_1 _ _ x6_1 t234 t237 _ ?side1 ?side2 ?side3 A8.out).mono ?_); (case side1 => exact HO_5.out); (case side2 => exact vs (Kd.V_reads' HO_6.out).2.2); (case side3 => exact (Kd.V_reads' HO_6.out).2.1); rintro e w11 ⟨v235, v238, rfl, ho0, ho1, hb⟩; refine ⟨_, rfl, ?_⟩; replace HO_5 := Aside0.mk (vb HO_5.out hb); replace HO_6 := Aside0.mk (vb HO_6.out hb); have HO236 := Aside0.mk (Kd.V_lower (Kd.V_mono (ok' := fun k_ => True) ho0 (fun k_ hk_ => trivial)) (sz HB.out)); have HO239 := Aside0.mk (Kd.V_lower (Kd.V_mono (ok' := fun k_ => True) ho1 (fun k_ hk_ => trivial)) (sz HB.out)); replace HB := Aside0.mk (bs HB.out hb); (try clear hb ho0 ho1)))
    go_roundg k1
    case measure => have := HK1.out; omega
    case rel => exact ⟨(x6_1), (t237), H', ⟨by have := HK1.out; omega⟩, ⟨vs HO_6.out⟩, ⟨vs HO239.out⟩, ⟨bz HB.out⟩⟩
   ·rw [if_neg c7] at H
    have c7b0 : decide (0 < (x6_1.length : Int)) = false := decide_eq_false c7
    have c7b1 : decide (0 < x6_1.length) = false := decide_eq_false (by omega)
    clear c7
    obtain ⟨t240, A12, H⟩ := bs1 H
    obtain rfl := Option.some.inj H
    obtain ⟨Ao13, co13, rfl⟩ := Kd.V_slice HO_6.out
    obtain ⟨Ao14, co14, rfl⟩ := Kd.V_slice HO_5.out
    go_wp2_with (first | ((with_reducible refine gc 56 rfl ?_); refine gl (some 25) Tryd.func56 #[.slice Ao14 x5_1.length co14] ?_; (with_reducible refine (natural_limbs_text.calls k1 _ _ x5_1 t240 _ ?side1 ?side2 A12.out).mono ?_); (case side1 => exact vs (Kd.V_reads' HO_5.out).2.2); (case side2 => exact (Kd.V_reads' HO_5.out).2.1); rintro e w15 ⟨rfl, hb⟩; refine ⟨_, rfl, ?_⟩; replace HO_5 := Aside0.mk (vb HO_5.out hb); replace HO_6 := Aside0.mk (vb HO_6.out hb); replace HB := Aside0.mk (bs HB.out hb); (try clear hb)))
    go_ret
    exact ⟨fe, bz HB.out⟩

/-! ### natural_Divide: function 51 -/
def natural_Divide.f (k : Nat) (a0 : ByteArray) (a1 : ByteArray) : Option (ByteArray × ByteArray × Bool) := (natural_parse.f k a1).bind fun t241 => (if (t241.length : Int) = 0 then (some ((⟨#[]⟩ : ByteArray), (⟨#[]⟩ : ByteArray), false)) else ((natural_parse.f k a0).bind fun t244 => ((natural_divide.f k t244 t241).bind fun bt247 => ((natural_limbs_text.f k bt247.1).bind fun t253 => ((natural_limbs_text.f k bt247.2).bind fun t254 => (some (t253, t254, true)))))))
theorem natural_Divide.mono : ∀ a0 a1 k, LeO (natural_Divide.f k a0 a1) (natural_Divide.f (k + 1) a0 a1) := by
 intro a0 a1 k
 unfold natural_Divide.f
 repeat' with_reducible first | exact natural_divide.mono _ _ _ | exact natural_limbs_text.mono _ _ | exact natural_parse.mono _ _ | exact LeO.refl _ | exact LeO.none _ | refine LeO.ite ?_ ?_ | refine LeO.bind ?_ (fun _ => ?_)
set_option maxHeartbeats 8000000 in
set_option maxRecDepth 100000 in
theorem natural_Divide.calls (k : Nat) (a0 : ByteArray) (a1 : ByteArray) (r1 : ByteArray) (r2 : ByteArray) (r3 : Bool) (w : World) (h : natural_Divide.f k a0 a1 = some (r1, r2, r3)) :
  Calls Tryd.prog 51 #[.string a0, .string a1] w fun e w' => e = .returned (.tuple #[.string r1, .string r2, .bool r3]) ∧ Below w.heap.size w w' := by
 have HB := Aside0.mk (Below.refl w.heap.size w)
 have H := h
 clear h
 unfold natural_Divide.f at H
 obtain ⟨t241, A3, H⟩ := bs1 H
 by_cases c4 : (t241.length : Int) = 0
 ·rw [if_pos c4] at H
  have c4b0 := beq_iff_eq.mpr c4
  have c4b1 := bne_eq_false_iff_eq.mpr c4
  clear c4
  simp only [Option.some.injEq, Prod.mk.injEq] at H
  obtain ⟨rfl, rfl, rfl⟩ := H
  go_enter Tryd.func51, Tryd.ntmps51
  go_wp2_with (first | ((with_reducible refine gc 54 rfl ?_); refine gl (some 11) Tryd.func54 #[.string a1] ?_; (with_reducible refine (natural_parse.calls k a1 t241 _ A3.out).mono ?_); rintro e w5 ⟨v242, rfl, ho0, hb⟩; refine ⟨_, rfl, ?_⟩; have HO243 := Aside0.mk (Kd.V_lower (Kd.V_mono (ok' := fun k_ => True) ho0 (fun k_ hk_ => trivial)) (sz HB.out)); replace HB := Aside0.mk (bs HB.out hb); (try clear hb ho0); obtain ⟨Ao6, co6, rfl⟩ := Kd.V_slice HO243.out))
  go_ret3
  exact ⟨fe, bz HB.out⟩
 ·rw [if_neg c4] at H
  have c4b0 := beq_eq_false_iff_ne.mpr c4
  have c4b1 := bne_iff_ne.mpr c4
  have c4b2 : ¬ (t241 = []) := fun h_ => c4 (by rw [h_]; rfl)
  obtain ⟨t244, A7, H⟩ := bs1 H
  obtain ⟨⟨t247, t250⟩, A8, H⟩ := bs1 H; dsimp only at H
  obtain ⟨t253, A9, H⟩ := bs1 H
  obtain ⟨t254, A10, H⟩ := bs1 H
  simp only [Option.some.injEq, Prod.mk.injEq] at H
  obtain ⟨rfl, rfl, rfl⟩ := H
  go_enter Tryd.func51, Tryd.ntmps51
  go_wp2_with (first | ((with_reducible refine gc 54 rfl ?_); refine gl (some 11) Tryd.func54 #[.string a1] ?_; (with_reducible refine (natural_parse.calls k a1 t241 _ A3.out).mono ?_); rintro e w11 ⟨v242, rfl, ho0, hb⟩; refine ⟨_, rfl, ?_⟩; have HO243 := Aside0.mk (Kd.V_lower (Kd.V_mono (ok' := fun k_ => True) ho0 (fun k_ hk_ => trivial)) (sz HB.out)); replace HB := Aside0.mk (bs HB.out hb); (try clear hb ho0); obtain ⟨Ao12, co12, rfl⟩ := Kd.V_slice HO243.out) | ((with_reducible refine gc 54 rfl ?_); refine gl (some 17) Tryd.func54 #[.string a0] ?_; (with_reducible refine (natural_parse.calls k a0 t244 _ A7.out).mono ?_); rintro e w13 ⟨v245, rfl, ho0, hb⟩; refine ⟨_, rfl, ?_⟩; replace HO243 := Aside0.mk (vb HO243.out hb); have HO246 := Aside0.mk (Kd.V_lower (Kd.V_mono (ok' := fun k_ => True) ho0 (fun k_ hk_ => trivial)) (sz HB.out)); replace HB := Aside0.mk (bs HB.out hb); (try clear hb ho0); obtain ⟨Ao14, co14, rfl⟩ := Kd.V_slice HO246.out) | ((with_reducible refine gc 55 rfl ?_); refine gl (some 19) Tryd.func55 #[.slice Ao14 t244.length co14, .slice Ao12 t241.length co12] ?_; (with_reducible refine (natural_divide.calls k (fun k_ => True) _ _ t244 _ _ t241 t247 t250 _ ?side1 ?side2 ?side3 A8.out).mono ?_); (case side1 => exact HO246.out); (case side2 => exact vs (Kd.V_reads' HO243.out).2.2); (case side3 => exact (Kd.V_reads' HO243.out).2.1); rintro e w15 ⟨v248, v251, rfl, ho0, ho1, hb⟩; refine ⟨_, rfl, ?_⟩; replace HO243 := Aside0.mk (vb HO243.out hb); replace HO246 := Aside0.mk (vb HO246.out hb); have HO249 := Aside0.mk (Kd.V_lower (Kd.V_mono (ok' := fun k_ => True) ho0 (fun k_ hk_ => trivial)) (sz HB.out)); have HO252 := Aside0.mk (Kd.V_lower (Kd.V_mono (ok' := fun k_ => True) ho1 (fun k_ hk_ => trivial)) (sz HB.out)); replace HB := Aside0.mk (bs HB.out hb); (try clear hb ho0 ho1); obtain ⟨Ao16, co16, rfl⟩ := Kd.V_slice HO249.out) | ((with_reducible refine gc 56 rfl ?_); refine gl (some 23) Tryd.func56 #[.slice Ao16 t247.length co16] ?_; (with_reducible refine (natural_limbs_text.calls k _ _ t247 t253 _ ?side1 ?side2 A9.out).mono ?_); (case side1 => exact vs (Kd.V_reads' HO249.out).2.2); (case side2 => exact (Kd.V_reads' HO249.out).2.1); rintro e w17 ⟨rfl, hb⟩; refine ⟨_, rfl, ?_⟩; replace HO243 := Aside0.mk (vb HO243.out hb); replace HO246 := Aside0.mk (vb HO246.out hb); replace HO249 := Aside0.mk (vb HO249.out hb); replace HO252 := Aside0.mk (vb HO252.out hb); replace HB := Aside0.mk (bs HB.out hb); (try clear hb); obtain ⟨Ao18, co18, rfl⟩ := Kd.V_slice HO252.out) | ((with_reducible refine gc 56 rfl ?_); refine gl (some 25) Tryd.func56 #[.slice Ao18 t250.length co18] ?_; (with_reducible refine (natural_limbs_text.calls k _ _ t250 t254 _ ?side1 ?side2 A10.out).mono ?_); (case side1 => exact vs (Kd.V_reads' HO252.out).2.2); (case side2 => exact (Kd.V_reads' HO252.out).2.1); rintro e w19 ⟨rfl, hb⟩; refine ⟨_, rfl, ?_⟩; replace HO243 := Aside0.mk (vb HO243.out hb); replace HO246 := Aside0.mk (vb HO246.out hb); replace HO249 := Aside0.mk (vb HO249.out hb); replace HO252 := Aside0.mk (vb HO252.out hb); replace HB := Aside0.mk (bs HB.out hb); (try clear hb)))
  go_ret3
  exact ⟨fe, bz HB.out⟩

/-! ### rational_reduced: function 30 -/
def rational_reduced.f (k : Nat) (a0 : Bool) (a1 : ByteArray) (a2 : ByteArray) : Option (Bool × ByteArray × ByteArray) := (natural_Normalize.f k a1).bind fun t256 => ((natural_Normalize.f k a2).bind fun t257 => (if t256.toList = ([] : List UInt8) then (some (false, (⟨#[]⟩ : ByteArray), (⟨#[]⟩ : ByteArray))) else (if t257.toList = ([1] : List UInt8) then (some (a0, t256, (⟨#[]⟩ : ByteArray))) else ((natural_GCD.f k t256 t257).bind fun t258 => (if t258.toList = ([1] : List UInt8) then (some (a0, t256, t257)) else ((natural_Divide.f k t256 t258).bind fun bt259 => ((natural_Divide.f k t257 t258).bind fun bt262 => (if bt262.1.toList = ([1] : List UInt8) then (some (a0, bt259.1, (⟨#[]⟩ : ByteArray))) else (some (a0, bt259.1, bt262.1))))))))))
theorem rational_reduced.mono : ∀ a0 a1 a2 k, LeO (rational_reduced.f k a0 a1 a2) (rational_reduced.f (k + 1) a0 a1 a2) := by
 intro a0 a1 a2 k
 unfold rational_reduced.f
 repeat' with_reducible first | exact natural_Divide.mono _ _ _ | exact natural_GCD.mono _ _ _ | exact natural_Normalize.mono _ _ | exact LeO.refl _ | exact LeO.none _ | refine LeO.ite ?_ ?_ | refine LeO.bind ?_ (fun _ => ?_)
set_option maxHeartbeats 8000000 in
set_option maxRecDepth 100000 in
theorem rational_reduced.calls (k : Nat) (a0 : Bool) (a1 : ByteArray) (a2 : ByteArray) (r1 : Bool) (r2 : ByteArray) (r3 : ByteArray) (w : World) (h : rational_reduced.f k a0 a1 a2 = some (r1, r2, r3)) :
  Calls Tryd.prog 30 #[.bool a0, .string a1, .string a2] w fun e w' => e = .returned (.agg #[.bool r1, .string r2, .string r3]) ∧ Below w.heap.size w w' := by
 have hu23 := Tryd.underlying23
 have HB := Aside0.mk (Below.refl w.heap.size w)
 have H := h
 clear h
 unfold rational_reduced.f at H
 obtain ⟨t256, A4, H⟩ := bs1 H
 obtain ⟨t257, A5, H⟩ := bs1 H
 by_cases c6 : t256.toList = ([] : List UInt8)
 ·rw [if_pos c6] at H
  have c6b0 := beq_iff_eq.mpr c6
  have c6b1 := bne_eq_false_iff_eq.mpr c6
  clear c6
  simp only [Option.some.injEq, Prod.mk.injEq] at H
  obtain ⟨rfl, rfl, rfl⟩ := H
  go_enter Tryd.func30, Tryd.ntmps30
  go_wp2_with (first | ((with_reducible refine gd 6 rfl ?_); refine bx 6 (#[.bool false, .string (⟨#[]⟩ : ByteArray), .string (⟨#[]⟩ : ByteArray)]) 23 ?_; intro gb255 hg w7 hbox hb; have BK255 := Aside0.mk (hbox); have GW255 := sg hg HB.out; have GE255 := sg hg HB.out; replace HB := Aside0.mk (bs HB.out hb); clear hb hbox hg) | ((with_reducible refine gc 26 rfl ?_); refine gl (some 9) Tryd.func26 #[.string a1] ?_; (with_reducible refine (natural_Normalize.calls k a1 t256 _ A4.out).mono ?_); rintro e w8 ⟨rfl, hb⟩; refine ⟨_, rfl, ?_⟩; replace BK255 := Aside0.mk (bk0 BK255.out hb); replace HB := Aside0.mk (bs HB.out hb); (try clear hb)) | ((with_reducible refine gc 26 rfl ?_); refine gl (some 11) Tryd.func26 #[.string a2] ?_; (with_reducible refine (natural_Normalize.calls k a2 t257 _ A5.out).mono ?_); rintro e w9 ⟨rfl, hb⟩; refine ⟨_, rfl, ?_⟩; replace BK255 := Aside0.mk (bk0 BK255.out hb); replace HB := Aside0.mk (bs HB.out hb); (try clear hb); obtain ⟨hcz10_0, hcz10_1, hcz10_2, hfz10_0, hfz10_1, hfz10_2⟩ := c3 BK255.out))
  refine bodyPost_ret (results_cell_row rfl _ _ gb255 23 #[.bool false, .string (⟨#[]⟩ : ByteArray), .string (⟨#[]⟩ : ByteArray)] (0, 0) _ rfl (bq BK255.out) Tryd.underlying23 rfl (by kernel_rfl)) rfl ?_
  exact ⟨fe, bz HB.out⟩
 ·rw [if_neg c6] at H
  have c6b0 := beq_eq_false_iff_ne.mpr c6
  have c6b1 := bne_iff_ne.mpr c6
  by_cases c11 : t257.toList = ([1] : List UInt8)
  ·rw [if_pos c11] at H
   have c11b0 := beq_iff_eq.mpr c11
   have c11b1 := bne_eq_false_iff_eq.mpr c11
   clear c11
   simp only [Option.some.injEq, Prod.mk.injEq] at H
   obtain ⟨rfl, rfl, rfl⟩ := H
   go_enter Tryd.func30, Tryd.ntmps30
   go_wp2_with (first | ((with_reducible refine gd 6 rfl ?_); refine bx 6 (#[.bool false, .string (⟨#[]⟩ : ByteArray), .string (⟨#[]⟩ : ByteArray)]) 23 ?_; intro gb255 hg w12 hbox hb; have BK255 := Aside0.mk (hbox); have GW255 := sg hg HB.out; have GE255 := sg hg HB.out; replace HB := Aside0.mk (bs HB.out hb); clear hb hbox hg) | ((with_reducible refine gc 26 rfl ?_); refine gl (some 9) Tryd.func26 #[.string a1] ?_; (with_reducible refine (natural_Normalize.calls k a1 t256 _ A4.out).mono ?_); rintro e w13 ⟨rfl, hb⟩; refine ⟨_, rfl, ?_⟩; replace BK255 := Aside0.mk (bk0 BK255.out hb); replace HB := Aside0.mk (bs HB.out hb); (try clear hb)) | ((with_reducible refine gc 26 rfl ?_); refine gl (some 11) Tryd.func26 #[.string a2] ?_; (with_reducible refine (natural_Normalize.calls k a2 t257 _ A5.out).mono ?_); rintro e w14 ⟨rfl, hb⟩; refine ⟨_, rfl, ?_⟩; replace BK255 := Aside0.mk (bk0 BK255.out hb); replace HB := Aside0.mk (bs HB.out hb); (try clear hb); obtain ⟨hcz15_0, hcz15_1, hcz15_2, hfz15_0, hfz15_1, hfz15_2⟩ := c3 BK255.out))
   refine bodyPost_ret (results_cell_row rfl _ _ gb255 23 #[.bool a0, .string t256, .string (⟨#[]⟩ : ByteArray)] (0, 0) _ rfl (bq BK255.out) Tryd.underlying23 rfl (by kernel_rfl)) rfl ?_
   exact ⟨fe, bz HB.out⟩
  ·rw [if_neg c11] at H
   have c11b0 := beq_eq_false_iff_ne.mpr c11
   have c11b1 := bne_iff_ne.mpr c11
   obtain ⟨t258, A16, H⟩ := bs1 H
   by_cases c17 : t258.toList = ([1] : List UInt8)
   ·rw [if_pos c17] at H
    have c17b0 := beq_iff_eq.mpr c17
    have c17b1 := bne_eq_false_iff_eq.mpr c17
    clear c17
    simp only [Option.some.injEq, Prod.mk.injEq] at H
    obtain ⟨rfl, rfl, rfl⟩ := H
    go_enter Tryd.func30, Tryd.ntmps30
    go_wp2_with (first | ((with_reducible refine gd 6 rfl ?_); refine bx 6 (#[.bool false, .string (⟨#[]⟩ : ByteArray), .string (⟨#[]⟩ : ByteArray)]) 23 ?_; intro gb255 hg w18 hbox hb; have BK255 := Aside0.mk (hbox); have GW255 := sg hg HB.out; have GE255 := sg hg HB.out; replace HB := Aside0.mk (bs HB.out hb); clear hb hbox hg) | ((with_reducible refine gc 26 rfl ?_); refine gl (some 9) Tryd.func26 #[.string a1] ?_; (with_reducible refine (natural_Normalize.calls k a1 t256 _ A4.out).mono ?_); rintro e w19 ⟨rfl, hb⟩; refine ⟨_, rfl, ?_⟩; replace BK255 := Aside0.mk (bk0 BK255.out hb); replace HB := Aside0.mk (bs HB.out hb); (try clear hb)) | ((with_reducible refine gc 26 rfl ?_); refine gl (some 11) Tryd.func26 #[.string a2] ?_; (with_reducible refine (natural_Normalize.calls k a2 t257 _ A5.out).mono ?_); rintro e w20 ⟨rfl, hb⟩; refine ⟨_, rfl, ?_⟩; replace BK255 := Aside0.mk (bk0 BK255.out hb); replace HB := Aside0.mk (bs HB.out hb); (try clear hb)) | ((with_reducible refine gc 27 rfl ?_); refine gl (some 19) Tryd.func27 #[.string t256, .string t257] ?_; (with_reducible refine (natural_GCD.calls k t256 t257 t258 _ A16.out).mono ?_); rintro e w21 ⟨rfl, hb⟩; refine ⟨_, rfl, ?_⟩; replace BK255 := Aside0.mk (bk0 BK255.out hb); replace HB := Aside0.mk (bs HB.out hb); (try clear hb); obtain ⟨hcz22_0, hcz22_1, hcz22_2, hfz22_0, hfz22_1, hfz22_2⟩ := c3 BK255.out))
    refine bodyPost_ret (results_cell_row rfl _ _ gb255 23 #[.bool a0, .string t256, .string t257] (0, 0) _ rfl (bq BK255.out) Tryd.underlying23 rfl (by kernel_rfl)) rfl ?_
    exact ⟨fe, bz HB.out⟩
   ·rw [if_neg c17] at H
    have c17b0 := beq_eq_false_iff_ne.mpr c17
    have c17b1 := bne_iff_ne.mpr c17
    obtain ⟨⟨t259, t260, t261⟩, A23, H⟩ := bs1 H; dsimp only at H
    obtain ⟨⟨t262, t263, t264⟩, A24, H⟩ := bs1 H; dsimp only at H
    by_cases c25 : t262.toList = ([1] : List UInt8)
    ·rw [if_pos c25] at H
     have c25b0 := beq_iff_eq.mpr c25
     have c25b1 := bne_eq_false_iff_eq.mpr c25
     clear c25
     simp only [Option.some.injEq, Prod.mk.injEq] at H
     obtain ⟨rfl, rfl, rfl⟩ := H
     go_enter Tryd.func30, Tryd.ntmps30
     go_wp2_with (first | ((with_reducible refine gd 6 rfl ?_); refine bx 6 (#[.bool false, .string (⟨#[]⟩ : ByteArray), .string (⟨#[]⟩ : ByteArray)]) 23 ?_; intro gb255 hg w26 hbox hb; have BK255 := Aside0.mk (hbox); have GW255 := sg hg HB.out; have GE255 := sg hg HB.out; replace HB := Aside0.mk (bs HB.out hb); clear hb hbox hg) | ((with_reducible refine gc 26 rfl ?_); refine gl (some 9) Tryd.func26 #[.string a1] ?_; (with_reducible refine (natural_Normalize.calls k a1 t256 _ A4.out).mono ?_); rintro e w27 ⟨rfl, hb⟩; refine ⟨_, rfl, ?_⟩; replace BK255 := Aside0.mk (bk0 BK255.out hb); replace HB := Aside0.mk (bs HB.out hb); (try clear hb)) | ((with_reducible refine gc 26 rfl ?_); refine gl (some 11) Tryd.func26 #[.string a2] ?_; (with_reducible refine (natural_Normalize.calls k a2 t257 _ A5.out).mono ?_); rintro e w28 ⟨rfl, hb⟩; refine ⟨_, rfl, ?_⟩; replace BK255 := Aside0.mk (bk0 BK255.out hb); replace HB := Aside0.mk (bs HB.out hb); (try clear hb)) | ((with_reducible refine gc 27 rfl ?_); refine gl (some 19) Tryd.func27 #[.string t256, .string t257] ?_; (with_reducible refine (natural_GCD.calls k t256 t257 t258 _ A16.out).mono ?_); rintro e w29 ⟨rfl, hb⟩; refine ⟨_, rfl, ?_⟩; replace BK255 := Aside0.mk (bk0 BK255.out hb); replace HB := Aside0.mk (bs HB.out hb); (try clear hb)) | ((with_reducible refine gc 51 rfl ?_); refine gl (some 25) Tryd.func51 #[.string t256, .string t258] ?_; (with_reducible refine (natural_Divide.calls k t256 t258 t259 t260 t261 _ A23.out).mono ?_); rintro e w30 ⟨rfl, hb⟩; refine ⟨_, rfl, ?_⟩; replace BK255 := Aside0.mk (bk0 BK255.out hb); replace HB := Aside0.mk (bs HB.out hb); (try clear hb)) | ((with_reducible refine gc 51 rfl ?_); refine gl (some 32) Tryd.func51 #[.string t257, .string t258] ?_; (with_reducible refine (natural_Divide.calls k t257 t258 t262 t263 t264 _ A24.out).mono ?_); rintro e w31 ⟨rfl, hb⟩; refine ⟨_, rfl, ?_⟩; replace BK255 := Aside0.mk (bk0 BK255.out hb); replace HB := Aside0.mk (bs HB.out hb); (try clear hb); obtain ⟨hcz32_0, hcz32_1, hcz32_2, hfz32_0, hfz32_1, hfz32_2⟩ := c3 BK255.out))
     refine bodyPost_ret (results_cell_row rfl _ _ gb255 23 #[.bool a0, .string t259, .string (⟨#[]⟩ : ByteArray)] (0, 0) _ rfl (bq BK255.out) Tryd.underlying23 rfl (by kernel_rfl)) rfl ?_
     exact ⟨fe, bz HB.out⟩
    ·rw [if_neg c25] at H
     have c25b0 := beq_eq_false_iff_ne.mpr c25
     have c25b1 := bne_iff_ne.mpr c25
     simp only [Option.some.injEq, Prod.mk.injEq] at H
     obtain ⟨rfl, rfl, rfl⟩ := H
     go_enter Tryd.func30, Tryd.ntmps30
     go_wp2_with (first | ((with_reducible refine gd 6 rfl ?_); refine bx 6 (#[.bool false, .string (⟨#[]⟩ : ByteArray), .string (⟨#[]⟩ : ByteArray)]) 23 ?_; intro gb255 hg w33 hbox hb; have BK255 := Aside0.mk (hbox); have GW255 := sg hg HB.out; have GE255 := sg hg HB.out; replace HB := Aside0.mk (bs HB.out hb); clear hb hbox hg) | ((with_reducible refine gc 26 rfl ?_); refine gl (some 9) Tryd.func26 #[.string a1] ?_; (with_reducible refine (natural_Normalize.calls k a1 t256 _ A4.out).mono ?_); rintro e w34 ⟨rfl, hb⟩; refine ⟨_, rfl, ?_⟩; replace BK255 := Aside0.mk (bk0 BK255.out hb); replace HB := Aside0.mk (bs HB.out hb); (try clear hb)) | ((with_reducible refine gc 26 rfl ?_); refine gl (some 11) Tryd.func26 #[.string a2] ?_; (with_reducible refine (natural_Normalize.calls k a2 t257 _ A5.out).mono ?_); rintro e w35 ⟨rfl, hb⟩; refine ⟨_, rfl, ?_⟩; replace BK255 := Aside0.mk (bk0 BK255.out hb); replace HB := Aside0.mk (bs HB.out hb); (try clear hb)) | ((with_reducible refine gc 27 rfl ?_); refine gl (some 19) Tryd.func27 #[.string t256, .string t257] ?_; (with_reducible refine (natural_GCD.calls k t256 t257 t258 _ A16.out).mono ?_); rintro e w36 ⟨rfl, hb⟩; refine ⟨_, rfl, ?_⟩; replace BK255 := Aside0.mk (bk0 BK255.out hb); replace HB := Aside0.mk (bs HB.out hb); (try clear hb)) | ((with_reducible refine gc 51 rfl ?_); refine gl (some 25) Tryd.func51 #[.string t256, .string t258] ?_; (with_reducible refine (natural_Divide.calls k t256 t258 t259 t260 t261 _ A23.out).mono ?_); rintro e w37 ⟨rfl, hb⟩; refine ⟨_, rfl, ?_⟩; replace BK255 := Aside0.mk (bk0 BK255.out hb); replace HB := Aside0.mk (bs HB.out hb); (try clear hb)) | ((with_reducible refine gc 51 rfl ?_); refine gl (some 32) Tryd.func51 #[.string t257, .string t258] ?_; (with_reducible refine (natural_Divide.calls k t257 t258 t262 t263 t264 _ A24.out).mono ?_); rintro e w38 ⟨rfl, hb⟩; refine ⟨_, rfl, ?_⟩; replace BK255 := Aside0.mk (bk0 BK255.out hb); replace HB := Aside0.mk (bs HB.out hb); (try clear hb); obtain ⟨hcz39_0, hcz39_1, hcz39_2, hfz39_0, hfz39_1, hfz39_2⟩ := c3 BK255.out))
     refine bodyPost_ret (results_cell_row rfl _ _ gb255 23 #[.bool a0, .string t259, .string t262] (0, 0) _ rfl (bq BK255.out) Tryd.underlying23 rfl (by kernel_rfl)) rfl ?_
     exact ⟨fe, bz HB.out⟩

/-! ### rational_Make: function 11 -/
def rational_Make.f (k : Nat) (a0 : Bool) (a1 : ByteArray) (a2 : ByteArray) : Option (Bool × ByteArray × ByteArray × Bool) := (natural_Normalize.f k a2).bind fun t266 => (if t266.toList = ([] : List UInt8) then (some (false, (⟨#[]⟩ : ByteArray), (⟨#[]⟩ : ByteArray), false)) else ((rational_reduced.f k a0 a1 a2).bind fun bt267 => (some (bt267.1, bt267.2.1, bt267.2.2, true))))
theorem rational_Make.mono : ∀ a0 a1 a2 k, LeO (rational_Make.f k a0 a1 a2) (rational_Make.f (k + 1) a0 a1 a2) := by
 intro a0 a1 a2 k
 unfold rational_Make.f
 repeat' with_reducible first | exact natural_Normalize.mono _ _ | exact rational_reduced.mono _ _ _ _ | exact LeO.refl _ | exact LeO.none _ | refine LeO.ite ?_ ?_ | refine LeO.bind ?_ (fun _ => ?_)
set_option maxHeartbeats 8000000 in
set_option maxRecDepth 100000 in
theorem rational_Make.calls (k : Nat) (a0 : Bool) (a1 : ByteArray) (a2 : ByteArray) (r1 : Bool) (r2 : ByteArray) (r3 : ByteArray) (r4 : Bool) (w : World) (h : rational_Make.f k a0 a1 a2 = some (r1, r2, r3, r4)) :
  Calls Tryd.prog 11 #[.bool a0, .string a1, .string a2] w fun e w' => e = .returned (.tuple #[.agg #[.bool r1, .string r2, .string r3], .bool r4]) ∧ Below w.heap.size w w' := by
 have hu23 := Tryd.underlying23
 have HB := Aside0.mk (Below.refl w.heap.size w)
 have H := h
 clear h
 unfold rational_Make.f at H
 obtain ⟨t266, A4, H⟩ := bs1 H
 by_cases c5 : t266.toList = ([] : List UInt8)
 ·rw [if_pos c5] at H
  have c5b0 := beq_iff_eq.mpr c5
  have c5b1 := bne_eq_false_iff_eq.mpr c5
  clear c5
  simp only [Option.some.injEq, Prod.mk.injEq] at H
  obtain ⟨rfl, rfl, rfl, rfl⟩ := H
  go_enter Tryd.func11, Tryd.ntmps11
  go_wp2_with (first | ((with_reducible refine gd 6 rfl ?_); refine bx 6 (#[.bool false, .string (⟨#[]⟩ : ByteArray), .string (⟨#[]⟩ : ByteArray)]) 23 ?_; intro gb265 hg w6 hbox hb; have BK265 := Aside0.mk (hbox); have GW265 := sg hg HB.out; have GE265 := sg hg HB.out; replace HB := Aside0.mk (bs HB.out hb); clear hb hbox hg) | ((with_reducible refine gc 26 rfl ?_); refine gl (some 9) Tryd.func26 #[.string a2] ?_; (with_reducible refine (natural_Normalize.calls k a2 t266 _ A4.out).mono ?_); rintro e w7 ⟨rfl, hb⟩; refine ⟨_, rfl, ?_⟩; replace BK265 := Aside0.mk (bk0 BK265.out hb); replace HB := Aside0.mk (bs HB.out hb); (try clear hb); obtain ⟨hcz8_0, hcz8_1, hcz8_2, hfz8_0, hfz8_1, hfz8_2⟩ := c3 BK265.out))
  refine bodyPost_ret (results_ct rfl _ _ gb265 23 #[.bool false, .string (⟨#[]⟩ : ByteArray), .string (⟨#[]⟩ : ByteArray)] (0, 0) _ rfl (bq BK265.out) Tryd.underlying23 rfl (by kernel_rfl)) rfl ?_
  exact ⟨fe, bz HB.out⟩
 ·rw [if_neg c5] at H
  have c5b0 := beq_eq_false_iff_ne.mpr c5
  have c5b1 := bne_iff_ne.mpr c5
  obtain ⟨⟨t267, t268, t269⟩, A9, H⟩ := bs1 H; dsimp only at H
  simp only [Option.some.injEq, Prod.mk.injEq] at H
  obtain ⟨rfl, rfl, rfl, rfl⟩ := H
  go_enter Tryd.func11, Tryd.ntmps11
  go_wp2_with (first | ((with_reducible refine gd 6 rfl ?_); refine bx 6 (#[.bool false, .string (⟨#[]⟩ : ByteArray), .string (⟨#[]⟩ : ByteArray)]) 23 ?_; intro gb265 hg w10 hbox hb; have BK265 := Aside0.mk (hbox); have GW265 := sg hg HB.out; have GE265 := sg hg HB.out; replace HB := Aside0.mk (bs HB.out hb); clear hb hbox hg) | ((with_reducible refine gc 26 rfl ?_); refine gl (some 9) Tryd.func26 #[.string a2] ?_; (with_reducible refine (natural_Normalize.calls k a2 t266 _ A4.out).mono ?_); rintro e w11 ⟨rfl, hb⟩; refine ⟨_, rfl, ?_⟩; replace BK265 := Aside0.mk (bk0 BK265.out hb); replace HB := Aside0.mk (bs HB.out hb); (try clear hb)) | ((with_reducible refine gc 30 rfl ?_); refine gl (some 15) Tryd.func30 #[.bool a0, .string a1, .string a2] ?_; (with_reducible refine (rational_reduced.calls k a0 a1 a2 t267 t268 t269 _ A9.out).mono ?_); rintro e w12 ⟨rfl, hb⟩; refine ⟨_, rfl, ?_⟩; replace BK265 := Aside0.mk (bk0 BK265.out hb); replace HB := Aside0.mk (bs HB.out hb); (try clear hb); obtain ⟨hcz13_0, hcz13_1, hcz13_2, hfz13_0, hfz13_1, hfz13_2⟩ := c3 BK265.out))
  refine bodyPost_ret (results_ct rfl _ _ gb265 23 #[.bool t267, .string t268, .string t269] (0, 0) _ rfl (bq BK265.out) Tryd.underlying23 rfl (by kernel_rfl)) rfl ?_
  exact ⟨fe, bz HB.out⟩

/-! ### natural_FromUint: function 60 -/
def natural_FromUint.f (k : Nat) (a0 : Int) : Option (ByteArray) := (natural_limbs_text.f k (([(a0) % 4294967296, (a0 / 4294967296) % 4294967296] : List Int))).bind fun t273 => (some t273)
theorem natural_FromUint.mono : ∀ a0 k, LeO (natural_FromUint.f k a0) (natural_FromUint.f (k + 1) a0) := by
 intro a0 k
 unfold natural_FromUint.f
 repeat' with_reducible first | exact natural_limbs_text.mono _ _ | exact LeO.refl _ | exact LeO.none _ | refine LeO.ite ?_ ?_ | refine LeO.bind ?_ (fun _ => ?_)
set_option maxHeartbeats 8000000 in
set_option maxRecDepth 100000 in
theorem natural_FromUint.calls (k : Nat) (a0 : Int) (r : ByteArray) (w : World) (h : natural_FromUint.f k a0 = some r) :
  Calls Tryd.prog 60 #[.int .u64 a0] w fun e w' => e = .returned (.string r) ∧ Below w.heap.size w w' := by
 have HB := Aside0.mk (Below.refl w.heap.size w)
 have H := h
 clear h
 unfold natural_FromUint.f at H
 obtain ⟨y270, hy270⟩ : ∃ y_ : List Int, y_ = (([(a0) % 4294967296, (a0 / 4294967296) % 4294967296] : List Int)) := ⟨_, rfl⟩
 (try first | rw [← hy270] at H | (dsimp only at H; rw [← hy270] at H)); (try rw [Option.bind_some] at H)
 have Ny270 := Aside0.mk hy270
 clear hy270
 obtain ⟨t273, A2, H⟩ := bs1 H
 obtain rfl := Option.some.inj H
 go_enter Tryd.func60, Tryd.ntmps60
 go_wp2_with (first | ((with_reducible refine gd 8 rfl ?_); refine Kd.R_lit (Kd.int .u32) _ 72 ?hg (N := 8) ?hd (xs := ([(a0) % 4294967296, (a0 / 4294967296) % 4294967296] : List Int)) (inner := [.int .u32 ((a0) % 4294967296), .int .u32 ((a0 / 4294967296) % 4294967296)]) (ok := fun _ => True) (okp := fun _ => True) ?hr ?hp (fun _ hk => hk) trivial (Below.refl _ _) (Nat.le_refl _) (by simp) ?_; (case hd => rfl); (case hg => rfl); (case hr => first | (go_simp; done) | (go_simp; rfl)); (case hp => exact (Reps.one (show Kd.M (Kd.int .u32) _ _ _ ((a0) % 4294967296) [.int .u32 ((a0) % 4294967296)] from rfl) (Reps.one (show Kd.M (Kd.int .u32) _ _ _ ((a0 / 4294967296) % 4294967296) [.int .u32 ((a0 / 4294967296) % 4294967296)] from rfl) (Reps.none _ _)))); intro v271 w3 ho4 hb hg_ hnew_; clear hg_ hnew_; (first | rw [← Ny270.out] at ho4 | (simp only [Int.reduceToNat] at ho4; rw [← Ny270.out] at ho4)); have HO272 := Aside0.mk (Kd.R_lower ho4 (sz HB.out)); replace HB := Aside0.mk (bs HB.out hb); clear hb ho4; obtain ⟨Ao5, co5, eo5⟩ := Kd.R_slice HO272.out; subst eo5) | ((with_reducible refine gc 56 rfl ?_); refine gl (some 9) Tryd.func56 #[.slice Ao5 y270.length co5] ?_; (with_reducible refine (natural_limbs_text.calls k _ _ y270 t273 _ ?side1 ?side2 A2.out).mono ?_); (case side1 => exact vs (Kd.R_reads' HO272.out).2.2); (case side2 => exact (Kd.R_reads' HO272.out).2.1); rintro e w6 ⟨rfl, hb⟩; refine ⟨_, rfl, ?_⟩; replace HO272 := Aside0.mk (rb HO272.out hb); replace HB := Aside0.mk (bs HB.out hb); (try clear hb)))
 go_ret
 exact ⟨fe, bz HB.out⟩

/-! ### rational_magnitude: function 33 -/
def rational_magnitude.f (k : Nat) (a0 : Int) : Option (ByteArray) := if a0 < 0 then ((natural_FromUint.f k (IntKind.u64.wrap (-(IntKind.u64.wrap (a0))))).bind fun t274 => (some t274)) else ((natural_FromUint.f k (IntKind.u64.wrap (a0))).bind fun t275 => (some t275))
theorem rational_magnitude.mono : ∀ a0 k, LeO (rational_magnitude.f k a0) (rational_magnitude.f (k + 1) a0) := by
 intro a0 k
 unfold rational_magnitude.f
 repeat' with_reducible first | exact natural_FromUint.mono _ _ | exact LeO.refl _ | exact LeO.none _ | refine LeO.ite ?_ ?_ | refine LeO.bind ?_ (fun _ => ?_)
set_option maxHeartbeats 8000000 in
set_option maxRecDepth 100000 in
theorem rational_magnitude.calls (k : Nat) (a0 : Int) (r : ByteArray) (w : World) (h : rational_magnitude.f k a0 = some r) :
  Calls Tryd.prog 33 #[.int .i64 a0] w fun e w' => e = .returned (.string r) ∧ Below w.heap.size w w' := by
 have HB := Aside0.mk (Below.refl w.heap.size w)
 have H := h
 clear h
 unfold rational_magnitude.f at H
 by_cases c2 : a0 < 0
 ·rw [if_pos c2] at H
  have c2b0 : decide (a0 < 0) = true := decide_eq_true c2
  clear c2
  obtain ⟨t274, A3, H⟩ := bs1 H
  obtain rfl := Option.some.inj H
  go_enter Tryd.func33, Tryd.ntmps33
  go_wp2_with (first | ((with_reducible refine gc 60 rfl ?_); refine gl (some 8) Tryd.func60 #[.int .u64 (IntKind.u64.wrap (-(IntKind.u64.wrap (a0))))] ?_; (with_reducible refine (natural_FromUint.calls k (IntKind.u64.wrap (-(IntKind.u64.wrap (a0)))) t274 _ A3.out).mono ?_); rintro e w4 ⟨rfl, hb⟩; refine ⟨_, rfl, ?_⟩; replace HB := Aside0.mk (bs HB.out hb); (try clear hb)))
  go_ret
  exact ⟨fe, bz HB.out⟩
 ·rw [if_neg c2] at H
  have c2b0 : decide (a0 < 0) = false := decide_eq_false c2
  clear c2
  obtain ⟨t275, A5, H⟩ := bs1 H
  obtain rfl := Option.some.inj H
  go_enter Tryd.func33, Tryd.ntmps33
  go_wp2_with (first | ((with_reducible refine gc 60 rfl ?_); refine gl (some 11) Tryd.func60 #[.int .u64 (IntKind.u64.wrap (a0))] ?_; (with_reducible refine (natural_FromUint.calls k (IntKind.u64.wrap (a0)) t275 _ A5.out).mono ?_); rintro e w6 ⟨rfl, hb⟩; refine ⟨_, rfl, ?_⟩; replace HB := Aside0.mk (bs HB.out hb); (try clear hb)))
  go_ret
  exact ⟨fe, bz HB.out⟩

/-! ### rational_Fraction: function 21 -/
def rational_Fraction.f (k : Nat) (a0 : Int) (a1 : Int) : Option (Bool × ByteArray × ByteArray × Bool) := (rational_magnitude.f k a0).bind fun t277 => ((rational_magnitude.f k a1).bind fun t278 => ((rational_Make.f k ((decide (a0 < 0)) != (decide (a1 < 0))) t277 t278).bind fun bt279 => (some (bt279.1, bt279.2.1, bt279.2.2.1, bt279.2.2.2))))
theorem rational_Fraction.mono : ∀ a0 a1 k, LeO (rational_Fraction.f k a0 a1) (rational_Fraction.f (k + 1) a0 a1) := by
 intro a0 a1 k
 unfold rational_Fraction.f
 repeat' with_reducible first | exact rational_Make.mono _ _ _ _ | exact rational_magnitude.mono _ _ | exact LeO.refl _ | exact LeO.none _ | refine LeO.ite ?_ ?_ | refine LeO.bind ?_ (fun _ => ?_)
set_option maxHeartbeats 8000000 in
set_option maxRecDepth 100000 in
theorem rational_Fraction.calls (k : Nat) (a0 : Int) (a1 : Int) (r1 : Bool) (r2 : ByteArray) (r3 : ByteArray) (r4 : Bool) (w : World) (h : rational_Fraction.f k a0 a1 = some (r1, r2, r3, r4)) :
  Calls Tryd.prog 21 #[.int .i64 a0, .int .i64 a1] w fun e w' => e = .returned (.tuple #[.agg #[.bool r1, .string r2, .string r3], .bool r4]) ∧ Below w.heap.size w w' := by
 have hu23 := Tryd.underlying23
 have HB := Aside0.mk (Below.refl w.heap.size w)
 have H := h
 clear h
 unfold rational_Fraction.f at H
 obtain ⟨t277, A3, H⟩ := bs1 H
 obtain ⟨t278, A4, H⟩ := bs1 H
 obtain ⟨⟨t279, t280, t281, t282⟩, A5, H⟩ := bs1 H; dsimp only at H
 simp only [Option.some.injEq, Prod.mk.injEq] at H
 obtain ⟨rfl, rfl, rfl, rfl⟩ := H
 go_enter Tryd.func21, Tryd.ntmps21
 go_wp2_with (first | ((with_reducible refine gd 4 rfl ?_); refine bx 4 (#[.bool false, .string (⟨#[]⟩ : ByteArray), .string (⟨#[]⟩ : ByteArray)]) 23 ?_; intro gb276 hg w6 hbox hb; have BK276 := Aside0.mk (hbox); have GW276 := sg hg HB.out; have GE276 := sg hg HB.out; replace HB := Aside0.mk (bs HB.out hb); clear hb hbox hg) | ((with_reducible refine gc 33 rfl ?_); refine gl (some 12) Tryd.func33 #[.int .i64 a0] ?_; (with_reducible refine (rational_magnitude.calls k a0 t277 _ A3.out).mono ?_); rintro e w7 ⟨rfl, hb⟩; refine ⟨_, rfl, ?_⟩; replace BK276 := Aside0.mk (bk0 BK276.out hb); replace HB := Aside0.mk (bs HB.out hb); (try clear hb)) | ((with_reducible refine gc 33 rfl ?_); refine gl (some 14) Tryd.func33 #[.int .i64 a1] ?_; (with_reducible refine (rational_magnitude.calls k a1 t278 _ A4.out).mono ?_); rintro e w8 ⟨rfl, hb⟩; refine ⟨_, rfl, ?_⟩; replace BK276 := Aside0.mk (bk0 BK276.out hb); replace HB := Aside0.mk (bs HB.out hb); (try clear hb)) | ((with_reducible refine gc 11 rfl ?_); refine gl (some 15) Tryd.func11 #[.bool ((decide (a0 < 0)) != (decide (a1 < 0))), .string t277, .string t278] ?_; (with_reducible refine (rational_Make.calls k ((decide (a0 < 0)) != (decide (a1 < 0))) t277 t278 t279 t280 t281 t282 _ A5.out).mono ?_); rintro e w9 ⟨rfl, hb⟩; refine ⟨_, rfl, ?_⟩; replace BK276 := Aside0.mk (bk0 BK276.out hb); replace HB := Aside0.mk (bs HB.out hb); (try clear hb); obtain ⟨hcz10_0, hcz10_1, hcz10_2, hfz10_0, hfz10_1, hfz10_2⟩ := c3 BK276.out))
 refine bodyPost_ret (results_ct rfl _ _ gb276 23 #[.bool t279, .string t280, .string t281] (0, 0) _ rfl (bq BK276.out) Tryd.underlying23 rfl (by kernel_rfl)) rfl ?_
 exact ⟨fe, bz HB.out⟩

end Go.Proofs.YtgepdnoaemeofaaDoor.R
