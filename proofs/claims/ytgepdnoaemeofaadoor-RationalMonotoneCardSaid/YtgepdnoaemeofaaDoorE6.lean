/- Printed by a program of this session (wip/tools) out of the translation: plain functions and the proofs that the code comes to their answers. -/
import Derived.Test.YtgepdnoaemeofaaDoorK
import Derived.Test.YtgepdnoaemeofaaDoorE0
import Derived.Test.YtgepdnoaemeofaaDoorE1
import Derived.Test.YtgepdnoaemeofaaDoorE2
import Derived.Test.YtgepdnoaemeofaaDoorE5
namespace Go.Proofs.YtgepdnoaemeofaaDoor.E
open Go.RowKit Go.Proofs.YtgepdnoaemeofaaDoorW.PrintWords Go.Proofs.YtgepdnoaemeofaaDoorW.PrintLast Go.Proofs.YtgepdnoaemeofaaDoorW.PrintMore Go.Proofs.YtgepdnoaemeofaaDoorW.PK
attribute [local go_sem] max2_int min2_int max_two min_two max_three min_three max_four min_four   -- for this text's walks alone
set_option linter.unusedVariables false
set_option linter.unusedSimpArgs false

/-! ### natural_limbs_text: function 56 -/
def natural_limbs_text.l0 : Nat → List Int → List Int → Int → Int → Option (ByteArray)
 | 0, _, _, _, _ => none
 | k + 1, x0, x3, x10, x11 => if x11 < x10 then (if 0 ≤ (wrap64 (Int.tdiv x11 4)) then (if (wrap64 (Int.tdiv x11 4)) < (x0.length : Int) then (if 0 ≤ (wrap64 (8 * (Int.tmod x11 4))) then (if 0 ≤ (wrap64 ((wrap64 ((x3.length : Int) - 1)) - x11)) then (if (wrap64 ((wrap64 ((x3.length : Int) - 1)) - x11)) < (x3.length : Int) then (natural_limbs_text.l0 k x0 (x3.set ((wrap64 ((wrap64 ((x3.length : Int) - 1)) - x11)) : Int).toNat ((shr .u32 (rd x0 (wrap64 (Int.tdiv x11 4))) (wrap64 (8 * (Int.tmod x11 4)))) % 256)) x10 (wrap64 (x11 + 1))) else (none)) else (none)) else (none)) else (none)) else (none)) else ((natural_Normalize.f k (strOfNums x3)).bind fun t222 => (some t222))
def natural_limbs_text.f (k : Nat) (l0 : List Int) : Option (ByteArray) := if 0 ≤ (wrap64 ((l0.length : Int) * 4)) then (if (wrap64 ((l0.length : Int) * 4) : Int).toNat ≤ 281474976710656 then ((some (List.replicate (wrap64 ((l0.length : Int) * 4) : Int).toNat 0 : List Int)).bind fun y217 => (natural_limbs_text.l0 k l0 y217 (y217.length : Int) 0)) else (none)) else (none)
theorem natural_limbs_text.mono_l : ∀ k, (∀ y0 y1 y2 y3, LeO (natural_limbs_text.l0 k y0 y1 y2 y3) (natural_limbs_text.l0 (k + 1) y0 y1 y2 y3))
 | 0 => fun _ _ _ _ r h => by simp [natural_limbs_text.l0] at h
 | k + 1 => by
  have ih0 := natural_limbs_text.mono_l k
  ·intro y0 y1 y2 y3
   unfold natural_limbs_text.l0
   repeat' first
   | (with_reducible exact ih0 _ _ _ _)
   | (with_reducible exact natural_Normalize.mono _ _)
   | (with_reducible exact LeO.refl _)
   | (with_reducible exact LeO.none _)
   | (with_reducible refine LeO.ite ?_ ?_)
   | (with_reducible refine LeO.bind ?_ (fun _ => ?_))
   | exact ih0 _ _ _ _
   | exact natural_Normalize.mono _ _
   | exact LeO.none _
   | refine LeO.ite ?_ ?_
   | refine LeO.bind ?_ (fun _ => ?_)
theorem natural_limbs_text.mono : ∀ a0 k, LeO (natural_limbs_text.f k a0) (natural_limbs_text.f (k + 1) a0) := by
 intro a0 k
 have ih0 := natural_limbs_text.mono_l k
 unfold natural_limbs_text.f
 repeat' first
   | (with_reducible exact ih0 _ _ _ _)
   | (with_reducible exact natural_Normalize.mono _ _)
   | (with_reducible exact LeO.refl _)
   | (with_reducible exact LeO.none _)
   | (with_reducible refine LeO.ite ?_ ?_)
   | (with_reducible refine LeO.bind ?_ (fun _ => ?_))
   | exact ih0 _ _ _ _
   | exact natural_Normalize.mono _ _
   | exact LeO.none _
   | refine LeO.ite ?_ ?_
   | refine LeO.bind ?_ (fun _ => ?_)
set_option maxHeartbeats 8000000 in
set_option maxRecDepth 100000 in
theorem natural_limbs_text.calls (k : Nat) (A0 : Option Addr) (c0 : Nat) (l0 : List Int) (r : ByteArray) (w : World) (hr0 : Kd.C (Kd.int .u32) w A0 l0.length l0) (hc0 : l0.length ≤ c0) (h : natural_limbs_text.f k l0 = some r) :
  Calls Tryd.prog 56 #[.slice A0 l0.length c0] w fun e w' => e = .returned (.string r) ∧ Below w.heap.size w w' := by
 have HR0 := Aside0.mk hr0
 have HC0 := Aside0.mk hc0
 clear hr0 hc0
 have HB := Aside0.mk (Below.refl w.heap.size w)
 have H := h
 clear h
 unfold natural_limbs_text.f at H
 obtain ⟨ji2, hji2⟩ : ∃ j_ : Int, (wrap64 ((l0.length : Int) * 4)) = j_ := ⟨_, rfl⟩
 replace H : (if 0 ≤ (ji2) then (if (ji2 : Int).toNat ≤ 281474976710656 then ((some (List.replicate (ji2 : Int).toNat 0 : List Int)).bind fun y217 => (natural_limbs_text.l0 k l0 y217 (y217.length : Int) 0)) else (none)) else (none)) = some r := by first | (rw [hji2] at H; exact H) | (simp only [hji2] at H ⊢; exact H)
 have hji2w : (IntKind.i64.wrap ((l0.length : Int) * 4)) = ji2 := (i64_w _).trans hji2
 obtain ⟨c3, H⟩ := iN H
 have c3b0 := eq_true c3
 have c3b1 : decide (0 ≤ (ji2)) = true := decide_eq_true c3
 clear c3
 obtain ⟨c4, H⟩ := iN H
 have c4b0 := eq_true c4
 have c4b1 : decide ((ji2 : Int).toNat ≤ 281474976710656) = true := decide_eq_true c4
 clear c4
 obtain ⟨y217, hy217⟩ : ∃ y_ : List Int, y_ = (List.replicate (ji2 : Int).toNat 0) := ⟨_, rfl⟩
 replace H : (natural_limbs_text.l0 k l0 y217 (y217.length : Int) 0) = some r := by first | (rw [hy217]; with_reducible exact H) | (have H2_ := (Option.bind_some _ _).symm.trans H; rw [hy217]; with_reducible exact H2_) | (have H2_ := (Option.bind_some _ _).symm.trans H; with_reducible exact H2_) | with_reducible exact H | (rw [hy217]; exact H) | exact H
 have Ny217 := Aside0.mk hy217
 clear hy217
 have H' := Aside0.mk H
 clear H
 go_enter Tryd.func56, Tryd.ntmps56
 go_wp2_with (first | ((with_reducible refine gd 8 rfl ?_); refine Kd.R_make (Kd.int .u8) _ 5 rfl (N := 8) rfl 82 _ _ rfl ji2 rfl rfl Tryd.underlying82 (.int .u8 0) 1 info5 rfl (by decide) (by omega) 0 (ok := fun _ => True) (okp := fun _ => True) rfl (fun _ hk => hk) trivial oa (Nat.le_trans (Nat.mul_le_mul_right _ (oa : ji2.toNat ≤ 281474976710656)) (by omega)) (Below.refl _ _) (Nat.le_refl _) ?_; intro v218 w5 ho6 hb hg_ hnew_; clear hg_ hnew_; (first | rw [← Ny217.out] at ho6 | (simp only [Int.reduceToNat] at ho6; rw [← Ny217.out] at ho6)); have HO219 := Aside0.mk (Kd.R_lower ho6 (sz HB.out)); replace HB := Aside0.mk (bs HB.out hb); clear hb ho6; obtain ⟨Ao7, co7, eo7⟩ := Kd.R_slice HO219.out; subst eo7))
 go_loopg [11] k (fun kq v11 w' => ∃ (x3_1 : List Int) (x11_1 : Int), v11 = .int .i64 x11_1 ∧ Aside0 (natural_limbs_text.l0 kq l0 x3_1 (y217.length : Int) x11_1 = some r) ∧ Aside0 (kq ≤ k) ∧ Aside0 (Kd.R (Kd.int .u8) 5 w' w.heap.size (fun _ => True) (.slice Ao7 y217.length co7) x3_1) ∧ Aside0 (Below w.heap.size w w'))
 case atStart => exact ⟨(y217), (0), fs, H', ⟨Nat.le_refl _⟩, ⟨vs HO219.out⟩, ⟨bz HB.out⟩⟩
 case round =>
  clear H'
  try clear p2
  try clear c3
  try clear c3b0
  try clear c3b1
  try clear c4
  try clear c4b0
  try clear c4b1
  try clear c5
  try clear p6
  obtain ⟨x3_1, x11_1, rfl, HA, HK1, HO_3, HB⟩ := hrel
  have hl3_1 := (Kd.R_reads' HO_3.out).1
  rw [hl3_1] at HO_3
  (try simp only [hl3_1])
  cases gk with
  | zero => exact absurd HA.out (by simp [natural_limbs_text.l0])
  | succ k1 =>
   have H := HA.out
   clear HA
   simp only [natural_limbs_text.l0] at H
   by_cases c8 : x11_1 < (y217.length : Int)
   ·rw [if_pos c8] at H
    have c8b0 : decide (x11_1 < (y217.length : Int)) = true := decide_eq_true c8
    (try (have c8b0_hl3_1 := c8b0; rw [hl3_1] at c8b0_hl3_1))
    clear c8
    obtain ⟨ji9, hji9⟩ : ∃ j_ : Int, (wrap64 (Int.tdiv x11_1 4)) = j_ := ⟨_, rfl⟩
    replace H : (if 0 ≤ (ji9) then (if (ji9) < (l0.length : Int) then (if 0 ≤ (wrap64 (8 * (Int.tmod x11_1 4))) then (if 0 ≤ (wrap64 ((wrap64 ((x3_1.length : Int) - 1)) - x11_1)) then (if (wrap64 ((wrap64 ((x3_1.length : Int) - 1)) - x11_1)) < (x3_1.length : Int) then (natural_limbs_text.l0 k1 l0 (x3_1.set ((wrap64 ((wrap64 ((x3_1.length : Int) - 1)) - x11_1)) : Int).toNat ((shr .u32 (rd l0 (ji9)) (wrap64 (8 * (Int.tmod x11_1 4)))) % 256)) (y217.length : Int) (wrap64 (x11_1 + 1))) else (none)) else (none)) else (none)) else (none)) else (none)) = some r := by first | (rw [hji9] at H; exact H) | (simp only [hji9] at H ⊢; exact H)
    have hji9w : (IntKind.i64.wrap (Int.tdiv x11_1 4)) = ji9 := (i64_w _).trans hji9
    obtain ⟨c10, H⟩ := iN H
    have c10b0 : decide (0 ≤ (ji9)) = true := decide_eq_true c10
    clear c10
    obtain ⟨c11, H⟩ := iN H
    have c11b0 : decide ((ji9) < (l0.length : Int)) = true := decide_eq_true c11
    (try (have c11b0_hl3_1 := c11b0; rw [hl3_1] at c11b0_hl3_1))
    clear c11
    obtain ⟨ji12, hji12⟩ : ∃ j_ : Int, (wrap64 (8 * (Int.tmod x11_1 4))) = j_ := ⟨_, rfl⟩
    replace H : (if 0 ≤ (ji12) then (if 0 ≤ (wrap64 ((wrap64 ((x3_1.length : Int) - 1)) - x11_1)) then (if (wrap64 ((wrap64 ((x3_1.length : Int) - 1)) - x11_1)) < (x3_1.length : Int) then (natural_limbs_text.l0 k1 l0 (x3_1.set ((wrap64 ((wrap64 ((x3_1.length : Int) - 1)) - x11_1)) : Int).toNat ((shr .u32 (rd l0 (ji9)) (ji12)) % 256)) (y217.length : Int) (wrap64 (x11_1 + 1))) else (none)) else (none)) else (none)) = some r := by first | (rw [hji12] at H; exact H) | (simp only [hji12] at H ⊢; exact H)
    have hji12w : (IntKind.i64.wrap (8 * (Int.tmod x11_1 4))) = ji12 := (i64_w _).trans hji12
    obtain ⟨c13, H⟩ := iN H
    have c13b0 := eq_true c13
    have c13b1 : decide (0 ≤ (ji12)) = true := decide_eq_true c13
    clear c13
    obtain ⟨ji14, hji14⟩ : ∃ j_ : Int, (shr .u32 (rd l0 (ji9)) (ji12)) = j_ := ⟨_, rfl⟩
    replace H : (if 0 ≤ (wrap64 ((wrap64 ((x3_1.length : Int) - 1)) - x11_1)) then (if (wrap64 ((wrap64 ((x3_1.length : Int) - 1)) - x11_1)) < (x3_1.length : Int) then (natural_limbs_text.l0 k1 l0 (x3_1.set ((wrap64 ((wrap64 ((x3_1.length : Int) - 1)) - x11_1)) : Int).toNat ((ji14) % 256)) (y217.length : Int) (wrap64 (x11_1 + 1))) else (none)) else (none)) = some r := by first | (rw [hji14] at H; exact H) | (simp only [hji14] at H ⊢; exact H)
    have hji14_ : ((rd l0 (ji9)) / 2 ^ min (ji12).toNat 32) = ji14 := hji14
    have hji14z : (ji12) ≤ 32 → ((rd l0 (ji9)) / 2 ^ (ji12).toNat) = ji14 := shr_small hji14
    obtain ⟨ji15, hji15⟩ : ∃ j_ : Int, (wrap64 ((wrap64 ((x3_1.length : Int) - 1)) - x11_1)) = j_ := ⟨_, rfl⟩
    replace H : (if 0 ≤ (ji15) then (if (ji15) < (x3_1.length : Int) then (natural_limbs_text.l0 k1 l0 (x3_1.set ((ji15) : Int).toNat ((ji14) % 256)) (y217.length : Int) (wrap64 (x11_1 + 1))) else (none)) else (none)) = some r := by first | (rw [hji15] at H; exact H) | (simp only [hji15] at H ⊢; exact H)
    have hji15w : (IntKind.i64.wrap ((wrap64 ((x3_1.length : Int) - 1)) - x11_1)) = ji15 := (i64_w _).trans hji15
    obtain ⟨c16, H⟩ := iN H
    have c16b0 : decide (0 ≤ (ji15)) = true := decide_eq_true c16
    clear c16
    obtain ⟨c17, H⟩ := iN H
    have c17b0 : decide ((ji15) < (x3_1.length : Int)) = true := decide_eq_true c17
    (try (have c17b0_hl3_1 := c17b0; rw [hl3_1] at c17b0_hl3_1))
    clear c17
    obtain ⟨y221, hy221⟩ : ∃ y_ : List Int, y_ = (x3_1.set ((ji15) : Int).toNat ((ji14) % 256)) := ⟨_, rfl⟩
    replace H : (natural_limbs_text.l0 k1 l0 y221 (y217.length : Int) (wrap64 (x11_1 + 1))) = some r := by first | (rw [hy221]; with_reducible exact H) | (have H2_ := (Option.bind_some _ _).symm.trans H; rw [hy221]; with_reducible exact H2_) | (have H2_ := (Option.bind_some _ _).symm.trans H; with_reducible exact H2_) | with_reducible exact H | (rw [hy221]; exact H) | exact H
    have Ny221 := Aside0.mk hy221
    clear hy221
    have H' := Aside0.mk H
    clear H
    have p220 : 0 ≤ ((ji9) : Int) := oa
    have q220 : (ji9) < (l0.length : Int) := oa
    obtain ⟨ad220, e220, hx220_0⟩ := Kd.at_int HR0.out (ji9) p220 q220
    cases e220
    try replace hx220_0 := (HB.out.cell (World.block_lt_of_cell? w _ hx220_0)).trans hx220_0
    replace p220 := eq_true p220
    replace q220 := eq_true q220
    have p18 : 0 ≤ ((ji15) : Int) := oa
    have q18 : ((ji15) : Int) < ((x3_1.length : Int) : Int) := oa
    obtain ⟨go18, co18, eo18, gb18, gl18, cl18, HG18⟩ := Kd.R_form HO_3.out (by omega)
    (first | cases eo18 | (injection eo18 with ea_ en_ ec_; (first | subst ea_ | (injection ea_ with ea_; subst ea_)); subst ec_; clear en_))
    have GB18 := Aside0.mk gb18
    have GG18 := Aside0.mk HG18
    clear gb18 gl18 HG18
    obtain ⟨hx18_0, hf18_0⟩ := Kd.R_celln 0 HO_3.out ((ji15) : Int) p18 q18
    replace p18 := eq_true p18
    replace q18 := eq_true q18
    have HP19 := Kd.R_putg HO_3.out ((ji15) : Int) ((ji14) % 256)
    go_wp2_with (first | ((with_reducible refine gate_store (t := 5) (p := 30) rfl ?_); refine se 5 30 (w1 := (wr.setCell ⟨go18, ((ji15) : Int).toNat, none⟩ (.int .u8 ((ji14) % 256)))) ?_; intro w20 hw; have hg : wr.grownBy w20 (some go18) := (by rw [hw]; exact HP19.2); have hp_ : Kd.R (Kd.int .u8) 5 w20 w.heap.size (fun _ => True) (.slice (some ⟨go18, 0, none⟩) x3_1.length co7) y221 := (by rw [hw, Ny221.out]; exact HP19.1); clear HP19; replace HO_3 := Aside0.mk (hp_); replace HB := Aside0.mk ((by rw [hw]; exact below_set (HB.out) GB18.out : Below w.heap.size w w20)); clear hg hw hp_))
    (try simp only [← hl3_1])
    go_roundg k1
    case measure => have := HK1.out; omega
    case rel => exact ⟨(y221), (wrap64 (x11_1 + 1)), fs, H', ⟨by have := HK1.out; omega⟩, ⟨by (try simp only [hl3_1]); (with_reducible repeat (first | apply Kd.R_alloc | apply Kd.R_drewN | apply Kd.R_drew)); exact HO_3.out⟩, ⟨bz HB.out⟩⟩
   ·rw [if_neg c8] at H
    have c8b0 : decide (x11_1 < (y217.length : Int)) = false := decide_eq_false c8
    (try (have c8b0_hl3_1 := c8b0; rw [hl3_1] at c8b0_hl3_1))
    clear c8
    obtain ⟨t222, A21, H⟩ := bs1 H
    obtain rfl := Option.some.inj H
    have hcv22 := own_string (P := Tryd.prog) Tryd.underlying82 Tryd.underlying5 Tryd.underlying9 (Kd.own_of_R HO_3.out)
    go_wp2_with (first | ((with_reducible refine gc 26 rfl ?_); refine gl (some 34) Tryd.func26 #[.string (strOfNums x3_1)] ?_; (with_reducible refine (natural_Normalize.calls k1 (strOfNums x3_1) t222 _ A21.out).mono ?_); rintro e w23 ⟨rfl, hb⟩; refine ⟨_, rfl, ?_⟩; replace HO_3 := Aside0.mk (rb HO_3.out hb); replace HB := Aside0.mk (bs HB.out hb); (try clear hb)))
    go_ret
    exact ⟨by first | rfl | (simp [errW_none, errW_some] <;> rfl) | (simp only [← hji2]; first | rfl | (simp [errW_none, errW_some] <;> rfl)) | (simp [*, errW_none, errW_some] <;> rfl), bz HB.out⟩

/-! ### natural_GCD: function 27 -/
def natural_GCD.l0 : Nat → List Int → List Int → Option (ByteArray)
 | 0, _, _ => none
 | k + 1, x5, x6 => if (x6.length : Int) > 0 then ((natural_divide.f k x5 x6).bind fun bt229 => (natural_GCD.l0 k x6 bt229.2)) else ((natural_limbs_text.f k x5).bind fun t235 => (some t235))
def natural_GCD.f (k : Nat) (a0 : ByteArray) (a1 : ByteArray) : Option (ByteArray) := (natural_parse.f k a0).bind fun t223 => ((natural_parse.f k a1).bind fun t226 => (natural_GCD.l0 k t223 t226))
theorem natural_GCD.mono_l : ∀ k, (∀ y0 y1, LeO (natural_GCD.l0 k y0 y1) (natural_GCD.l0 (k + 1) y0 y1))
 | 0 => fun _ _ r h => by simp [natural_GCD.l0] at h
 | k + 1 => by
  have ih0 := natural_GCD.mono_l k
  ·intro y0 y1
   unfold natural_GCD.l0
   repeat' first
   | (with_reducible exact ih0 _ _)
   | (with_reducible exact natural_divide.mono _ _ _)
   | (with_reducible exact natural_limbs_text.mono _ _)
   | (with_reducible exact natural_parse.mono _ _)
   | (with_reducible exact LeO.refl _)
   | (with_reducible exact LeO.none _)
   | (with_reducible refine LeO.ite ?_ ?_)
   | (with_reducible refine LeO.bind ?_ (fun _ => ?_))
   | exact ih0 _ _
   | exact natural_divide.mono _ _ _
   | exact natural_limbs_text.mono _ _
   | exact natural_parse.mono _ _
   | exact LeO.none _
   | refine LeO.ite ?_ ?_
   | refine LeO.bind ?_ (fun _ => ?_)
theorem natural_GCD.mono : ∀ a0 a1 k, LeO (natural_GCD.f k a0 a1) (natural_GCD.f (k + 1) a0 a1) := by
 intro a0 a1 k
 have ih0 := natural_GCD.mono_l k
 unfold natural_GCD.f
 repeat' first
   | (with_reducible exact ih0 _ _)
   | (with_reducible exact natural_divide.mono _ _ _)
   | (with_reducible exact natural_limbs_text.mono _ _)
   | (with_reducible exact natural_parse.mono _ _)
   | (with_reducible exact LeO.refl _)
   | (with_reducible exact LeO.none _)
   | (with_reducible refine LeO.ite ?_ ?_)
   | (with_reducible refine LeO.bind ?_ (fun _ => ?_))
   | exact ih0 _ _
   | exact natural_divide.mono _ _ _
   | exact natural_limbs_text.mono _ _
   | exact natural_parse.mono _ _
   | exact LeO.none _
   | refine LeO.ite ?_ ?_
   | refine LeO.bind ?_ (fun _ => ?_)
set_option maxHeartbeats 8000000 in
set_option maxRecDepth 100000 in
theorem natural_GCD.calls (k : Nat) (a0 : ByteArray) (a1 : ByteArray) (r : ByteArray) (w : World) (h : natural_GCD.f k a0 a1 = some r) :
  Calls Tryd.prog 27 #[.string a0, .string a1] w fun e w' => e = .returned (.string r) ∧ Below w.heap.size w w' := by
 have HB := Aside0.mk (Below.refl w.heap.size w)
 have H := h
 clear h
 unfold natural_GCD.f at H
 obtain ⟨t223, A3, H⟩ := bs1 H
 obtain ⟨t226, A4, H⟩ := bs1 H
 have H' := Aside0.mk H
 clear H
 go_enter Tryd.func27, Tryd.ntmps27
 go_wp2_with (first | ((with_reducible refine gc 54 rfl ?_); refine gl (some 10) Tryd.func54 #[.string a0] ?_; (with_reducible refine (natural_parse.calls k a0 t223 _ A3.out).mono ?_); rintro e w5 ⟨v224, rfl, ho0, hb⟩; refine ⟨_, rfl, ?_⟩; have HO225 := Aside0.mk (Kd.V_lower (Kd.V_mono (ok' := fun k_ => True) ho0 (fun k_ hk_ => trivial)) (sz HB.out)); replace HB := Aside0.mk (bs HB.out hb); (try clear hb ho0)) | ((with_reducible refine gc 54 rfl ?_); refine gl (some 12) Tryd.func54 #[.string a1] ?_; (with_reducible refine (natural_parse.calls k a1 t226 _ A4.out).mono ?_); rintro e w6 ⟨v227, rfl, ho0, hb⟩; refine ⟨_, rfl, ?_⟩; replace HO225 := Aside0.mk (vb HO225.out hb); have HO228 := Aside0.mk (Kd.V_lower (Kd.V_mono (ok' := fun k_ => True) ho0 (fun k_ hk_ => trivial)) (sz HB.out)); replace HB := Aside0.mk (bs HB.out hb); (try clear hb ho0)))
 go_loopg [5, 6] k (fun kq v5 v6 w' => ∃ (x5_1 : List Int) (x6_1 : List Int), Aside0 (natural_GCD.l0 kq x5_1 x6_1 = some r) ∧ Aside0 (kq ≤ k) ∧ Aside0 (Kd.V (Kd.int .u32) 72 w' w.heap.size (fun _ => True) v5 x5_1) ∧ Aside0 (Kd.V (Kd.int .u32) 72 w' w.heap.size (fun _ => True) v6 x6_1) ∧ Aside0 (Below w.heap.size w w'))
 case atStart => exact ⟨(t223), (t226), H', ⟨Nat.le_refl _⟩, ⟨vs HO225.out⟩, ⟨vs HO228.out⟩, ⟨bz HB.out⟩⟩
 case round =>
  clear H'
  try clear c2
  try clear p2
  try clear c5
  obtain ⟨x5_1, x6_1, HA, HK1, HO_5, HO_6, HB⟩ := hrel
  cases gk with
  | zero => exact absurd HA.out (by simp [natural_GCD.l0])
  | succ k1 =>
   have H := HA.out
   clear HA
   simp only [natural_GCD.l0] at H
   by_cases c7 : (x6_1.length : Int) > 0
   ·rw [if_pos c7] at H
    have c7b0 : decide (0 < (x6_1.length : Int)) = true := decide_eq_true c7
    have c7b1 : decide (0 < x6_1.length) = true := decide_eq_true (by omega)
    clear c7
    obtain ⟨⟨t229, t232⟩, A8, H⟩ := bs1 H; dsimp only at H
    have H' := Aside0.mk H
    clear H
    obtain ⟨Ao9, co9, rfl⟩ := Kd.V_slice HO_6.out
    obtain ⟨Ao10, co10, rfl⟩ := Kd.V_slice HO_5.out
    go_wp2_with (first | ((with_reducible refine gc 55 rfl ?_); refine gl (some 19) Tryd.func55 #[.slice Ao10 x5_1.length co10, .slice Ao9 x6_1.length co9] ?_; (with_reducible refine (natural_divide.calls k1 (fun k_ => True) _ _ x5_1 _ _ x6_1 t229 t232 _ ?side1 ?side2 ?side3 A8.out).mono ?_); (case side1 => exact HO_5.out); (case side2 => exact vs (Kd.V_reads' HO_6.out).2.2); (case side3 => exact (Kd.V_reads' HO_6.out).2.1); rintro e w11 ⟨v230, v233, rfl, ho0, ho1, hb⟩; refine ⟨_, rfl, ?_⟩; replace HO_5 := Aside0.mk (vb HO_5.out hb); replace HO_6 := Aside0.mk (vb HO_6.out hb); have HO231 := Aside0.mk (Kd.V_lower (Kd.V_mono (ok' := fun k_ => True) ho0 (fun k_ hk_ => trivial)) (sz HB.out)); have HO234 := Aside0.mk (Kd.V_lower (Kd.V_mono (ok' := fun k_ => True) ho1 (fun k_ hk_ => trivial)) (sz HB.out)); replace HB := Aside0.mk (bs HB.out hb); (try clear hb ho0 ho1)))
    go_roundg k1
    case measure => have := HK1.out; omega
    case rel => exact ⟨(x6_1), (t232), H', ⟨by have := HK1.out; omega⟩, ⟨vs HO_6.out⟩, ⟨vs HO234.out⟩, ⟨bz HB.out⟩⟩
   ·rw [if_neg c7] at H
    have c7b0 : decide (0 < (x6_1.length : Int)) = false := decide_eq_false c7
    have c7b1 : decide (0 < x6_1.length) = false := decide_eq_false (by omega)
    clear c7
    obtain ⟨t235, A12, H⟩ := bs1 H
    obtain rfl := Option.some.inj H
    obtain ⟨Ao13, co13, rfl⟩ := Kd.V_slice HO_6.out
    obtain ⟨Ao14, co14, rfl⟩ := Kd.V_slice HO_5.out
    go_wp2_with (first | ((with_reducible refine gc 56 rfl ?_); refine gl (some 25) Tryd.func56 #[.slice Ao14 x5_1.length co14] ?_; (with_reducible refine (natural_limbs_text.calls k1 _ _ x5_1 t235 _ ?side1 ?side2 A12.out).mono ?_); (case side1 => exact vs (Kd.V_reads' HO_5.out).2.2); (case side2 => exact (Kd.V_reads' HO_5.out).2.1); rintro e w15 ⟨rfl, hb⟩; refine ⟨_, rfl, ?_⟩; replace HO_5 := Aside0.mk (vb HO_5.out hb); replace HO_6 := Aside0.mk (vb HO_6.out hb); replace HB := Aside0.mk (bs HB.out hb); (try clear hb)))
    go_ret
    exact ⟨fe, bz HB.out⟩

/-! ### natural_Divide: function 51 -/
def natural_Divide.f (k : Nat) (a0 : ByteArray) (a1 : ByteArray) : Option (ByteArray × ByteArray × Bool) := (natural_parse.f k a1).bind fun t236 => (if (t236.length : Int) = 0 then (some ((⟨#[]⟩ : ByteArray), (⟨#[]⟩ : ByteArray), false)) else ((natural_parse.f k a0).bind fun t239 => ((natural_divide.f k t239 t236).bind fun bt242 => ((natural_limbs_text.f k bt242.1).bind fun t248 => ((natural_limbs_text.f k bt242.2).bind fun t249 => (some (t248, t249, true)))))))
theorem natural_Divide.mono : ∀ a0 a1 k, LeO (natural_Divide.f k a0 a1) (natural_Divide.f (k + 1) a0 a1) := by
 intro a0 a1 k
 unfold natural_Divide.f
 repeat' first
   | (with_reducible exact natural_divide.mono _ _ _)
   | (with_reducible exact natural_limbs_text.mono _ _)
   | (with_reducible exact natural_parse.mono _ _)
   | (with_reducible exact LeO.refl _)
   | (with_reducible exact LeO.none _)
   | (with_reducible refine LeO.ite ?_ ?_)
   | (with_reducible refine LeO.bind ?_ (fun _ => ?_))
   | exact natural_divide.mono _ _ _
   | exact natural_limbs_text.mono _ _
   | exact natural_parse.mono _ _
   | exact LeO.none _
   | refine LeO.ite ?_ ?_
   | refine LeO.bind ?_ (fun _ => ?_)
set_option maxHeartbeats 8000000 in
set_option maxRecDepth 100000 in
theorem natural_Divide.calls (k : Nat) (a0 : ByteArray) (a1 : ByteArray) (r1 : ByteArray) (r2 : ByteArray) (r3 : Bool) (w : World) (h : natural_Divide.f k a0 a1 = some (r1, r2, r3)) :
  Calls Tryd.prog 51 #[.string a0, .string a1] w fun e w' => e = .returned (.tuple #[.string r1, .string r2, .bool r3]) ∧ Below w.heap.size w w' := by
 have HB := Aside0.mk (Below.refl w.heap.size w)
 have H := h
 clear h
 unfold natural_Divide.f at H
 obtain ⟨t236, A3, H⟩ := bs1 H
 by_cases c4 : (t236.length : Int) = 0
 ·rw [if_pos c4] at H
  have c4b0 := beq_iff_eq.mpr c4
  have c4b1 := bne_eq_false_iff_eq.mpr c4
  clear c4
  simp only [Option.some.injEq, Prod.mk.injEq] at H
  obtain ⟨rfl, rfl, rfl⟩ := H
  go_enter Tryd.func51, Tryd.ntmps51
  go_wp2_with (first | ((with_reducible refine gc 54 rfl ?_); refine gl (some 11) Tryd.func54 #[.string a1] ?_; (with_reducible refine (natural_parse.calls k a1 t236 _ A3.out).mono ?_); rintro e w5 ⟨v237, rfl, ho0, hb⟩; refine ⟨_, rfl, ?_⟩; have HO238 := Aside0.mk (Kd.V_lower (Kd.V_mono (ok' := fun k_ => True) ho0 (fun k_ hk_ => trivial)) (sz HB.out)); replace HB := Aside0.mk (bs HB.out hb); (try clear hb ho0); obtain ⟨Ao6, co6, rfl⟩ := Kd.V_slice HO238.out))
  go_ret3
  exact ⟨fe, bz HB.out⟩
 ·rw [if_neg c4] at H
  have c4b0 := beq_eq_false_iff_ne.mpr c4
  have c4b1 := bne_iff_ne.mpr c4
  have c4b2 : ¬ (t236 = []) := fun h_ => c4 (by rw [h_]; rfl)
  obtain ⟨t239, A7, H⟩ := bs1 H
  obtain ⟨⟨t242, t245⟩, A8, H⟩ := bs1 H; dsimp only at H
  obtain ⟨t248, A9, H⟩ := bs1 H
  obtain ⟨t249, A10, H⟩ := bs1 H
  simp only [Option.some.injEq, Prod.mk.injEq] at H
  obtain ⟨rfl, rfl, rfl⟩ := H
  go_enter Tryd.func51, Tryd.ntmps51
  go_wp2_with (first | ((with_reducible refine gc 54 rfl ?_); refine gl (some 11) Tryd.func54 #[.string a1] ?_; (with_reducible refine (natural_parse.calls k a1 t236 _ A3.out).mono ?_); rintro e w11 ⟨v237, rfl, ho0, hb⟩; refine ⟨_, rfl, ?_⟩; have HO238 := Aside0.mk (Kd.V_lower (Kd.V_mono (ok' := fun k_ => True) ho0 (fun k_ hk_ => trivial)) (sz HB.out)); replace HB := Aside0.mk (bs HB.out hb); (try clear hb ho0); obtain ⟨Ao12, co12, rfl⟩ := Kd.V_slice HO238.out) | ((with_reducible refine gc 54 rfl ?_); refine gl (some 17) Tryd.func54 #[.string a0] ?_; (with_reducible refine (natural_parse.calls k a0 t239 _ A7.out).mono ?_); rintro e w13 ⟨v240, rfl, ho0, hb⟩; refine ⟨_, rfl, ?_⟩; replace HO238 := Aside0.mk (vb HO238.out hb); have HO241 := Aside0.mk (Kd.V_lower (Kd.V_mono (ok' := fun k_ => True) ho0 (fun k_ hk_ => trivial)) (sz HB.out)); replace HB := Aside0.mk (bs HB.out hb); (try clear hb ho0); obtain ⟨Ao14, co14, rfl⟩ := Kd.V_slice HO241.out) | ((with_reducible refine gc 55 rfl ?_); refine gl (some 19) Tryd.func55 #[.slice Ao14 t239.length co14, .slice Ao12 t236.length co12] ?_; (with_reducible refine (natural_divide.calls k (fun k_ => True) _ _ t239 _ _ t236 t242 t245 _ ?side1 ?side2 ?side3 A8.out).mono ?_); (case side1 => exact HO241.out); (case side2 => exact vs (Kd.V_reads' HO238.out).2.2); (case side3 => exact (Kd.V_reads' HO238.out).2.1); rintro e w15 ⟨v243, v246, rfl, ho0, ho1, hb⟩; refine ⟨_, rfl, ?_⟩; replace HO238 := Aside0.mk (vb HO238.out hb); replace HO241 := Aside0.mk (vb HO241.out hb); have HO244 := Aside0.mk (Kd.V_lower (Kd.V_mono (ok' := fun k_ => True) ho0 (fun k_ hk_ => trivial)) (sz HB.out)); have HO247 := Aside0.mk (Kd.V_lower (Kd.V_mono (ok' := fun k_ => True) ho1 (fun k_ hk_ => trivial)) (sz HB.out)); replace HB := Aside0.mk (bs HB.out hb); (try clear hb ho0 ho1); obtain ⟨Ao16, co16, rfl⟩ := Kd.V_slice HO244.out) | ((with_reducible refine gc 56 rfl ?_); refine gl (some 23) Tryd.func56 #[.slice Ao16 t242.length co16] ?_; (with_reducible refine (natural_limbs_text.calls k _ _ t242 t248 _ ?side1 ?side2 A9.out).mono ?_); (case side1 => exact vs (Kd.V_reads' HO244.out).2.2); (case side2 => exact (Kd.V_reads' HO244.out).2.1); rintro e w17 ⟨rfl, hb⟩; refine ⟨_, rfl, ?_⟩; replace HO238 := Aside0.mk (vb HO238.out hb); replace HO241 := Aside0.mk (vb HO241.out hb); replace HO244 := Aside0.mk (vb HO244.out hb); replace HO247 := Aside0.mk (vb HO247.out hb); replace HB := Aside0.mk (bs HB.out hb); (try clear hb); obtain ⟨Ao18, co18, rfl⟩ := Kd.V_slice HO247.out) | ((with_reducible refine gc 56 rfl ?_); refine gl (some 25) Tryd.func56 #[.slice Ao18 t245.length co18] ?_; (with_reducible refine (natural_limbs_text.calls k _ _ t245 t249 _ ?side1 ?side2 A10.out).mono ?_); (case side1 => exact vs (Kd.V_reads' HO247.out).2.2); (case side2 => exact (Kd.V_reads' HO247.out).2.1); rintro e w19 ⟨rfl, hb⟩; refine ⟨_, rfl, ?_⟩; replace HO238 := Aside0.mk (vb HO238.out hb); replace HO241 := Aside0.mk (vb HO241.out hb); replace HO244 := Aside0.mk (vb HO244.out hb); replace HO247 := Aside0.mk (vb HO247.out hb); replace HB := Aside0.mk (bs HB.out hb); (try clear hb)))
  go_ret3
  exact ⟨fe, bz HB.out⟩

/-! ### rational_reduced: function 30 -/
def rational_reduced.f (k : Nat) (a0 : Bool) (a1 : ByteArray) (a2 : ByteArray) : Option (Bool × ByteArray × ByteArray) := (natural_Normalize.f k a1).bind fun t251 => ((natural_Normalize.f k a2).bind fun t252 => (if t251.toList = ([] : List UInt8) then (some (false, (⟨#[]⟩ : ByteArray), (⟨#[]⟩ : ByteArray))) else (if t252.toList = ([1] : List UInt8) then (some (a0, t251, (⟨#[]⟩ : ByteArray))) else ((natural_GCD.f k t251 t252).bind fun t253 => (if t253.toList = ([1] : List UInt8) then (some (a0, t251, t252)) else ((natural_Divide.f k t251 t253).bind fun bt254 => ((natural_Divide.f k t252 t253).bind fun bt257 => (if bt257.1.toList = ([1] : List UInt8) then (some (a0, bt254.1, (⟨#[]⟩ : ByteArray))) else (some (a0, bt254.1, bt257.1))))))))))
theorem rational_reduced.mono : ∀ a0 a1 a2 k, LeO (rational_reduced.f k a0 a1 a2) (rational_reduced.f (k + 1) a0 a1 a2) := by
 intro a0 a1 a2 k
 unfold rational_reduced.f
 repeat' first
   | (with_reducible exact natural_Divide.mono _ _ _)
   | (with_reducible exact natural_GCD.mono _ _ _)
   | (with_reducible exact natural_Normalize.mono _ _)
   | (with_reducible exact LeO.refl _)
   | (with_reducible exact LeO.none _)
   | (with_reducible refine LeO.ite ?_ ?_)
   | (with_reducible refine LeO.bind ?_ (fun _ => ?_))
   | exact natural_Divide.mono _ _ _
   | exact natural_GCD.mono _ _ _
   | exact natural_Normalize.mono _ _
   | exact LeO.none _
   | refine LeO.ite ?_ ?_
   | refine LeO.bind ?_ (fun _ => ?_)
set_option maxHeartbeats 8000000 in
set_option maxRecDepth 100000 in
theorem rational_reduced.calls (k : Nat) (a0 : Bool) (a1 : ByteArray) (a2 : ByteArray) (r1 : Bool) (r2 : ByteArray) (r3 : ByteArray) (w : World) (h : rational_reduced.f k a0 a1 a2 = some (r1, r2, r3)) :
  Calls Tryd.prog 30 #[.bool a0, .string a1, .string a2] w fun e w' => e = .returned (.agg #[.bool r1, .string r2, .string r3]) ∧ Below w.heap.size w w' := by
 have hu23 := Tryd.underlying23
 have HB := Aside0.mk (Below.refl w.heap.size w)
 have H := h
 clear h
 unfold rational_reduced.f at H
 obtain ⟨t251, A4, H⟩ := bs1 H
 obtain ⟨t252, A5, H⟩ := bs1 H
 by_cases c6 : t251.toList = ([] : List UInt8)
 ·rw [if_pos c6] at H
  have c6b0 := beq_iff_eq.mpr c6
  have c6b1 := bne_eq_false_iff_eq.mpr c6
  clear c6
  simp only [Option.some.injEq, Prod.mk.injEq] at H
  obtain ⟨rfl, rfl, rfl⟩ := H
  go_enter Tryd.func30, Tryd.ntmps30
  go_wp2_with (first | ((with_reducible refine gd 6 rfl ?_); refine bx 6 (#[.bool false, .string (⟨#[]⟩ : ByteArray), .string (⟨#[]⟩ : ByteArray)]) 23 ?_; intro gb250 hg w7 hbox hb; have BK250 := Aside0.mk (hbox); have GW250 := sg hg HB.out; have GE250 := sg hg HB.out; replace HB := Aside0.mk (bs HB.out hb); clear hb hbox hg) | ((with_reducible refine gc 26 rfl ?_); refine gl (some 9) Tryd.func26 #[.string a1] ?_; (with_reducible refine (natural_Normalize.calls k a1 t251 _ A4.out).mono ?_); rintro e w8 ⟨rfl, hb⟩; refine ⟨_, rfl, ?_⟩; replace BK250 := Aside0.mk (bk0 BK250.out hb); replace HB := Aside0.mk (bs HB.out hb); (try clear hb)) | ((with_reducible refine gc 26 rfl ?_); refine gl (some 11) Tryd.func26 #[.string a2] ?_; (with_reducible refine (natural_Normalize.calls k a2 t252 _ A5.out).mono ?_); rintro e w9 ⟨rfl, hb⟩; refine ⟨_, rfl, ?_⟩; replace BK250 := Aside0.mk (bk0 BK250.out hb); replace HB := Aside0.mk (bs HB.out hb); (try clear hb); obtain ⟨hcz10_0, hcz10_1, hcz10_2, hfz10_0, hfz10_1, hfz10_2⟩ := c3 BK250.out))
  refine bodyPost_ret (results_cell_row rfl _ _ gb250 23 #[.bool false, .string (⟨#[]⟩ : ByteArray), .string (⟨#[]⟩ : ByteArray)] (0, 0) _ rfl (bq BK250.out) Tryd.underlying23 rfl (by kernel_rfl)) rfl ?_
  exact ⟨fe, bz HB.out⟩
 ·rw [if_neg c6] at H
  have c6b0 := beq_eq_false_iff_ne.mpr c6
  have c6b1 := bne_iff_ne.mpr c6
  by_cases c11 : t252.toList = ([1] : List UInt8)
  ·rw [if_pos c11] at H
   have c11b0 := beq_iff_eq.mpr c11
   have c11b1 := bne_eq_false_iff_eq.mpr c11
   clear c11
   simp only [Option.some.injEq, Prod.mk.injEq] at H
   obtain ⟨rfl, rfl, rfl⟩ := H
   go_enter Tryd.func30, Tryd.ntmps30
   go_wp2_with (first | ((with_reducible refine gd 6 rfl ?_); refine bx 6 (#[.bool false, .string (⟨#[]⟩ : ByteArray), .string (⟨#[]⟩ : ByteArray)]) 23 ?_; intro gb250 hg w12 hbox hb; have BK250 := Aside0.mk (hbox); have GW250 := sg hg HB.out; have GE250 := sg hg HB.out; replace HB := Aside0.mk (bs HB.out hb); clear hb hbox hg) | ((with_reducible refine gc 26 rfl ?_); refine gl (some 9) Tryd.func26 #[.string a1] ?_; (with_reducible refine (natural_Normalize.calls k a1 t251 _ A4.out).mono ?_); rintro e w13 ⟨rfl, hb⟩; refine ⟨_, rfl, ?_⟩; replace BK250 := Aside0.mk (bk0 BK250.out hb); replace HB := Aside0.mk (bs HB.out hb); (try clear hb)) | ((with_reducible refine gc 26 rfl ?_); refine gl (some 11) Tryd.func26 #[.string a2] ?_; (with_reducible refine (natural_Normalize.calls k a2 t252 _ A5.out).mono ?_); rintro e w14 ⟨rfl, hb⟩; refine ⟨_, rfl, ?_⟩; replace BK250 := Aside0.mk (bk0 BK250.out hb); replace HB := Aside0.mk (bs HB.out hb); (try clear hb); obtain ⟨hcz15_0, hcz15_1, hcz15_2, hfz15_0, hfz15_1, hfz15_2⟩ := c3 BK250.out))
   refine bodyPost_ret (results_cell_row rfl _ _ gb250 23 #[.bool a0, .string t251, .string (⟨#[]⟩ : ByteArray)] (0, 0) _ rfl (bq BK250.out) Tryd.underlying23 rfl (by kernel_rfl)) rfl ?_
   exact ⟨fe, bz HB.out⟩
  ·rw [if_neg c11] at H
   have c11b0 := beq_eq_false_iff_ne.mpr c11
   have c11b1 := bne_iff_ne.mpr c11
   obtain ⟨t253, A16, H⟩ := bs1 H
   by_cases c17 : t253.toList = ([1] : List UInt8)
   ·rw [if_pos c17] at H
    have c17b0 := beq_iff_eq.mpr c17
    have c17b1 := bne_eq_false_iff_eq.mpr c17
    clear c17
    simp only [Option.some.injEq, Prod.mk.injEq] at H
    obtain ⟨rfl, rfl, rfl⟩ := H
    go_enter Tryd.func30, Tryd.ntmps30
    go_wp2_with (first | ((with_reducible refine gd 6 rfl ?_); refine bx 6 (#[.bool false, .string (⟨#[]⟩ : ByteArray), .string (⟨#[]⟩ : ByteArray)]) 23 ?_; intro gb250 hg w18 hbox hb; have BK250 := Aside0.mk (hbox); have GW250 := sg hg HB.out; have GE250 := sg hg HB.out; replace HB := Aside0.mk (bs HB.out hb); clear hb hbox hg) | ((with_reducible refine gc 26 rfl ?_); refine gl (some 9) Tryd.func26 #[.string a1] ?_; (with_reducible refine (natural_Normalize.calls k a1 t251 _ A4.out).mono ?_); rintro e w19 ⟨rfl, hb⟩; refine ⟨_, rfl, ?_⟩; replace BK250 := Aside0.mk (bk0 BK250.out hb); replace HB := Aside0.mk (bs HB.out hb); (try clear hb)) | ((with_reducible refine gc 26 rfl ?_); refine gl (some 11) Tryd.func26 #[.string a2] ?_; (with_reducible refine (natural_Normalize.calls k a2 t252 _ A5.out).mono ?_); rintro e w20 ⟨rfl, hb⟩; refine ⟨_, rfl, ?_⟩; replace BK250 := Aside0.mk (bk0 BK250.out hb); replace HB := Aside0.mk (bs HB.out hb); (try clear hb)) | ((with_reducible refine gc 27 rfl ?_); refine gl (some 19) Tryd.func27 #[.string t251, .string t252] ?_; (with_reducible refine (natural_GCD.calls k t251 t252 t253 _ A16.out).mono ?_); rintro e w21 ⟨rfl, hb⟩; refine ⟨_, rfl, ?_⟩; replace BK250 := Aside0.mk (bk0 BK250.out hb); replace HB := Aside0.mk (bs HB.out hb); (try clear hb); obtain ⟨hcz22_0, hcz22_1, hcz22_2, hfz22_0, hfz22_1, hfz22_2⟩ := c3 BK250.out))
    refine bodyPost_ret (results_cell_row rfl _ _ gb250 23 #[.bool a0, .string t251, .string t252] (0, 0) _ rfl (bq BK250.out) Tryd.underlying23 rfl (by kernel_rfl)) rfl ?_
    exact ⟨fe, bz HB.out⟩
   ·rw [if_neg c17] at H
    have c17b0 := beq_eq_false_iff_ne.mpr c17
    have c17b1 := bne_iff_ne.mpr c17
    obtain ⟨⟨t254, t255, t256⟩, A23, H⟩ := bs1 H; dsimp only at H
    obtain ⟨⟨t257, t258, t259⟩, A24, H⟩ := bs1 H; dsimp only at H
    by_cases c25 : t257.toList = ([1] : List UInt8)
    ·rw [if_pos c25] at H
     have c25b0 := beq_iff_eq.mpr c25
     have c25b1 := bne_eq_false_iff_eq.mpr c25
     clear c25
     simp only [Option.some.injEq, Prod.mk.injEq] at H
     obtain ⟨rfl, rfl, rfl⟩ := H
     go_enter Tryd.func30, Tryd.ntmps30
     go_wp2_with (first | ((with_reducible refine gd 6 rfl ?_); refine bx 6 (#[.bool false, .string (⟨#[]⟩ : ByteArray), .string (⟨#[]⟩ : ByteArray)]) 23 ?_; intro gb250 hg w26 hbox hb; have BK250 := Aside0.mk (hbox); have GW250 := sg hg HB.out; have GE250 := sg hg HB.out; replace HB := Aside0.mk (bs HB.out hb); clear hb hbox hg) | ((with_reducible refine gc 26 rfl ?_); refine gl (some 9) Tryd.func26 #[.string a1] ?_; (with_reducible refine (natural_Normalize.calls k a1 t251 _ A4.out).mono ?_); rintro e w27 ⟨rfl, hb⟩; refine ⟨_, rfl, ?_⟩; replace BK250 := Aside0.mk (bk0 BK250.out hb); replace HB := Aside0.mk (bs HB.out hb); (try clear hb)) | ((with_reducible refine gc 26 rfl ?_); refine gl (some 11) Tryd.func26 #[.string a2] ?_; (with_reducible refine (natural_Normalize.calls k a2 t252 _ A5.out).mono ?_); rintro e w28 ⟨rfl, hb⟩; refine ⟨_, rfl, ?_⟩; replace BK250 := Aside0.mk (bk0 BK250.out hb); replace HB := Aside0.mk (bs HB.out hb); (try clear hb)) | ((with_reducible refine gc 27 rfl ?_); refine gl (some 19) Tryd.func27 #[.string t251, .string t252] ?_; (with_reducible refine (natural_GCD.calls k t251 t252 t253 _ A16.out).mono ?_); rintro e w29 ⟨rfl, hb⟩; refine ⟨_, rfl, ?_⟩; replace BK250 := Aside0.mk (bk0 BK250.out hb); replace HB := Aside0.mk (bs HB.out hb); (try clear hb)) | ((with_reducible refine gc 51 rfl ?_); refine gl (some 25) Tryd.func51 #[.string t251, .string t253] ?_; (with_reducible refine (natural_Divide.calls k t251 t253 t254 t255 t256 _ A23.out).mono ?_); rintro e w30 ⟨rfl, hb⟩; refine ⟨_, rfl, ?_⟩; replace BK250 := Aside0.mk (bk0 BK250.out hb); replace HB := Aside0.mk (bs HB.out hb); (try clear hb)) | ((with_reducible refine gc 51 rfl ?_); refine gl (some 32) Tryd.func51 #[.string t252, .string t253] ?_; (with_reducible refine (natural_Divide.calls k t252 t253 t257 t258 t259 _ A24.out).mono ?_); rintro e w31 ⟨rfl, hb⟩; refine ⟨_, rfl, ?_⟩; replace BK250 := Aside0.mk (bk0 BK250.out hb); replace HB := Aside0.mk (bs HB.out hb); (try clear hb); obtain ⟨hcz32_0, hcz32_1, hcz32_2, hfz32_0, hfz32_1, hfz32_2⟩ := c3 BK250.out))
     refine bodyPost_ret (results_cell_row rfl _ _ gb250 23 #[.bool a0, .string t254, .string (⟨#[]⟩ : ByteArray)] (0, 0) _ rfl (bq BK250.out) Tryd.underlying23 rfl (by kernel_rfl)) rfl ?_
     exact ⟨fe, bz HB.out⟩
    ·rw [if_neg c25] at H
     have c25b0 := beq_eq_false_iff_ne.mpr c25
     have c25b1 := bne_iff_ne.mpr c25
     simp only [Option.some.injEq, Prod.mk.injEq] at H
     obtain ⟨rfl, rfl, rfl⟩ := H
     go_enter Tryd.func30, Tryd.ntmps30
     go_wp2_with (first | ((with_reducible refine gd 6 rfl ?_); refine bx 6 (#[.bool false, .string (⟨#[]⟩ : ByteArray), .string (⟨#[]⟩ : ByteArray)]) 23 ?_; intro gb250 hg w33 hbox hb; have BK250 := Aside0.mk (hbox); have GW250 := sg hg HB.out; have GE250 := sg hg HB.out; replace HB := Aside0.mk (bs HB.out hb); clear hb hbox hg) | ((with_reducible refine gc 26 rfl ?_); refine gl (some 9) Tryd.func26 #[.string a1] ?_; (with_reducible refine (natural_Normalize.calls k a1 t251 _ A4.out).mono ?_); rintro e w34 ⟨rfl, hb⟩; refine ⟨_, rfl, ?_⟩; replace BK250 := Aside0.mk (bk0 BK250.out hb); replace HB := Aside0.mk (bs HB.out hb); (try clear hb)) | ((with_reducible refine gc 26 rfl ?_); refine gl (some 11) Tryd.func26 #[.string a2] ?_; (with_reducible refine (natural_Normalize.calls k a2 t252 _ A5.out).mono ?_); rintro e w35 ⟨rfl, hb⟩; refine ⟨_, rfl, ?_⟩; replace BK250 := Aside0.mk (bk0 BK250.out hb); replace HB := Aside0.mk (bs HB.out hb); (try clear hb)) | ((with_reducible refine gc 27 rfl ?_); refine gl (some 19) Tryd.func27 #[.string t251, .string t252] ?_; (with_reducible refine (natural_GCD.calls k t251 t252 t253 _ A16.out).mono ?_); rintro e w36 ⟨rfl, hb⟩; refine ⟨_, rfl, ?_⟩; replace BK250 := Aside0.mk (bk0 BK250.out hb); replace HB := Aside0.mk (bs HB.out hb); (try clear hb)) | ((with_reducible refine gc 51 rfl ?_); refine gl (some 25) Tryd.func51 #[.string t251, .string t253] ?_; (with_reducible refine (natural_Divide.calls k t251 t253 t254 t255 t256 _ A23.out).mono ?_); rintro e w37 ⟨rfl, hb⟩; refine ⟨_, rfl, ?_⟩; replace BK250 := Aside0.mk (bk0 BK250.out hb); replace HB := Aside0.mk (bs HB.out hb); (try clear hb)) | ((with_reducible refine gc 51 rfl ?_); refine gl (some 32) Tryd.func51 #[.string t252, .string t253] ?_; (with_reducible refine (natural_Divide.calls k t252 t253 t257 t258 t259 _ A24.out).mono ?_); rintro e w38 ⟨rfl, hb⟩; refine ⟨_, rfl, ?_⟩; replace BK250 := Aside0.mk (bk0 BK250.out hb); replace HB := Aside0.mk (bs HB.out hb); (try clear hb); obtain ⟨hcz39_0, hcz39_1, hcz39_2, hfz39_0, hfz39_1, hfz39_2⟩ := c3 BK250.out))
     refine bodyPost_ret (results_cell_row rfl _ _ gb250 23 #[.bool a0, .string t254, .string t257] (0, 0) _ rfl (bq BK250.out) Tryd.underlying23 rfl (by kernel_rfl)) rfl ?_
     exact ⟨fe, bz HB.out⟩

/-! ### rational_Make: function 11 -/
def rational_Make.f (k : Nat) (a0 : Bool) (a1 : ByteArray) (a2 : ByteArray) : Option (Bool × ByteArray × ByteArray × Bool) := (natural_Normalize.f k a2).bind fun t261 => (if t261.toList = ([] : List UInt8) then (some (false, (⟨#[]⟩ : ByteArray), (⟨#[]⟩ : ByteArray), false)) else ((rational_reduced.f k a0 a1 a2).bind fun bt262 => (some (bt262.1, bt262.2.1, bt262.2.2, true))))
theorem rational_Make.mono : ∀ a0 a1 a2 k, LeO (rational_Make.f k a0 a1 a2) (rational_Make.f (k + 1) a0 a1 a2) := by
 intro a0 a1 a2 k
 unfold rational_Make.f
 repeat' first
   | (with_reducible exact natural_Normalize.mono _ _)
   | (with_reducible exact rational_reduced.mono _ _ _ _)
   | (with_reducible exact LeO.refl _)
   | (with_reducible exact LeO.none _)
   | (with_reducible refine LeO.ite ?_ ?_)
   | (with_reducible refine LeO.bind ?_ (fun _ => ?_))
   | exact natural_Normalize.mono _ _
   | exact rational_reduced.mono _ _ _ _
   | exact LeO.none _
   | refine LeO.ite ?_ ?_
   | refine LeO.bind ?_ (fun _ => ?_)
set_option maxHeartbeats 8000000 in
set_option maxRecDepth 100000 in
theorem rational_Make.calls (k : Nat) (a0 : Bool) (a1 : ByteArray) (a2 : ByteArray) (r1 : Bool) (r2 : ByteArray) (r3 : ByteArray) (r4 : Bool) (w : World) (h : rational_Make.f k a0 a1 a2 = some (r1, r2, r3, r4)) :
  Calls Tryd.prog 11 #[.bool a0, .string a1, .string a2] w fun e w' => e = .returned (.tuple #[.agg #[.bool r1, .string r2, .string r3], .bool r4]) ∧ Below w.heap.size w w' := by
 have hu23 := Tryd.underlying23
 have HB := Aside0.mk (Below.refl w.heap.size w)
 have H := h
 clear h
 unfold rational_Make.f at H
 obtain ⟨t261, A4, H⟩ := bs1 H
 by_cases c5 : t261.toList = ([] : List UInt8)
 ·rw [if_pos c5] at H
  have c5b0 := beq_iff_eq.mpr c5
  have c5b1 := bne_eq_false_iff_eq.mpr c5
  clear c5
  simp only [Option.some.injEq, Prod.mk.injEq] at H
  obtain ⟨rfl, rfl, rfl, rfl⟩ := H
  go_enter Tryd.func11, Tryd.ntmps11
  go_wp2_with (first | ((with_reducible refine gd 6 rfl ?_); refine bx 6 (#[.bool false, .string (⟨#[]⟩ : ByteArray), .string (⟨#[]⟩ : ByteArray)]) 23 ?_; intro gb260 hg w6 hbox hb; have BK260 := Aside0.mk (hbox); have GW260 := sg hg HB.out; have GE260 := sg hg HB.out; replace HB := Aside0.mk (bs HB.out hb); clear hb hbox hg) | ((with_reducible refine gc 26 rfl ?_); refine gl (some 9) Tryd.func26 #[.string a2] ?_; (with_reducible refine (natural_Normalize.calls k a2 t261 _ A4.out).mono ?_); rintro e w7 ⟨rfl, hb⟩; refine ⟨_, rfl, ?_⟩; replace BK260 := Aside0.mk (bk0 BK260.out hb); replace HB := Aside0.mk (bs HB.out hb); (try clear hb); obtain ⟨hcz8_0, hcz8_1, hcz8_2, hfz8_0, hfz8_1, hfz8_2⟩ := c3 BK260.out))
  refine bodyPost_ret (results_ct rfl _ _ gb260 23 #[.bool false, .string (⟨#[]⟩ : ByteArray), .string (⟨#[]⟩ : ByteArray)] (0, 0) _ rfl (bq BK260.out) Tryd.underlying23 rfl (by kernel_rfl)) rfl ?_
  exact ⟨fe, bz HB.out⟩
 ·rw [if_neg c5] at H
  have c5b0 := beq_eq_false_iff_ne.mpr c5
  have c5b1 := bne_iff_ne.mpr c5
  obtain ⟨⟨t262, t263, t264⟩, A9, H⟩ := bs1 H; dsimp only at H
  simp only [Option.some.injEq, Prod.mk.injEq] at H
  obtain ⟨rfl, rfl, rfl, rfl⟩ := H
  go_enter Tryd.func11, Tryd.ntmps11
  go_wp2_with (first | ((with_reducible refine gd 6 rfl ?_); refine bx 6 (#[.bool false, .string (⟨#[]⟩ : ByteArray), .string (⟨#[]⟩ : ByteArray)]) 23 ?_; intro gb260 hg w10 hbox hb; have BK260 := Aside0.mk (hbox); have GW260 := sg hg HB.out; have GE260 := sg hg HB.out; replace HB := Aside0.mk (bs HB.out hb); clear hb hbox hg) | ((with_reducible refine gc 26 rfl ?_); refine gl (some 9) Tryd.func26 #[.string a2] ?_; (with_reducible refine (natural_Normalize.calls k a2 t261 _ A4.out).mono ?_); rintro e w11 ⟨rfl, hb⟩; refine ⟨_, rfl, ?_⟩; replace BK260 := Aside0.mk (bk0 BK260.out hb); replace HB := Aside0.mk (bs HB.out hb); (try clear hb)) | ((with_reducible refine gc 30 rfl ?_); refine gl (some 15) Tryd.func30 #[.bool a0, .string a1, .string a2] ?_; (with_reducible refine (rational_reduced.calls k a0 a1 a2 t262 t263 t264 _ A9.out).mono ?_); rintro e w12 ⟨rfl, hb⟩; refine ⟨_, rfl, ?_⟩; replace BK260 := Aside0.mk (bk0 BK260.out hb); replace HB := Aside0.mk (bs HB.out hb); (try clear hb); obtain ⟨hcz13_0, hcz13_1, hcz13_2, hfz13_0, hfz13_1, hfz13_2⟩ := c3 BK260.out))
  refine bodyPost_ret (results_ct rfl _ _ gb260 23 #[.bool t262, .string t263, .string t264] (0, 0) _ rfl (bq BK260.out) Tryd.underlying23 rfl (by kernel_rfl)) rfl ?_
  exact ⟨fe, bz HB.out⟩

/-! ### natural_FromUint: function 60 -/
def natural_FromUint.f (k : Nat) (a0 : Int) : Option (ByteArray) := (natural_limbs_text.f k (([(a0) % 4294967296, (a0 / 4294967296) % 4294967296] : List Int))).bind fun t268 => (some t268)
theorem natural_FromUint.mono : ∀ a0 k, LeO (natural_FromUint.f k a0) (natural_FromUint.f (k + 1) a0) := by
 intro a0 k
 unfold natural_FromUint.f
 repeat' first
   | (with_reducible exact natural_limbs_text.mono _ _)
   | (with_reducible exact LeO.refl _)
   | (with_reducible exact LeO.none _)
   | (with_reducible refine LeO.ite ?_ ?_)
   | (with_reducible refine LeO.bind ?_ (fun _ => ?_))
   | exact natural_limbs_text.mono _ _
   | exact LeO.none _
   | refine LeO.ite ?_ ?_
   | refine LeO.bind ?_ (fun _ => ?_)
set_option maxHeartbeats 8000000 in
set_option maxRecDepth 100000 in
theorem natural_FromUint.calls (k : Nat) (a0 : Int) (r : ByteArray) (w : World) (h : natural_FromUint.f k a0 = some r) :
  Calls Tryd.prog 60 #[.int .u64 a0] w fun e w' => e = .returned (.string r) ∧ Below w.heap.size w w' := by
 have HB := Aside0.mk (Below.refl w.heap.size w)
 have H := h
 clear h
 unfold natural_FromUint.f at H
 obtain ⟨y265, hy265⟩ : ∃ y_ : List Int, y_ = (([(a0) % 4294967296, (a0 / 4294967296) % 4294967296] : List Int)) := ⟨_, rfl⟩
 replace H : ((natural_limbs_text.f k y265).bind fun t268 => (some t268)) = some r := by first | (rw [hy265]; with_reducible exact H) | (have H2_ := (Option.bind_some _ _).symm.trans H; rw [hy265]; with_reducible exact H2_) | (have H2_ := (Option.bind_some _ _).symm.trans H; with_reducible exact H2_) | with_reducible exact H | (rw [hy265]; exact H) | exact H
 have Ny265 := Aside0.mk hy265
 clear hy265
 obtain ⟨t268, A2, H⟩ := bs1 H
 obtain rfl := Option.some.inj H
 go_enter Tryd.func60, Tryd.ntmps60
 go_wp2_with (first | ((with_reducible refine gd 8 rfl ?_); refine Kd.R_lit (Kd.int .u32) _ 72 ?hg (N := 8) ?hd (xs := ([(a0) % 4294967296, (a0 / 4294967296) % 4294967296] : List Int)) (inner := [.int .u32 ((a0) % 4294967296), .int .u32 ((a0 / 4294967296) % 4294967296)]) (ok := fun _ => True) (okp := fun _ => True) ?hr ?hp (fun _ hk => hk) trivial (Below.refl _ _) (Nat.le_refl _) (by simp) ?_; (case hd => rfl); (case hg => rfl); (case hr => first | (go_simp; done) | (go_simp; rfl)); (case hp => exact (Reps.one (show Kd.M (Kd.int .u32) _ _ _ ((a0) % 4294967296) [.int .u32 ((a0) % 4294967296)] from rfl) (Reps.one (show Kd.M (Kd.int .u32) _ _ _ ((a0 / 4294967296) % 4294967296) [.int .u32 ((a0 / 4294967296) % 4294967296)] from rfl) (Reps.none _ _)))); intro v266 w3 ho4 hb hg_ hnew_; clear hg_ hnew_; (first | rw [← Ny265.out] at ho4 | (simp only [Int.reduceToNat] at ho4; rw [← Ny265.out] at ho4)); have HO267 := Aside0.mk (Kd.R_lower ho4 (sz HB.out)); replace HB := Aside0.mk (bs HB.out hb); clear hb ho4; obtain ⟨Ao5, co5, eo5⟩ := Kd.R_slice HO267.out; subst eo5) | ((with_reducible refine gc 56 rfl ?_); refine gl (some 9) Tryd.func56 #[.slice Ao5 y265.length co5] ?_; (with_reducible refine (natural_limbs_text.calls k _ _ y265 t268 _ ?side1 ?side2 A2.out).mono ?_); (case side1 => exact vs (Kd.R_reads' HO267.out).2.2); (case side2 => exact (Kd.R_reads' HO267.out).2.1); rintro e w6 ⟨rfl, hb⟩; refine ⟨_, rfl, ?_⟩; replace HO267 := Aside0.mk (rb HO267.out hb); replace HB := Aside0.mk (bs HB.out hb); (try clear hb)))
 go_ret
 exact ⟨fe, bz HB.out⟩

/-! ### rational_magnitude: function 33 -/
def rational_magnitude.f (k : Nat) (a0 : Int) : Option (ByteArray) := if a0 < 0 then ((natural_FromUint.f k (IntKind.u64.wrap (-(IntKind.u64.wrap (a0))))).bind fun t269 => (some t269)) else ((natural_FromUint.f k (IntKind.u64.wrap (a0))).bind fun t270 => (some t270))
theorem rational_magnitude.mono : ∀ a0 k, LeO (rational_magnitude.f k a0) (rational_magnitude.f (k + 1) a0) := by
 intro a0 k
 unfold rational_magnitude.f
 repeat' first
   | (with_reducible exact natural_FromUint.mono _ _)
   | (with_reducible exact LeO.refl _)
   | (with_reducible exact LeO.none _)
   | (with_reducible refine LeO.ite ?_ ?_)
   | (with_reducible refine LeO.bind ?_ (fun _ => ?_))
   | exact natural_FromUint.mono _ _
   | exact LeO.none _
   | refine LeO.ite ?_ ?_
   | refine LeO.bind ?_ (fun _ => ?_)
set_option maxHeartbeats 8000000 in
set_option maxRecDepth 100000 in
theorem rational_magnitude.calls (k : Nat) (a0 : Int) (r : ByteArray) (w : World) (h : rational_magnitude.f k a0 = some r) :
  Calls Tryd.prog 33 #[.int .i64 a0] w fun e w' => e = .returned (.string r) ∧ Below w.heap.size w w' := by
 have HB := Aside0.mk (Below.refl w.heap.size w)
 have H := h
 clear h
 unfold rational_magnitude.f at H
 by_cases c2 : a0 < 0
 ·rw [if_pos c2] at H
  have c2b0 : decide (a0 < 0) = true := decide_eq_true c2
  clear c2
  obtain ⟨t269, A3, H⟩ := bs1 H
  obtain rfl := Option.some.inj H
  go_enter Tryd.func33, Tryd.ntmps33
  go_wp2_with (first | ((with_reducible refine gc 60 rfl ?_); refine gl (some 8) Tryd.func60 #[.int .u64 (IntKind.u64.wrap (-(IntKind.u64.wrap (a0))))] ?_; (with_reducible refine (natural_FromUint.calls k (IntKind.u64.wrap (-(IntKind.u64.wrap (a0)))) t269 _ A3.out).mono ?_); rintro e w4 ⟨rfl, hb⟩; refine ⟨_, rfl, ?_⟩; replace HB := Aside0.mk (bs HB.out hb); (try clear hb)))
  go_ret
  exact ⟨fe, bz HB.out⟩
 ·rw [if_neg c2] at H
  have c2b0 : decide (a0 < 0) = false := decide_eq_false c2
  clear c2
  obtain ⟨t270, A5, H⟩ := bs1 H
  obtain rfl := Option.some.inj H
  go_enter Tryd.func33, Tryd.ntmps33
  go_wp2_with (first | ((with_reducible refine gc 60 rfl ?_); refine gl (some 11) Tryd.func60 #[.int .u64 (IntKind.u64.wrap (a0))] ?_; (with_reducible refine (natural_FromUint.calls k (IntKind.u64.wrap (a0)) t270 _ A5.out).mono ?_); rintro e w6 ⟨rfl, hb⟩; refine ⟨_, rfl, ?_⟩; replace HB := Aside0.mk (bs HB.out hb); (try clear hb)))
  go_ret
  exact ⟨fe, bz HB.out⟩

/-! ### rational_Fraction: function 21 -/
def rational_Fraction.f (k : Nat) (a0 : Int) (a1 : Int) : Option (Bool × ByteArray × ByteArray × Bool) := (rational_magnitude.f k a0).bind fun t272 => ((rational_magnitude.f k a1).bind fun t273 => ((rational_Make.f k ((decide (a0 < 0)) != (decide (a1 < 0))) t272 t273).bind fun bt274 => (some (bt274.1, bt274.2.1, bt274.2.2.1, bt274.2.2.2))))
theorem rational_Fraction.mono : ∀ a0 a1 k, LeO (rational_Fraction.f k a0 a1) (rational_Fraction.f (k + 1) a0 a1) := by
 intro a0 a1 k
 unfold rational_Fraction.f
 repeat' first
   | (with_reducible exact rational_Make.mono _ _ _ _)
   | (with_reducible exact rational_magnitude.mono _ _)
   | (with_reducible exact LeO.refl _)
   | (with_reducible exact LeO.none _)
   | (with_reducible refine LeO.ite ?_ ?_)
   | (with_reducible refine LeO.bind ?_ (fun _ => ?_))
   | exact rational_Make.mono _ _ _ _
   | exact rational_magnitude.mono _ _
   | exact LeO.none _
   | refine LeO.ite ?_ ?_
   | refine LeO.bind ?_ (fun _ => ?_)
set_option maxHeartbeats 8000000 in
set_option maxRecDepth 100000 in
theorem rational_Fraction.calls (k : Nat) (a0 : Int) (a1 : Int) (r1 : Bool) (r2 : ByteArray) (r3 : ByteArray) (r4 : Bool) (w : World) (h : rational_Fraction.f k a0 a1 = some (r1, r2, r3, r4)) :
  Calls Tryd.prog 21 #[.int .i64 a0, .int .i64 a1] w fun e w' => e = .returned (.tuple #[.agg #[.bool r1, .string r2, .string r3], .bool r4]) ∧ Below w.heap.size w w' := by
 have hu23 := Tryd.underlying23
 have HB := Aside0.mk (Below.refl w.heap.size w)
 have H := h
 clear h
 unfold rational_Fraction.f at H
 obtain ⟨t272, A3, H⟩ := bs1 H
 obtain ⟨t273, A4, H⟩ := bs1 H
 obtain ⟨⟨t274, t275, t276, t277⟩, A5, H⟩ := bs1 H; dsimp only at H
 simp only [Option.some.injEq, Prod.mk.injEq] at H
 obtain ⟨rfl, rfl, rfl, rfl⟩ := H
 go_enter Tryd.func21, Tryd.ntmps21
 go_wp2_with (first | ((with_reducible refine gd 4 rfl ?_); refine bx 4 (#[.bool false, .string (⟨#[]⟩ : ByteArray), .string (⟨#[]⟩ : ByteArray)]) 23 ?_; intro gb271 hg w6 hbox hb; have BK271 := Aside0.mk (hbox); have GW271 := sg hg HB.out; have GE271 := sg hg HB.out; replace HB := Aside0.mk (bs HB.out hb); clear hb hbox hg) | ((with_reducible refine gc 33 rfl ?_); refine gl (some 12) Tryd.func33 #[.int .i64 a0] ?_; (with_reducible refine (rational_magnitude.calls k a0 t272 _ A3.out).mono ?_); rintro e w7 ⟨rfl, hb⟩; refine ⟨_, rfl, ?_⟩; replace BK271 := Aside0.mk (bk0 BK271.out hb); replace HB := Aside0.mk (bs HB.out hb); (try clear hb)) | ((with_reducible refine gc 33 rfl ?_); refine gl (some 14) Tryd.func33 #[.int .i64 a1] ?_; (with_reducible refine (rational_magnitude.calls k a1 t273 _ A4.out).mono ?_); rintro e w8 ⟨rfl, hb⟩; refine ⟨_, rfl, ?_⟩; replace BK271 := Aside0.mk (bk0 BK271.out hb); replace HB := Aside0.mk (bs HB.out hb); (try clear hb)) | ((with_reducible refine gc 11 rfl ?_); refine gl (some 15) Tryd.func11 #[.bool ((decide (a0 < 0)) != (decide (a1 < 0))), .string t272, .string t273] ?_; (with_reducible refine (rational_Make.calls k ((decide (a0 < 0)) != (decide (a1 < 0))) t272 t273 t274 t275 t276 t277 _ A5.out).mono ?_); rintro e w9 ⟨rfl, hb⟩; refine ⟨_, rfl, ?_⟩; replace BK271 := Aside0.mk (bk0 BK271.out hb); replace HB := Aside0.mk (bs HB.out hb); (try clear hb); obtain ⟨hcz10_0, hcz10_1, hcz10_2, hfz10_0, hfz10_1, hfz10_2⟩ := c3 BK271.out))
 refine bodyPost_ret (results_ct rfl _ _ gb271 23 #[.bool t274, .string t275, .string t276] (0, 0) _ rfl (bq BK271.out) Tryd.underlying23 rfl (by kernel_rfl)) rfl ?_
 exact ⟨fe, bz HB.out⟩

end Go.Proofs.YtgepdnoaemeofaaDoor.E
