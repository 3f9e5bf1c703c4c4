/- Printed by a program of this session (wip/tools) out of the translation: plain functions and the proofs that the code comes to their answers. -/
import Derived.Test.YtgepdnoaemeofaaDoorXRationalMake5
namespace Go.Proofs.YtgepdnoaemeofaaDoor.M
open Go.RowKit Go.Proofs.YtgepdnoaemeofaaDoorW.PrintWords Go.Proofs.YtgepdnoaemeofaaDoorW.PrintLast Go.Proofs.YtgepdnoaemeofaaDoorW.PrintMore Go.Proofs.YtgepdnoaemeofaaDoorW.PK
attribute [local go_sem] max2_int min2_int max_two min_two max_three min_three max_four min_four   -- for this text's walks alone
set_option linter.unusedVariables false
set_option linter.unusedSimpArgs false

/-! ### insolvencyref1_shifted: function 105 -/
def insolvencyref1_shifted.l0 : Nat → List Int → Int → List Int → Int → Option (List Int)
 | 0, _, _, _, _ => none
 | k + 1, x0, x1, x5, x6 => if x6 < (x0.length : Int) then (if 0 ≤ x6 then (if 0 ≤ x1 then (if x6 < (x5.length : Int) then (if 0 ≤ (wrap64 (x6 + 1)) then (if (wrap64 (x6 + 1)) < (x5.length : Int) then (insolvencyref1_shifted.l0 k x0 x1 ((x5.set (x6 : Int).toNat (Go.bits .or .u32 (rd x5 x6) ((shl .u64 (IntKind.u64.wrap (rd x0 x6)) x1) % 4294967296))).set ((wrap64 (x6 + 1)) : Int).toNat (((shl .u64 (IntKind.u64.wrap (rd x0 x6)) x1) / 4294967296) % 4294967296)) (wrap64 (x6 + 1))) else (none)) else (none)) else (none)) else (none)) else (none)) else (some x5)
def insolvencyref1_shifted.f (k : Nat) (l0 : List Int) (a1 : Int) : Option (List Int) := if 0 ≤ (wrap64 ((l0.length : Int) + 1)) then (if (wrap64 ((l0.length : Int) + 1) : Int).toNat ≤ 70368744177664 then (insolvencyref1_shifted.l0 k l0 a1 (List.replicate (wrap64 ((l0.length : Int) + 1) : Int).toNat 0) 0) else (none)) else (none)
theorem insolvencyref1_shifted.mono_l : ∀ k, (∀ y0 y1 y2 y3, LeO (insolvencyref1_shifted.l0 k y0 y1 y2 y3) (insolvencyref1_shifted.l0 (k + 1) y0 y1 y2 y3))
 | 0 => fun _ _ _ _ r h => by simp [insolvencyref1_shifted.l0] at h
 | k + 1 => by
  have ih0 := insolvencyref1_shifted.mono_l k
  ·intro y0 y1 y2 y3
   unfold insolvencyref1_shifted.l0
   repeat' with_reducible first | exact ih0 _ _ _ _ | exact LeO.refl _ | exact LeO.none _ | refine LeO.ite ?_ ?_ | refine LeO.bind ?_ (fun _ => ?_)
theorem insolvencyref1_shifted.mono : ∀ a0 a1 k, LeO (insolvencyref1_shifted.f k a0 a1) (insolvencyref1_shifted.f (k + 1) a0 a1) := by
 intro a0 a1 k
 have ih0 := insolvencyref1_shifted.mono_l k
 unfold insolvencyref1_shifted.f
 repeat' with_reducible first | exact ih0 _ _ _ _ | exact LeO.refl _ | exact LeO.none _ | refine LeO.ite ?_ ?_ | refine LeO.bind ?_ (fun _ => ?_)
set_option maxHeartbeats 8000000 in
set_option maxRecDepth 100000 in
theorem insolvencyref1_shifted.calls (k : Nat) (A0 : Option Addr) (c0 : Nat) (l0 : List Int) (a1 : Int) (r : List Int) (w : World) (hr0 : Kd.C (Kd.int .u32) w A0 l0.length l0) (hc0 : l0.length ≤ c0) (h : insolvencyref1_shifted.f k l0 a1 = some r) :
  Calls Tryd.prog 105 #[.slice A0 l0.length c0, .int .u64 a1] w fun e w' => ∃ v0_ : Value, e = .returned (v0_) ∧ Kd.R (Kd.int .u32) 72 w' w.heap.size (fun _ => True) v0_ r ∧ Below w.heap.size w w' := by
 have HR0 := Aside0.mk hr0
 have HC0 := Aside0.mk hc0
 clear hr0 hc0
 have HB := Aside0.mk (Below.refl w.heap.size w)
 have H := h
 clear h
 unfold insolvencyref1_shifted.f at H
 obtain ⟨ji3, hji3⟩ : ∃ j_ : Int, (wrap64 ((l0.length : Int) + 1)) = j_ := ⟨_, rfl⟩
 first | rw [hji3] at H | simp only [hji3] at H
 have hji3w : (IntKind.i64.wrap ((l0.length : Int) + 1)) = ji3 := (i64_w _).trans hji3
 obtain ⟨c4, H⟩ := iN H
 have c4b0 := eq_true c4
 have c4b1 : decide (0 ≤ (ji3)) = true := decide_eq_true c4
 clear c4
 obtain ⟨c5, H⟩ := iN H
 have c5b0 := eq_true c5
 have c5b1 : decide ((ji3 : Int).toNat ≤ 70368744177664) = true := decide_eq_true c5
 clear c5
 obtain ⟨y501, hy501⟩ : ∃ y_ : List Int, y_ = (List.replicate (ji3 : Int).toNat 0) := ⟨_, rfl⟩
 (try first | rw [← hy501] at H | (dsimp only at H; rw [← hy501] at H)); (try rw [Option.bind_some] at H)
 have Ny501 := Aside0.mk hy501
 clear hy501
 have H' := Aside0.mk H
 clear H
 go_enter Tryd.func105, Tryd.ntmps105
 go_wp2_with (first | ((with_reducible refine gd 11 rfl ?_); refine Kd.R_make (Kd.int .u32) _ 72 rfl (N := 11) rfl 50 _ _ rfl ji3 rfl rfl Tryd.underlying50 (.int .u32 0) 4 info72 rfl (by decide) (by omega) 0 (ok := fun _ => True) (okp := fun _ => True) rfl (fun _ hk => hk) trivial oa (Nat.le_trans (Nat.mul_le_mul_right _ (oa : ji3.toNat ≤ 70368744177664)) (by omega)) (Below.refl _ _) (Nat.le_refl _) ?_; intro v502 w6 ho7 hb hg_ hnew_; clear hg_ hnew_; (first | rw [← Ny501.out] at ho7 | (simp only [Int.reduceToNat] at ho7; rw [← Ny501.out] at ho7)); have HO503 := Aside0.mk (Kd.R_lower ho7 (sz HB.out)); replace HB := Aside0.mk (bs HB.out hb); clear hb ho7))
 go_loopg [6] k (fun kq v6 w' => ∃ (x5_1 : List Int) (x6_1 : Int), v6 = .int .i64 x6_1 ∧ Aside0 (insolvencyref1_shifted.l0 kq l0 a1 x5_1 x6_1 = some r) ∧ Aside0 (kq ≤ k) ∧ Aside0 (Kd.R (Kd.int .u32) 72 w' w.heap.size (fun _ => True) v502 x5_1) ∧ Aside0 (Below w.heap.size w w'))
 case atStart => exact ⟨(y501), (0), fs, H', ⟨Nat.le_refl _⟩, ⟨vs HO503.out⟩, ⟨bz HB.out⟩⟩
 case round =>
  clear H'
  (try clear c4b0); (try clear c4b1); (try clear c5b0); (try clear c5b1)
  obtain ⟨x5_1, x6_1, rfl, HA, HK1, HO_5, HB⟩ := hrel
  cases gk with
  | zero => exact absurd HA.out (by simp [insolvencyref1_shifted.l0])
  | succ k1 =>
   have H := HA.out
   clear HA
   simp only [insolvencyref1_shifted.l0] at H
   by_cases c8 : x6_1 < (l0.length : Int)
   ·rw [if_pos c8] at H
    have c8b0 : decide (x6_1 < (l0.length : Int)) = true := decide_eq_true c8
    clear c8
    obtain ⟨c9, H⟩ := iN H
    have c9b0 : decide (0 ≤ x6_1) = true := decide_eq_true c9
    clear c9
    obtain ⟨c10, H⟩ := iN H
    have c10b0 := eq_true c10
    have c10b1 : decide (0 ≤ a1) = true := decide_eq_true c10
    clear c10
    obtain ⟨ji11, hji11⟩ : ∃ j_ : Int, (shl .u64 (IntKind.u64.wrap (rd l0 x6_1)) a1) = j_ := ⟨_, rfl⟩
    first | rw [hji11] at H | simp only [hji11] at H
    have hji11_ : (IntKind.u64.wrap ((IntKind.u64.wrap (rd l0 x6_1)) * 2 ^ min a1.toNat 64)) = ji11 := hji11
    have hji11z : a1 ≤ 64 → (IntKind.u64.wrap ((IntKind.u64.wrap (rd l0 x6_1)) * 2 ^ a1.toNat)) = ji11 := shl_small hji11
    obtain ⟨c12, H⟩ := iN H
    have c12b0 : decide (x6_1 < (x5_1.length : Int)) = true := decide_eq_true c12
    clear c12
    obtain ⟨y506, hy506⟩ : ∃ y_ : List Int, y_ = (x5_1.set (x6_1 : Int).toNat (Go.bits .or .u32 (rd x5_1 x6_1) ((ji11) % 4294967296))) := ⟨_, rfl⟩
    (try first | rw [← hy506] at H | (dsimp only at H; rw [← hy506] at H)); (try rw [Option.bind_some] at H)
    have Ny506 := Aside0.mk hy506
    clear hy506
    obtain ⟨ji14, hji14⟩ : ∃ j_ : Int, (wrap64 (x6_1 + 1)) = j_ := ⟨_, rfl⟩
    first | rw [hji14] at H | simp only [hji14] at H
    have hji14w : (IntKind.i64.wrap (x6_1 + 1)) = ji14 := (i64_w _).trans hji14
    obtain ⟨c15, H⟩ := iN H
    have c15b0 : decide (0 ≤ (ji14)) = true := decide_eq_true c15
    clear c15
    obtain ⟨c16, H⟩ := iN H
    have c16b0 : decide ((ji14) < (x5_1.length : Int)) = true := decide_eq_true c16
    clear c16
    obtain ⟨y507, hy507⟩ : ∃ y_ : List Int, y_ = (y506.set ((ji14) : Int).toNat (((ji11) / 4294967296) % 4294967296)) := ⟨_, rfl⟩
    (try first | rw [← hy507] at H | (dsimp only at H; rw [← hy507] at H)); (try rw [Option.bind_some] at H)
    have Ny507 := Aside0.mk hy507
    clear hy507
    have H' := Aside0.mk H
    clear H
    have p504 : 0 ≤ (x6_1 : Int) := oa
    have q504 : x6_1 < (l0.length : Int) := oa
    obtain ⟨ad504, e504, hx504_0⟩ := Kd.at_int HR0.out x6_1 p504 q504
    cases e504
    try replace hx504_0 := (HB.out.cell (World.block_lt_of_cell? w _ hx504_0)).trans hx504_0
    replace p504 := eq_true p504
    replace q504 := eq_true q504
    obtain ⟨Ao18, co18, eo18⟩ := Kd.R_slice HO_5.out
    subst eo18
    have p505 : 0 ≤ (x6_1 : Int) := oa
    have q505 : x6_1 < (x5_1.length : Int) := oa
    obtain ⟨ad505, e505, hx505_0⟩ := Kd.at_int (Kd.R_reads' HO_5.out).2.2 x6_1 p505 q505
    cases e505
    replace p505 := eq_true p505
    replace q505 := eq_true q505
    have p13 : 0 ≤ (x6_1 : Int) := oa
    have q13 : (x6_1 : Int) < ((x5_1.length : Int) : Int) := oa
    obtain ⟨go13, co13, eo13, gb13, gl13, cl13, HG13⟩ := Kd.R_form HO_5.out (by omega)
    (first | cases eo13 | (injection eo13 with ea_ en_ ec_; (first | subst ea_ | (injection ea_ with ea_; subst ea_)); subst ec_; clear en_))
    have GB13 := Aside0.mk gb13
    have GG13 := Aside0.mk HG13
    clear gb13 gl13 HG13
    (first | simp only [add_plain] at hx505_0 | skip)
    obtain ⟨hx13_0, hf13_0⟩ := Kd.R_celln 0 HO_5.out (x6_1 : Int) p13 q13
    replace p13 := eq_true p13
    replace q13 := eq_true q13
    have HP19 := Kd.R_putg HO_5.out (x6_1 : Int) (Go.bits .or .u32 (rd x5_1 x6_1) ((ji11) % 4294967296))
    go_wp2_with (first | ((with_reducible refine gate_store (t := 72) (p := 34) rfl ?_); refine se 72 34 (w1 := (wr.setCell ⟨go13, (x6_1 : Int).toNat, none⟩ (.int .u32 (Go.bits .or .u32 (rd x5_1 x6_1) ((ji11) % 4294967296))))) ?_; intro w20 hw; have hg : wr.grownBy w20 (some go13) := (by rw [hw]; exact HP19.2); have hp_ : Kd.R (Kd.int .u32) 72 w20 w.heap.size (fun _ => True) (.slice (some ⟨go13, 0, none⟩) x5_1.length co18) y506 := (by rw [hw, Ny506.out]; exact HP19.1); clear HP19; replace HO_5 := Aside0.mk (hp_); replace HB := Aside0.mk ((by rw [hw]; exact below_set (HB.out) GB13.out : Below w.heap.size w w20)); clear hg hw hp_; have p17 : 0 ≤ ((ji14) : Int) := oa; have q17 : ((ji14) : Int) < ((x5_1.length : Int) : Int) := oa; obtain ⟨hx17_0, hf17_0⟩ := Kd.R_celln 0 HO_5.out ((ji14) : Int) p17 q17; replace p17 := eq_true p17; replace q17 := eq_true q17; obtain ⟨hy21_, hz21_⟩ := Kd.R_celln 0 HO_5.out ((ji14) : Int) oa oa; have HP21 := Kd.R_putg HO_5.out ((ji14) : Int) (((ji11) / 4294967296) % 4294967296)) | ((with_reducible refine gate_store (t := 72) (p := 41) rfl ?_); refine se 72 41 (w1 := (w20.setCell ⟨go13, ((ji14) : Int).toNat, none⟩ (.int .u32 (((ji11) / 4294967296) % 4294967296)))) ?_; intro w22 hw; have hg : w20.grownBy w22 (some go13) := (by rw [hw]; exact HP21.2); have hp_ : Kd.R (Kd.int .u32) 72 w22 w.heap.size (fun _ => True) (.slice (some ⟨go13, 0, none⟩) x5_1.length co18) y507 := (by rw [hw, Ny507.out]; exact HP21.1); clear HP21; replace HO_5 := Aside0.mk (hp_); replace HB := Aside0.mk ((by rw [hw]; exact below_set (HB.out) GB13.out : Below w.heap.size w w22)); clear hg hw hp_))
    go_roundg k1
    case measure => have := HK1.out; omega
    case rel => exact ⟨(y507), (ji14), (by first | rfl | (simp; done) | (simp only [← hji14] <;> (first | rfl | simp)) | (simp [*]; done)), H', ⟨by have := HK1.out; omega⟩, ⟨vs HO_5.out⟩, ⟨bz HB.out⟩⟩
   ·rw [if_neg c8] at H
    have c8b0 : decide (x6_1 < (l0.length : Int)) = false := decide_eq_false c8
    clear c8
    obtain rfl := Option.some.inj H
    go_wp2
    go_ret
    exact ⟨_, by first | rfl | (simp [errW_none, errW_some] <;> rfl) | (simp only [← hji3]; first | rfl | (simp [errW_none, errW_some] <;> rfl)) | (simp [*, errW_none, errW_some] <;> rfl), vs HO_5.out, bz HB.out⟩
end Go.Proofs.YtgepdnoaemeofaaDoor.M
