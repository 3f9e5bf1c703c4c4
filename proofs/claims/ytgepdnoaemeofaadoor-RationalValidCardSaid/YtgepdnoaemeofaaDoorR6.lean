/- Printed by a program of this session (wip/tools) out of the translation: plain functions and the proofs that the code comes to their answers. -/
import Derived.Test.YtgepdnoaemeofaaDoorK
import Derived.Test.YtgepdnoaemeofaaDoorR0
import Derived.Test.YtgepdnoaemeofaaDoorR2
import Derived.Test.YtgepdnoaemeofaaDoorR3
import Derived.Test.YtgepdnoaemeofaaDoorR4
import Derived.Test.YtgepdnoaemeofaaDoorR5
namespace Go.Proofs.YtgepdnoaemeofaaDoor.R
open Go.RowKit Go.Proofs.YtgepdnoaemeofaaDoorW.PrintWords Go.Proofs.YtgepdnoaemeofaaDoorW.PrintLast Go.Proofs.YtgepdnoaemeofaaDoorW.PrintMore Go.Proofs.YtgepdnoaemeofaaDoorW.PK
attribute [local go_sem] max2_int min2_int max_two min_two max_three min_three max_four min_four   -- for this text's walks alone
set_option linter.unusedVariables false
set_option linter.unusedSimpArgs false

/-! ### natural_unshift: function 85 -/
def natural_unshift.l0 : Nat → List Int → Int → List Int → Int → Int → Option (List Int)
 | 0, _, _, _, _, _ => none
 | k + 1, x0, x1, x5, x12, x13 => if x13 < x12 then (if 0 ≤ x13 then (if x13 < (x0.length : Int) then (if (wrap64 (x13 + 1)) < (x0.length : Int) then (if 0 ≤ (wrap64 (x13 + 1)) then (if 0 ≤ x1 then (if x13 < (x5.length : Int) then (natural_unshift.l0 k x0 x1 (x5.set (x13 : Int).toNat ((shr .u64 (Go.bits .or .u64 (IntKind.u64.wrap (rd x0 x13)) (IntKind.u64.wrap ((IntKind.u64.wrap (rd x0 (wrap64 (x13 + 1)))) * 4294967296))) x1) % 4294967296)) x12 (wrap64 (x13 + 1))) else (none)) else (none)) else (none)) else (if 0 ≤ x1 then (if x13 < (x5.length : Int) then (natural_unshift.l0 k x0 x1 (x5.set (x13 : Int).toNat ((shr .u64 (IntKind.u64.wrap (rd x0 x13)) x1) % 4294967296)) x12 (wrap64 (x13 + 1))) else (none)) else (none))) else (none)) else (none)) else ((natural_limbs_trim.f k x5).bind fun t179 => (some t179))
def natural_unshift.f (k : Nat) (l0 : List Int) (a1 : Int) : Option (List Int) := if 0 ≤ (l0.length : Int) then (if ((l0.length : Int) : Int).toNat ≤ 70368744177664 then (natural_unshift.l0 k l0 a1 (List.replicate ((l0.length : Int) : Int).toNat 0) (l0.length : Int) 0) else (none)) else (none)
theorem natural_unshift.mono_l : ∀ k, (∀ y0 y1 y2 y3 y4, LeO (natural_unshift.l0 k y0 y1 y2 y3 y4) (natural_unshift.l0 (k + 1) y0 y1 y2 y3 y4))
 | 0 => fun _ _ _ _ _ r h => by simp [natural_unshift.l0] at h
 | k + 1 => by
  have ih0 := natural_unshift.mono_l k
  ·intro y0 y1 y2 y3 y4
   unfold natural_unshift.l0
   repeat' with_reducible first | exact ih0 _ _ _ _ _ | exact natural_limbs_trim.mono _ _ | exact LeO.refl _ | exact LeO.none _ | refine LeO.ite ?_ ?_ | refine LeO.bind ?_ (fun _ => ?_)
theorem natural_unshift.mono : ∀ a0 a1 k, LeO (natural_unshift.f k a0 a1) (natural_unshift.f (k + 1) a0 a1) := by
 intro a0 a1 k
 have ih0 := natural_unshift.mono_l k
 unfold natural_unshift.f
 repeat' with_reducible first | exact ih0 _ _ _ _ _ | exact natural_limbs_trim.mono _ _ | exact LeO.refl _ | exact LeO.none _ | refine LeO.ite ?_ ?_ | refine LeO.bind ?_ (fun _ => ?_)
set_option maxHeartbeats 8000000 in
set_option maxRecDepth 100000 in
theorem natural_unshift.calls (k : Nat) (A0 : Option Addr) (c0 : Nat) (l0 : List Int) (a1 : Int) (r : List Int) (w : World) (hr0 : Kd.C (Kd.int .u32) w A0 l0.length l0) (hc0 : l0.length ≤ c0) (h : natural_unshift.f k l0 a1 = some r) :
  Calls Tryd.prog 85 #[.slice A0 l0.length c0, .int .u64 a1] w fun e w' => ∃ v0_ : Value, e = .returned (v0_) ∧ Kd.V (Kd.int .u32) 72 w' w.heap.size (fun k_ => (w.heap.size ≤ k_)) v0_ r ∧ Below w.heap.size w w' := by
 have HR0 := Aside0.mk hr0
 have HC0 := Aside0.mk hc0
 clear hr0 hc0
 have HB := Aside0.mk (Below.refl w.heap.size w)
 have H := h
 clear h
 unfold natural_unshift.f at H
 obtain ⟨c3, H⟩ := iN H
 have c3b0 := eq_true c3
 have c3b1 : decide (0 ≤ (l0.length : Int)) = true := decide_eq_true c3
 clear c3
 obtain ⟨c4, H⟩ := iN H
 have c4b0 := eq_true c4
 have c4b1 : decide (((l0.length : Int) : Int).toNat ≤ 70368744177664) = true := decide_eq_true c4
 clear c4
 obtain ⟨y172, hy172⟩ : ∃ y_ : List Int, y_ = (List.replicate ((l0.length : Int) : Int).toNat 0) := ⟨_, rfl⟩
 (try first | rw [← hy172] at H | (dsimp only at H; rw [← hy172] at H)); (try rw [Option.bind_some] at H)
 have Ny172 := Aside0.mk hy172
 clear hy172
 have H' := Aside0.mk H
 clear H
 go_enter Tryd.func85, Tryd.ntmps85
 go_wp2_with (first | ((with_reducible refine gd 10 rfl ?_); refine Kd.R_make (Kd.int .u32) _ 72 rfl (N := 10) rfl 65 _ _ rfl (l0.length : Int) rfl rfl Tryd.underlying65 (.int .u32 0) 4 info72 rfl (by decide) (by omega) 0 (ok := fun _ => True) (okp := fun _ => True) rfl (fun _ hk => hk) trivial oa (Nat.le_trans (Nat.mul_le_mul_right _ (oa : (l0.length : Int).toNat ≤ 70368744177664)) (by omega)) (Below.refl _ _) (Nat.le_refl _) ?_; intro v173 w5 ho6 hb hg_ hnew_; clear hg_ hnew_; (first | rw [← Ny172.out] at ho6 | (simp only [Int.reduceToNat] at ho6; rw [← Ny172.out] at ho6)); have HO174 := Aside0.mk (Kd.R_lower (Kd.R_newM (M := fun k_ => (w.heap.size ≤ k_)) ho6 (sz HB.out) (fun k_ h_ => h_)) (sz HB.out)); replace HB := Aside0.mk (bs HB.out hb); clear hb ho6))
 go_loopg [13] k (fun kq v13 w' => ∃ (x5_1 : List Int) (x13_1 : Int), v13 = .int .i64 x13_1 ∧ Aside0 (natural_unshift.l0 kq l0 a1 x5_1 (l0.length : Int) x13_1 = some r) ∧ Aside0 (kq ≤ k) ∧ Aside0 (Kd.R (Kd.int .u32) 72 w' w.heap.size (fun k_ => (w.heap.size ≤ k_)) v173 x5_1) ∧ Aside0 (Below w.heap.size w w'))
 case atStart => exact ⟨(y172), (0), fs, H', ⟨Nat.le_refl _⟩, ⟨rm HO174.out (fun _ hk => hk.1)⟩, ⟨bz HB.out⟩⟩
 case round =>
  clear H'
  (try clear c3b0); (try clear c3b1); (try clear c4b0); (try clear c4b1)
  obtain ⟨x5_1, x13_1, rfl, HA, HK1, HO_5, HB⟩ := hrel
  cases gk with
  | zero => exact absurd HA.out (by simp [natural_unshift.l0])
  | succ k1 =>
   have H := HA.out
   clear HA
   simp only [natural_unshift.l0] at H
   by_cases c7 : x13_1 < (l0.length : Int)
   ·rw [if_pos c7] at H
    have c7b0 : decide (x13_1 < (l0.length : Int)) = true := decide_eq_true c7
    clear c7
    obtain ⟨c8, H⟩ := iN H
    have c8b0 : decide (0 ≤ x13_1) = true := decide_eq_true c8
    clear c8
    obtain ⟨c9, H⟩ := iN H
    have c9b0 : decide (x13_1 < (l0.length : Int)) = true := decide_eq_true c9
    clear c9
    by_cases c10 : (wrap64 (x13_1 + 1)) < (l0.length : Int)
    ·rw [if_pos c10] at H
     have c10b0 : decide ((wrap64 (x13_1 + 1)) < (l0.length : Int)) = true := decide_eq_true c10
     clear c10
     obtain ⟨ji11, hji11⟩ : ∃ j_ : Int, (wrap64 (x13_1 + 1)) = j_ := ⟨_, rfl⟩
     first | rw [hji11] at H | simp only [hji11] at H
     (try rw [hji11] at c10b0)
     have hji11w : (IntKind.i64.wrap (x13_1 + 1)) = ji11 := (i64_w _).trans hji11
     obtain ⟨c12, H⟩ := iN H
     have c12b0 : decide (0 ≤ (ji11)) = true := decide_eq_true c12
     clear c12
     obtain ⟨c13, H⟩ := iN H
     have c13b0 := eq_true c13
     have c13b1 : decide (0 ≤ a1) = true := decide_eq_true c13
     clear c13
     obtain ⟨ji14, hji14⟩ : ∃ j_ : Int, (shr .u64 (Go.bits .or .u64 (IntKind.u64.wrap (rd l0 x13_1)) (IntKind.u64.wrap ((IntKind.u64.wrap (rd l0 (ji11))) * 4294967296))) a1) = j_ := ⟨_, rfl⟩
     first | rw [hji14] at H | simp only [hji14] at H
     have hji14_ : ((Go.bits .or .u64 (IntKind.u64.wrap (rd l0 x13_1)) (IntKind.u64.wrap ((IntKind.u64.wrap (rd l0 (ji11))) * 4294967296))) / 2 ^ min a1.toNat 64) = ji14 := hji14
     have hji14z : a1 ≤ 64 → ((Go.bits .or .u64 (IntKind.u64.wrap (rd l0 x13_1)) (IntKind.u64.wrap ((IntKind.u64.wrap (rd l0 (ji11))) * 4294967296))) / 2 ^ a1.toNat) = ji14 := shr_small hji14
     obtain ⟨c15, H⟩ := iN H
     have c15b0 : decide (x13_1 < (x5_1.length : Int)) = true := decide_eq_true c15
     clear c15
     obtain ⟨y177, hy177⟩ : ∃ y_ : List Int, y_ = (x5_1.set (x13_1 : Int).toNat ((ji14) % 4294967296)) := ⟨_, rfl⟩
     (try first | rw [← hy177] at H | (dsimp only at H; rw [← hy177] at H)); (try rw [Option.bind_some] at H)
     have Ny177 := Aside0.mk hy177
     clear hy177
     have H' := Aside0.mk H
     clear H
     have p175 : 0 ≤ (x13_1 : Int) := oa
     have q175 : x13_1 < (l0.length : Int) := oa
     obtain ⟨ad175, e175, hx175_0⟩ := Kd.at_int HR0.out x13_1 p175 q175
     cases e175
     try replace hx175_0 := (HB.out.cell (World.block_lt_of_cell? w _ hx175_0)).trans hx175_0
     replace p175 := eq_true p175
     replace q175 := eq_true q175
     have p176 : 0 ≤ ((ji11) : Int) := oa
     have q176 : (ji11) < (l0.length : Int) := oa
     obtain ⟨ad176, e176, hx176_0⟩ := Kd.at_int HR0.out (ji11) p176 q176
     obtain rfl : ad175 = ad176 := (by injection e176)
     try replace hx176_0 := (HB.out.cell (World.block_lt_of_cell? w _ hx176_0)).trans hx176_0
     replace p176 := eq_true p176
     replace q176 := eq_true q176
     have p16 : 0 ≤ (x13_1 : Int) := oa
     have q16 : (x13_1 : Int) < ((x5_1.length : Int) : Int) := oa
     obtain ⟨go16, co16, eo16, gb16, gl16, cl16, HG16⟩ := Kd.R_form HO_5.out (by omega)
     (first | cases eo16 | (injection eo16 with ea_ en_ ec_; (first | subst ea_ | (injection ea_ with ea_; subst ea_)); subst ec_; clear en_))
     have GB16 := Aside0.mk gb16
     have GG16 := Aside0.mk HG16
     clear gb16 gl16 HG16
     obtain ⟨hx16_0, hf16_0⟩ := Kd.R_celln 0 HO_5.out (x13_1 : Int) p16 q16
     replace p16 := eq_true p16
     replace q16 := eq_true q16
     have HP17 := Kd.R_putg HO_5.out (x13_1 : Int) ((ji14) % 4294967296)
     go_wp2_with (first | ((with_reducible refine gate_store (t := 72) (p := 41) rfl ?_); refine se 72 41 (w1 := (wr.setCell ⟨go16, (x13_1 : Int).toNat, none⟩ (.int .u32 ((ji14) % 4294967296)))) ?_; intro w18 hw; have hg : wr.grownBy w18 (some go16) := (by rw [hw]; exact HP17.2); have hp_ : Kd.R (Kd.int .u32) 72 w18 w.heap.size (fun k_ => (w.heap.size ≤ k_)) (.slice (some ⟨go16, 0, none⟩) x5_1.length co16) y177 := (by rw [hw, Ny177.out]; exact HP17.1); clear HP17; replace HO_5 := Aside0.mk (hp_); replace HB := Aside0.mk ((by rw [hw]; exact below_set (HB.out) GB16.out : Below w.heap.size w w18)); clear hg hw hp_))
     go_roundg k1
     case measure => have := HK1.out; omega
     case rel => exact ⟨(y177), (ji11), (by first | rfl | (simp; done) | (simp only [← hji11] <;> (first | rfl | simp)) | (simp [*]; done)), H', ⟨by have := HK1.out; omega⟩, ⟨vs HO_5.out⟩, ⟨bz HB.out⟩⟩
    ·rw [if_neg c10] at H
     have c10b0 : decide ((wrap64 (x13_1 + 1)) < (l0.length : Int)) = false := decide_eq_false c10
     clear c10
     obtain ⟨c19, H⟩ := iN H
     have c19b0 := eq_true c19
     have c19b1 : decide (0 ≤ a1) = true := decide_eq_true c19
     clear c19
     obtain ⟨ji20, hji20⟩ : ∃ j_ : Int, (shr .u64 (IntKind.u64.wrap (rd l0 x13_1)) a1) = j_ := ⟨_, rfl⟩
     first | rw [hji20] at H | simp only [hji20] at H
     have hji20_ : ((IntKind.u64.wrap (rd l0 x13_1)) / 2 ^ min a1.toNat 64) = ji20 := hji20
     have hji20z : a1 ≤ 64 → ((IntKind.u64.wrap (rd l0 x13_1)) / 2 ^ a1.toNat) = ji20 := shr_small hji20
     obtain ⟨c21, H⟩ := iN H
     have c21b0 : decide (x13_1 < (x5_1.length : Int)) = true := decide_eq_true c21
     clear c21
     obtain ⟨y178, hy178⟩ : ∃ y_ : List Int, y_ = (x5_1.set (x13_1 : Int).toNat ((ji20) % 4294967296)) := ⟨_, rfl⟩
     (try first | rw [← hy178] at H | (dsimp only at H; rw [← hy178] at H)); (try rw [Option.bind_some] at H)
     have Ny178 := Aside0.mk hy178
     clear hy178
     have H' := Aside0.mk H
     clear H
     have p175 : 0 ≤ (x13_1 : Int) := oa
     have q175 : x13_1 < (l0.length : Int) := oa
     obtain ⟨ad175, e175, hx175_0⟩ := Kd.at_int HR0.out x13_1 p175 q175
     cases e175
     try replace hx175_0 := (HB.out.cell (World.block_lt_of_cell? w _ hx175_0)).trans hx175_0
     replace p175 := eq_true p175
     replace q175 := eq_true q175
     have p22 : 0 ≤ (x13_1 : Int) := oa
     have q22 : (x13_1 : Int) < ((x5_1.length : Int) : Int) := oa
     obtain ⟨go22, co22, eo22, gb22, gl22, cl22, HG22⟩ := Kd.R_form HO_5.out (by omega)
     (first | cases eo22 | (injection eo22 with ea_ en_ ec_; (first | subst ea_ | (injection ea_ with ea_; subst ea_)); subst ec_; clear en_))
     have GB22 := Aside0.mk gb22
     have GG22 := Aside0.mk HG22
     clear gb22 gl22 HG22
     obtain ⟨hx22_0, hf22_0⟩ := Kd.R_celln 0 HO_5.out (x13_1 : Int) p22 q22
     replace p22 := eq_true p22
     replace q22 := eq_true q22
     have HP23 := Kd.R_putg HO_5.out (x13_1 : Int) ((ji20) % 4294967296)
     go_wp2_with (first | ((with_reducible refine gate_store (t := 72) (p := 41) rfl ?_); refine se 72 41 (w1 := (wr.setCell ⟨go22, (x13_1 : Int).toNat, none⟩ (.int .u32 ((ji20) % 4294967296)))) ?_; intro w24 hw; have hg : wr.grownBy w24 (some go22) := (by rw [hw]; exact HP23.2); have hp_ : Kd.R (Kd.int .u32) 72 w24 w.heap.size (fun k_ => (w.heap.size ≤ k_)) (.slice (some ⟨go22, 0, none⟩) x5_1.length co22) y178 := (by rw [hw, Ny178.out]; exact HP23.1); clear HP23; replace HO_5 := Aside0.mk (hp_); replace HB := Aside0.mk ((by rw [hw]; exact below_set (HB.out) GB22.out : Below w.heap.size w w24)); clear hg hw hp_))
     go_roundg k1
     case measure => have := HK1.out; omega
     case rel => exact ⟨(y178), (wrap64 (x13_1 + 1)), fs, H', ⟨by have := HK1.out; omega⟩, ⟨vs HO_5.out⟩, ⟨bz HB.out⟩⟩
   ·rw [if_neg c7] at H
    have c7b0 : decide (x13_1 < (l0.length : Int)) = false := decide_eq_false c7
    clear c7
    obtain ⟨t179, A25, H⟩ := bs1 H
    obtain rfl := Option.some.inj H
    obtain ⟨Ao26, co26, eo26⟩ := Kd.R_slice HO_5.out
    subst eo26
    go_wp2_with (first | ((with_reducible refine gc 80 rfl ?_); refine gl (some 44) Tryd.func80 #[.slice Ao26 x5_1.length co26] ?_; (with_reducible refine (natural_limbs_trim.calls k1 (fun k_ => some k_ = (.slice Ao26 x5_1.length co26 : Value).ownBlock) _ _ x5_1 t179 _ ?side1 A25.out).mono ?_); (case side1 => exact Kd.R_V (Kd.R_tight rfl (HO_5.out))); rintro e w27 ⟨v180, rfl, ho0, hb⟩; refine ⟨_, rfl, ?_⟩; have HO181 := Aside0.mk (Kd.V_lower (Kd.V_mono (ok' := fun k_ => (w.heap.size ≤ k_)) ho0 (fun k_ hk_ => Or.elim hk_ (fun hs_ => ((HO_5.out).1 k_ hs_.symm)) (fun hn_ => (Nat.le_trans (sz HB.out) hn_)))) (sz HB.out)); replace HO_5 := Aside0.mk (rb HO_5.out hb); replace HB := Aside0.mk (bs HB.out hb); (try clear hb ho0)))
    go_ret
    exact ⟨_, fe, vs HO181.out, bz HB.out⟩

/-! ### natural_stepw: a call of step with a window of a row (by hand) -/
def natural_stepw.f (k : Nat) (l0 : List Int) (lo : Int) (hi : Int) (l1 : List Int) : Option (Int × List Int) := if 0 ≤ lo ∧ lo < hi ∧ hi ≤ (l0.length : Int) then (natural_step.f k ((l0.take hi.toNat).drop lo.toNat) l1).bind fun z => some (z.1, l0.take lo.toNat ++ z.2 ++ l0.drop hi.toNat) else none
theorem natural_stepw.mono : ∀ a0 a1 a2 a3 k, LeO (natural_stepw.f k a0 a1 a2 a3) (natural_stepw.f (k + 1) a0 a1 a2 a3) := by
 intro a0 a1 a2 a3 k
 unfold natural_stepw.f
 exact LeO.ite (LeO.bind (natural_step.mono _ _ _) (fun _ => LeO.refl _)) (LeO.refl _)
theorem natural_stepw.calls (k : Nat) (P0_ : Nat → Prop) (u9000_ : Value) (l0 : List Int) (lo hi : Int) (A1 : Option Addr) (c1 : Nat) (l1 : List Int) (r1 : Int) (r2 : List Int) (w0 w : World) (hB : Below w0.heap.size w0 w) (ho0 : Kd.R (Kd.int .u32) 72 w w0.heap.size P0_ u9000_ l0) (hr1 : ∀ W_, Kept w W_ (fun k_ => P0_ k_) → Kd.C (Kd.int .u32) W_ A1 l1.length l1) (hc1 : l1.length ≤ c1) (h : natural_stepw.f k l0 lo hi l1 = some (r1, r2))
  {Au Aw : Option Addr} {cu nw cw : Nat} (hu : u9000_ = .slice Au l0.length cu) (hAw : Aw = if cu = lo.toNat then Au else Au.map (·.add (lo.toNat * 1))) (hnw : nw = hi.toNat - lo.toNat) (hcw : cw = cu - lo.toNat) :
  Calls Tryd.prog 84 #[.slice Aw nw cw, .slice A1 l1.length c1] w fun e w' => e = .returned (.int .u32 r1) ∧ Kd.R (Kd.int .u32) 72 w' w0.heap.size (fun k_ => (P0_ k_ ∨ w.heap.size ≤ k_)) u9000_ r2 ∧ Below w0.heap.size w0 w' ∧ Kept w w' (fun k_ => P0_ k_) := by
 subst hu
 unfold natural_stepw.f at h
 split at h
 ·rename_i hc
  obtain ⟨z, hz, h⟩ := Option.bind_eq_some_iff.mp h
  simp only [Option.some.injEq, Prod.mk.injEq] at h
  obtain ⟨rfl, rfl⟩ := h
  have hcu := (Kd.R_reads' ho0).2.1
  have hlo : lo.toNat < hi.toNat := by omega
  have hhi : hi.toNat ≤ l0.length := by omega
  obtain ⟨g, cap, hv, _⟩ := Kd.R_form ho0 (by omega)
  injection hv with hg _ _
  have hw := Kd.Wn_of_R ho0 hlo hhi hAw hnw hcw
  refine (natural_step.calls (l0.take lo.toNat) (l0.drop hi.toNat) k P0_ _ _ A1 c1 l1 z.1 z.2 w0 w hB hw hr1 hc1 hz).mono ?_
  rintro e w' ⟨rfl, hq, hb, hk⟩
  exact ⟨rfl, Kd.R_of_Wn rfl hq hlo hhi g hg hcu hAw hnw hcw, hb, hk⟩
 ·cases h

/-! ### natural_divide: function 55 -/
def natural_divide.l0 : Nat → Int → Int → List Int → List Int → List Int → Int → Option (List Int × List Int)
 | 0, _, _, _, _, _, _ => none
 | k + 1, x8, x9, x10, x11, x12, x13 => if x13 ≥ 0 then (if 0 ≤ x13 then (if x13 ≤ (wrap64 ((wrap64 (x13 + x9)) + 1)) then (if (wrap64 ((wrap64 (x13 + x9)) + 1)) ≤ (x11.length : Int) then ((natural_stepw.f k x11 x13 (wrap64 ((wrap64 (x13 + x9)) + 1)) x10).bind fun bt209 => (if x13 < (x12.length : Int) then (natural_divide.l0 k x8 x9 x10 bt209.2 (x12.set (x13 : Int).toNat bt209.1) (wrap64 (x13 - 1))) else (none))) else (none)) else (none)) else (none)) else ((natural_limbs_trim.f k x12).bind fun t212 => (if 0 ≤ x9 then (if x9 ≤ (x11.length : Int) then ((natural_unshift.f k (x11.take (x9 : Int).toNat) x8).bind fun t219 => (some (t212, t219))) else (none)) else (none)))
def natural_divide.f (k : Nat) (l0 : List Int) (l1 : List Int) : Option (List Int × List Int) := (natural_compare.f k l0 l1).bind fun t182 => (if t182 < 0 then (some (([] : List Int), l0)) else (if (l1.length : Int) = 1 then (if 0 < (l1.length : Int) then ((natural_divideSmall.f k l0 (rd l1 0)).bind fun bt184 => ((natural_limbs_trim.f k (([bt184.2] : List Int))).bind fun t191 => (some (bt184.1, t191)))) else (none)) else (if 0 ≤ (wrap64 ((l1.length : Int) - 1)) then (if (wrap64 ((l1.length : Int) - 1)) < (l1.length : Int) then ((bits_LeadingZeros32.f (rd l1 (wrap64 ((l1.length : Int) - 1)))).bind fun t195 => ((natural_shift.f k l1 (IntKind.u64.wrap (t195)) (l1.length : Int)).bind fun t196 => ((natural_shift.f k l0 (IntKind.u64.wrap (t195)) (wrap64 ((l0.length : Int) + 1))).bind fun t199 => (if 0 ≤ (wrap64 ((wrap64 ((l0.length : Int) - (l1.length : Int))) + 1)) then (if (wrap64 ((wrap64 ((l0.length : Int) - (l1.length : Int))) + 1) : Int).toNat ≤ 70368744177664 then ((some (List.replicate (wrap64 ((wrap64 ((l0.length : Int) - (l1.length : Int))) + 1) : Int).toNat 0 : List Int)).bind fun y202 => (natural_divide.l0 k (IntKind.u64.wrap (t195)) (l1.length : Int) t196 t199 y202 (wrap64 ((y202.length : Int) - 1)))) else (none)) else (none))))) else (none)) else (none))))
theorem natural_divide.mono_l : ∀ k, (∀ y0 y1 y2 y3 y4 y5, LeO (natural_divide.l0 k y0 y1 y2 y3 y4 y5) (natural_divide.l0 (k + 1) y0 y1 y2 y3 y4 y5))
 | 0 => fun _ _ _ _ _ _ r h => by simp [natural_divide.l0] at h
 | k + 1 => by
  have ih0 := natural_divide.mono_l k
  ·intro y0 y1 y2 y3 y4 y5
   unfold natural_divide.l0
   repeat' with_reducible first | exact ih0 _ _ _ _ _ _ | exact natural_compare.mono _ _ _ | exact natural_divideSmall.mono _ _ _ | exact natural_limbs_trim.mono _ _ | exact natural_shift.mono _ _ _ _ | exact natural_stepw.mono _ _ _ _ _ | exact natural_unshift.mono _ _ _ | exact LeO.refl _ | exact LeO.none _ | refine LeO.ite ?_ ?_ | refine LeO.bind ?_ (fun _ => ?_)
theorem natural_divide.mono : ∀ a0 a1 k, LeO (natural_divide.f k a0 a1) (natural_divide.f (k + 1) a0 a1) := by
 intro a0 a1 k
 have ih0 := natural_divide.mono_l k
 unfold natural_divide.f
 repeat' with_reducible first | exact ih0 _ _ _ _ _ _ | exact natural_compare.mono _ _ _ | exact natural_divideSmall.mono _ _ _ | exact natural_limbs_trim.mono _ _ | exact natural_shift.mono _ _ _ _ | exact natural_stepw.mono _ _ _ _ _ | exact natural_unshift.mono _ _ _ | exact LeO.refl _ | exact LeO.none _ | refine LeO.ite ?_ ?_ | refine LeO.bind ?_ (fun _ => ?_)
def natural_divide.T15 : Bool × List (List Nat × List Nat) := (true, [([], []), ([0], [0]), ([], []), ([], []), ([2, 3], [2, 3]), ([], []), ([4, 5, 1], [4, 5]), ([1, 6, 0, 1], [1]), ([6, 7, 0, 1, 2, 3, 4, 5, 6, 7], [6])])
def natural_divide.B15 : List Nat := [0, 1, 0, 0, 12, 0, 63, 127, 255]
theorem natural_divide.tab15 : rtab .any (opsOf Tryd.f55 15) = natural_divide.T15 := by kernel_rfl
theorem natural_divide.bits15 : waitsOk natural_divide.T15.2 natural_divide.B15 = true := by kernel_rfl
set_option maxHeartbeats 8000000 in
set_option maxRecDepth 100000 in
theorem natural_divide.calls (k : Nat) (P0_ : Nat → Prop) (A0 : Option Addr) (c0 : Nat) (l0 : List Int) (A1 : Option Addr) (c1 : Nat) (l1 : List Int) (r1 : List Int) (r2 : List Int) (w : World) (hs0 : Kd.V (Kd.int .u32) 72 w w.heap.size (fun k_ => P0_ k_) (.slice A0 l0.length c0) l0) (hr1 : Kd.C (Kd.int .u32) w A1 l1.length l1) (hc1 : l1.length ≤ c1) (h : natural_divide.f k l0 l1 = some (r1, r2)) :
  Calls Tryd.prog 55 #[.slice A0 l0.length c0, .slice A1 l1.length c1] w fun e w' => ∃ v0_ v1_ : Value, e = .returned (.tuple #[v0_, v1_]) ∧ Kd.V (Kd.int .u32) 72 w' w.heap.size (fun k_ => (P0_ k_ ∨ w.heap.size ≤ k_)) v0_ r1 ∧ Kd.V (Kd.int .u32) 72 w' w.heap.size (fun k_ => (P0_ k_ ∨ w.heap.size ≤ k_)) v1_ r2 ∧ Below w.heap.size w w' := by
 have HO0 := Aside0.mk (show Kd.V (Kd.int .u32) 72 w w.heap.size (fun k_ => (P0_ k_ ∨ w.heap.size ≤ k_)) (.slice A0 l0.length c0) l0 from Kd.V_mono hs0 (fun k_ hk => .inl hk))
 have HR1 := Aside0.mk hr1
 have HC1 := Aside0.mk hc1
 clear hr1 hc1
 have HB := Aside0.mk (Below.refl w.heap.size w)
 have H := h
 clear h
 unfold natural_divide.f at H
 obtain ⟨t182, A3, H⟩ := bs1 H
 by_cases c4 : t182 < 0
 ·rw [if_pos c4] at H
  have c4b0 : decide (t182 < 0) = true := decide_eq_true c4
  clear c4
  simp only [Option.some.injEq, Prod.mk.injEq] at H
  obtain ⟨rfl, rfl⟩ := H
  go_enter Tryd.func55, Tryd.ntmps55
  go_wp2_with (first | ((with_reducible refine gc 81 rfl ?_); refine gl (some 16) Tryd.func81 #[.slice A0 l0.length c0, .slice A1 l1.length c1] ?_; (with_reducible refine (natural_compare.calls k _ _ l0 _ _ l1 t182 _ ?side1 ?side2 ?side3 ?side4 A3.out).mono ?_); (case side1 => exact vs (Kd.V_reads' HO0.out).2.2); (case side2 => exact (Kd.V_reads' HO0.out).2.1); (case side3 => repeat (first | exact HR1.out | (with_reducible refine Kd.C_alloc ?_ _) | (with_reducible refine Kd.C_drewN ?_ _) | (with_reducible refine Kd.C_drew ?_))); (case side4 => exact HC1.out); rintro e w' ⟨rfl, ⟨nd, rfl⟩⟩; refine ⟨_, rfl, ?_⟩))
  go_ret2
  exact ⟨_, _, fe, (by first | exact Kd.V_nil _ _ _ _ _ | exact Kd.V_mono (Kd.R_V (by first | exact Kd.R_nil _ _ _ _ _ | exact Kd.N_nil _ _ _ _ _ | exact Kd.V_nil _ _ _ _ _ | exact Kd.Q_nil _ _ _ _ _ | exact Kd.S_nil _ _ _ _ _)) (fun k_ hk => by first | exact ⟨(.inr (hk.1)), hk.2⟩ | exact (.inr (hk)))), vs HO0.out, bz HB.out⟩
 ·rw [if_neg c4] at H
  have c4b0 : decide (t182 < 0) = false := decide_eq_false c4
  clear c4
  by_cases c5 : (l1.length : Int) = 1
  ·rw [if_pos c5] at H
   have c5b0 := beq_iff_eq.mpr c5
   have c5b1 := bne_eq_false_iff_eq.mpr c5
   clear c5
   obtain ⟨c6, H⟩ := iN H
   have c6b0 : decide (0 < (l1.length : Int)) = true := decide_eq_true c6
   have c6b1 : decide (0 < l1.length) = true := decide_eq_true (by omega)
   clear c6
   obtain ⟨⟨t184, t187⟩, A7, H⟩ := bs1 H; dsimp only at H
   obtain ⟨y188, hy188⟩ : ∃ y_ : List Int, y_ = (([t187] : List Int)) := ⟨_, rfl⟩
   (try first | rw [← hy188] at H | (dsimp only at H; rw [← hy188] at H)); (try rw [Option.bind_some] at H)
   have Ny188 := Aside0.mk hy188
   clear hy188
   obtain ⟨t191, A8, H⟩ := bs1 H
   simp only [Option.some.injEq, Prod.mk.injEq] at H
   obtain ⟨rfl, rfl⟩ := H
   go_enter Tryd.func55, Tryd.ntmps55
   go_wp2_with (first | ((with_reducible refine gc 81 rfl ?_); refine gl (some 16) Tryd.func81 #[.slice A0 l0.length c0, .slice A1 l1.length c1] ?_; (with_reducible refine (natural_compare.calls k _ _ l0 _ _ l1 t182 _ ?side1 ?side2 ?side3 ?side4 A3.out).mono ?_); (case side1 => exact vs (Kd.V_reads' HO0.out).2.2); (case side2 => exact (Kd.V_reads' HO0.out).2.1); (case side3 => repeat (first | exact HR1.out | (with_reducible refine Kd.C_alloc ?_ _) | (with_reducible refine Kd.C_drewN ?_ _) | (with_reducible refine Kd.C_drew ?_))); (case side4 => exact HC1.out); rintro e w' ⟨rfl, ⟨nd, rfl⟩⟩; refine ⟨_, rfl, ?_⟩; have p183 : 0 ≤ (0 : Int) := (by omega); have q183 : 0 < (l1.length : Int) := oa; obtain ⟨ad183, e183, hx183_0⟩ := Kd.at_int HR1.out 0 p183 q183; cases e183; have qi183 : (0 < l1.length) = True := eq_true (by omega); (try rw [show ((0 : Int)).toNat = 0 from rfl] at hx183_0); (try rw [Addr.add_zero'] at hx183_0); replace p183 := eq_true p183; replace q183 := eq_true q183) | ((with_reducible refine gc 68 rfl ?_); refine gl (some 27) Tryd.func68 #[.slice A0 l0.length c0, .int .u32 (rd l1 0)] ?_; (with_reducible refine (natural_divideSmall.calls k _ _ l0 (rd l1 0) t184 t187 _ ?side1 ?side2 A7.out).mono ?_); (case side1 => exact vs (Kd.V_reads' HO0.out).2.2); (case side2 => exact (Kd.V_reads' HO0.out).2.1); rintro e w9 ⟨v185, rfl, ho0, hb⟩; refine ⟨_, rfl, ?_⟩; replace HO0 := Aside0.mk (vb HO0.out hb); have HO186 := Aside0.mk (Kd.V_lower (Kd.V_mono (ok' := fun k_ => (P0_ k_ ∨ w.heap.size ≤ k_)) ho0 (fun k_ hk_ => (.inr (Nat.le_trans (sz HB.out) hk_)))) (sz HB.out)); replace HB := Aside0.mk (bs HB.out hb); (try clear hb ho0)) | ((with_reducible refine gd 32 rfl ?_); refine Kd.R_lit (Kd.int .u32) _ 72 ?hg (N := 32) ?hd (xs := ([t187] : List Int)) (inner := [.int .u32 t187]) (ok := fun _ => True) (okp := fun _ => True) ?hr ?hp (fun _ hk => hk) trivial (Below.refl _ _) (Nat.le_refl _) (by simp) ?_; (case hd => rfl); (case hg => rfl); (case hr => first | (go_simp; done) | (go_simp; rfl)); (case hp => exact (Reps.one (show Kd.M (Kd.int .u32) _ _ _ t187 [.int .u32 t187] from rfl) (Reps.none _ _))); intro v189 w10 ho11 hb hg_ hnew_; clear hg_ hnew_; (first | rw [← Ny188.out] at ho11 | (simp only [Int.reduceToNat] at ho11; rw [← Ny188.out] at ho11)); replace HO0 := Aside0.mk (Kd.V_elder' (vs HO0.out) (Kd.R_base ho11) hb); replace HO186 := Aside0.mk (Kd.V_elder' (vs HO186.out) (Kd.R_base ho11) hb); have HO190 := Aside0.mk (Kd.R_lower (Kd.R_newM (M := fun k_ => (w.heap.size ≤ k_)) ho11 (sz HB.out) (fun k_ h_ => h_)) (sz HB.out)); replace HB := Aside0.mk (bs HB.out hb); clear hb ho11; obtain ⟨Ao12, co12, eo12⟩ := Kd.R_slice HO190.out; subst eo12) | ((with_reducible refine gc 80 rfl ?_); refine gl (some 33) Tryd.func80 #[.slice Ao12 y188.length co12] ?_; (with_reducible refine (natural_limbs_trim.calls k (fun k_ => some k_ = (.slice Ao12 y188.length co12 : Value).ownBlock) _ _ y188 t191 _ ?side1 A8.out).mono ?_); (case side1 => exact Kd.R_V (Kd.R_tight rfl (HO190.out))); rintro e w13 ⟨v192, rfl, ho0, hb⟩; refine ⟨_, rfl, ?_⟩; replace HO0 := Aside0.mk (vb HO0.out hb); replace HO186 := Aside0.mk (vb HO186.out hb); have HO193 := Aside0.mk (Kd.V_lower (Kd.V_mono (ok' := fun k_ => (P0_ k_ ∨ w.heap.size ≤ k_)) ho0 (fun k_ hk_ => Or.elim hk_ (fun hs_ => (.inr (((HO190.out).1 k_ hs_.symm).1))) (fun hn_ => (.inr (Nat.le_trans (sz HB.out) hn_))))) (sz HB.out)); replace HO190 := Aside0.mk (rb HO190.out hb); replace HB := Aside0.mk (bs HB.out hb); (try clear hb ho0)))
   go_ret2
   exact ⟨_, _, fe, vm HO186.out (fun _ hk => hk.1), vs HO193.out, bz HB.out⟩
  ·rw [if_neg c5] at H
   have c5b0 := beq_eq_false_iff_ne.mpr c5
   have c5b1 := bne_iff_ne.mpr c5
   obtain ⟨ji14, hji14⟩ : ∃ j_ : Int, (wrap64 ((l1.length : Int) - 1)) = j_ := ⟨_, rfl⟩
   first | rw [hji14] at H | simp only [hji14] at H
   (try rw [hji14] at A3)
   have hji14w : (IntKind.i64.wrap ((l1.length : Int) - 1)) = ji14 := (i64_w _).trans hji14
   obtain ⟨c15, H⟩ := iN H
   have c15b0 : decide (0 ≤ (ji14)) = true := decide_eq_true c15
   clear c15
   obtain ⟨c16, H⟩ := iN H
   have c16b0 : decide ((ji14) < (l1.length : Int)) = true := decide_eq_true c16
   clear c16
   obtain ⟨t195, A17, H⟩ := bs1 H
   obtain ⟨t196, A18, H⟩ := bs1 H
   obtain ⟨t199, A19, H⟩ := bs1 H
   obtain ⟨ji20, hji20⟩ : ∃ j_ : Int, (wrap64 ((wrap64 ((l0.length : Int) - (l1.length : Int))) + 1)) = j_ := ⟨_, rfl⟩
   first | rw [hji20] at H | simp only [hji20] at H
   (try rw [hji20] at A3)
   (try rw [hji20] at A17)
   (try rw [hji20] at A18)
   (try rw [hji20] at A19)
   have hji20w : (IntKind.i64.wrap ((wrap64 ((l0.length : Int) - (l1.length : Int))) + 1)) = ji20 := (i64_w _).trans hji20
   obtain ⟨c21, H⟩ := iN H
   have c21b0 := eq_true c21
   have c21b1 : decide (0 ≤ (ji20)) = true := decide_eq_true c21
   clear c21
   obtain ⟨c22, H⟩ := iN H
   have c22b0 := eq_true c22
   have c22b1 : decide ((ji20 : Int).toNat ≤ 70368744177664) = true := decide_eq_true c22
   clear c22
   obtain ⟨y202, hy202⟩ : ∃ y_ : List Int, y_ = (List.replicate (ji20 : Int).toNat 0) := ⟨_, rfl⟩
   (try first | rw [← hy202] at H | (dsimp only at H; rw [← hy202] at H)); (try rw [Option.bind_some] at H)
   have Ny202 := Aside0.mk hy202
   clear hy202
   have H' := Aside0.mk H
   clear H
   go_enter Tryd.func55, Tryd.ntmps55
   go_wp2_with (first | ((with_reducible refine gc 81 rfl ?_); refine gl (some 16) Tryd.func81 #[.slice A0 l0.length c0, .slice A1 l1.length c1] ?_; (with_reducible refine (natural_compare.calls k _ _ l0 _ _ l1 t182 _ ?side1 ?side2 ?side3 ?side4 A3.out).mono ?_); (case side1 => exact vs (Kd.V_reads' HO0.out).2.2); (case side2 => exact (Kd.V_reads' HO0.out).2.1); (case side3 => repeat (first | exact HR1.out | (with_reducible refine Kd.C_alloc ?_ _) | (with_reducible refine Kd.C_drewN ?_ _) | (with_reducible refine Kd.C_drew ?_))); (case side4 => exact HC1.out); rintro e w' ⟨rfl, ⟨nd, rfl⟩⟩; refine ⟨_, rfl, ?_⟩; have p194 : 0 ≤ ((ji14) : Int) := oa; have q194 : (ji14) < (l1.length : Int) := oa; obtain ⟨ad194, e194, hx194_0⟩ := Kd.at_int HR1.out (ji14) p194 q194; cases e194; replace p194 := eq_true p194; replace q194 := eq_true q194) | ((with_reducible refine gc 82 rfl ?_); refine goesL_ (some 40) rfl rfl Tryd.func82 (by kernel_rfl) rfl #[.int .u32 (rd l1 (ji14))] rfl (by (try simp only [List.map_toArray, List.map_cons, List.map_nil]); first | done | (simp only [hji14]; rfl) | rfl | (simp only [List.length_drop, List.length_take]; rfl)) ?_; (with_reducible refine (bits_LeadingZeros32.calls (rd l1 (ji14)) t195 _ A17.out).mono ?_); rintro e w' ⟨rfl, ⟨nd, rfl⟩⟩; refine ⟨_, rfl, ?_⟩) | ((with_reducible refine gc 83 rfl ?_); refine gl (some 47) Tryd.func83 #[.slice (some ad194) l1.length c1, .int .u64 (IntKind.u64.wrap (t195)), .int .i64 (l1.length : Int)] ?_; (with_reducible refine (natural_shift.calls k _ _ l1 (IntKind.u64.wrap (t195)) (l1.length : Int) t196 _ ?side1 ?side2 A18.out).mono ?_); (case side1 => repeat (first | exact HR1.out | (with_reducible refine Kd.C_alloc ?_ _) | (with_reducible refine Kd.C_drewN ?_ _) | (with_reducible refine Kd.C_drew ?_))); (case side2 => exact HC1.out); rintro e w23 ⟨v197, rfl, ho0, hb⟩; refine ⟨_, rfl, ?_⟩; replace HO0 := Aside0.mk (Kd.V_elder' (vs HO0.out) (Kd.R_base ho0) hb); have HO198 := Aside0.mk (Kd.R_lower (Kd.R_newM (M := fun k_ => (w.heap.size ≤ k_)) ho0 (sz HB.out) (fun k_ h_ => h_)) (sz HB.out)); replace HB := Aside0.mk (bs HB.out hb); (try clear hb ho0)) | ((with_reducible refine gc 83 rfl ?_); refine gl (some 53) Tryd.func83 #[.slice A0 l0.length c0, .int .u64 (IntKind.u64.wrap (t195)), .int .i64 (wrap64 ((l0.length : Int) + 1))] ?_; (with_reducible refine (natural_shift.calls k _ _ l0 (IntKind.u64.wrap (t195)) (wrap64 ((l0.length : Int) + 1)) t199 _ ?side1 ?side2 A19.out).mono ?_); (case side1 => exact vs (Kd.V_reads' HO0.out).2.2); (case side2 => exact (Kd.V_reads' HO0.out).2.1); rintro e w24 ⟨v200, rfl, ho0, hb⟩; refine ⟨_, rfl, ?_⟩; replace HO0 := Aside0.mk (Kd.V_elder' (vs HO0.out) (Kd.R_base ho0) hb); have HO201 := Aside0.mk (Kd.R_lower (Kd.R_new' (Kd.R_newM (M := fun k_ => (w.heap.size ≤ k_)) ho0 (sz HB.out) (fun k_ h_ => h_)) (Kd.R_lt (vs HO198.out))) (sz HB.out)); replace HO198 := Aside0.mk (Kd.R_elder' (vs HO198.out) (Kd.R_base ho0) hb); replace HB := Aside0.mk (bs HB.out hb); (try clear hb ho0)) | ((with_reducible refine gd 59 rfl ?_); refine Kd.R_make (Kd.int .u32) _ 72 rfl (N := 59) rfl 65 _ _ rfl ji20 rfl rfl Tryd.underlying65 (.int .u32 0) 4 info72 rfl (by decide) (by omega) 0 (ok := fun _ => True) (okp := fun _ => True) rfl (fun _ hk => hk) trivial oa (Nat.le_trans (Nat.mul_le_mul_right _ (oa : ji20.toNat ≤ 70368744177664)) (by omega)) (Below.refl _ _) (Nat.le_refl _) ?_; intro v203 w25 ho26 hb hg_ hnew_; clear hg_ hnew_; (first | rw [← Ny202.out] at ho26 | (simp only [Int.reduceToNat] at ho26; rw [← Ny202.out] at ho26)); replace HO0 := Aside0.mk (Kd.V_elder' (vs HO0.out) (Kd.R_base ho26) hb); have HO204 := Aside0.mk (Kd.R_lower (Kd.R_new' (Kd.R_new' (Kd.R_newM (M := fun k_ => (w.heap.size ≤ k_)) ho26 (sz HB.out) (fun k_ h_ => h_)) (Kd.R_lt (vs HO198.out))) (Kd.R_lt (vs HO201.out))) (sz HB.out)); replace HO198 := Aside0.mk (Kd.R_elder' (vs HO198.out) (Kd.R_base ho26) hb); replace HO201 := Aside0.mk (Kd.R_elder' (vs HO201.out) (Kd.R_base ho26) hb); replace HB := Aside0.mk (bs HB.out hb); clear hb ho26; obtain ⟨Ao27, co27, eo27⟩ := Kd.R_slice HO204.out; subst eo27))
   go_loopg [13] k (fun kq v13 w' => ∃ (x11_1 : List Int) (x12_1 : List Int) (x13_1 : Int), v13 = .int .i64 x13_1 ∧ Aside0 (natural_divide.l0 kq (IntKind.u64.wrap (t195)) (l1.length : Int) t196 x11_1 x12_1 x13_1 = some (r1, r2)) ∧ Aside0 (kq ≤ k) ∧ Aside0 (Kd.R (Kd.int .u32) 72 w' w.heap.size (fun k_ => (w.heap.size ≤ k_) ∧ some k_ ≠ (v200 : Value).ownBlock ∧ some k_ ≠ ((.slice Ao27 y202.length co27) : Value).ownBlock) v197 t196) ∧ Aside0 (Kd.R (Kd.int .u32) 72 w' w.heap.size (fun k_ => (w.heap.size ≤ k_) ∧ some k_ ≠ (v197 : Value).ownBlock ∧ some k_ ≠ ((.slice Ao27 y202.length co27) : Value).ownBlock) v200 x11_1) ∧ Aside0 (Kd.R (Kd.int .u32) 72 w' w.heap.size (fun k_ => (w.heap.size ≤ k_) ∧ some k_ ≠ (v197 : Value).ownBlock ∧ some k_ ≠ (v200 : Value).ownBlock) (.slice Ao27 y202.length co27) x12_1) ∧ Aside0 (Below w.heap.size w w'))
   case atStart => exact ⟨(t199), (y202), (wrap64 ((y202.length : Int) - 1)), fs, H', ⟨Nat.le_refl _⟩, ⟨rm HO198.out (fun _ hk => ⟨hk.1.1.1, ⟨hk.1.2, hk.2⟩⟩)⟩, ⟨rm HO201.out (fun _ hk => ⟨hk.1.1.1, ⟨hk.1.2, hk.2⟩⟩)⟩, ⟨rm HO204.out (fun _ hk => ⟨hk.1.1.1, ⟨hk.1.2, hk.2⟩⟩)⟩, ⟨bz HB.out⟩⟩
   case round =>
    clear H'
    (try clear c1); (try clear c4b0); (try clear c5b0); (try clear c5b1); (try clear c6b0); (try clear c6b1); (try clear c15b0); (try clear c16b0); (try clear c21b0); (try clear c21b1); (try clear c22b0); (try clear c22b1); (try clear hx183_0); (try clear hx194_0); (try clear p183); (try clear p194); (try clear q183); (try clear q194)
    obtain ⟨x11_1, x12_1, x13_1, rfl, HA, HK1, HO_10, HO_11, HO_12, HB⟩ := hrel
    have hl12_1 := (Kd.R_reads' HO_12.out).1
    rw [hl12_1] at HO_12
    (try simp only [hl12_1])
    (try simp only [hl12_1] at HO_10)
    (try simp only [hl12_1] at HO_11)
    cases gk with
    | zero => exact absurd HA.out (by simp [natural_divide.l0])
    | succ k1 =>
     have H := HA.out
     clear HA
     simp only [natural_divide.l0] at H
     by_cases c28 : x13_1 ≥ 0
     ·rw [if_pos c28] at H
      have c28b0 : decide (0 ≤ x13_1) = true := decide_eq_true c28
      clear c28
      obtain ⟨c29, H⟩ := iN H
      have c29b0 := eq_true c29
      have c29b1 : decide (0 ≤ x13_1) = true := decide_eq_true c29
      clear c29
      obtain ⟨c30, H⟩ := iN H
      have c30b0 := eq_true c30
      have c30b1 : decide (x13_1 ≤ (wrap64 ((wrap64 (x13_1 + (l1.length : Int))) + 1))) = true := decide_eq_true c30
      (try (have c30b1_hl12_1 := c30b1; rw [hl12_1] at c30b1_hl12_1))
      obtain ⟨c31, H⟩ := iN H
      have c31b0 := eq_true c31
      have c31b1 : decide ((wrap64 ((wrap64 (x13_1 + (l1.length : Int))) + 1)) ≤ (x11_1.length : Int)) = true := decide_eq_true c31
      (try (have c31b1_hl12_1 := c31b1; rw [hl12_1] at c31b1_hl12_1))
      obtain ⟨y205, hy205⟩ : ∃ y_ : List Int, y_ = ((x11_1.take ((wrap64 ((wrap64 (x13_1 + (l1.length : Int))) + 1)) : Int).toNat).drop (x13_1 : Int).toNat) := ⟨_, rfl⟩
      (try first | rw [← hy205] at H | (dsimp only at H; rw [← hy205] at H)); (try rw [Option.bind_some] at H)
      have Ny205 := Aside0.mk hy205
      clear hy205
      obtain ⟨⟨t209, t210⟩, A32, H⟩ := bs1 H; dsimp only at H
      obtain ⟨c33, H⟩ := iN H
      have c33b0 : decide (x13_1 < (x12_1.length : Int)) = true := decide_eq_true c33
      (try (have c33b0_hl12_1 := c33b0; rw [hl12_1] at c33b0_hl12_1))
      clear c33
      obtain ⟨y211, hy211⟩ : ∃ y_ : List Int, y_ = (x12_1.set (x13_1 : Int).toNat t209) := ⟨_, rfl⟩
      (try first | rw [← hy211] at H | (dsimp only at H; rw [← hy211] at H)); (try rw [Option.bind_some] at H)
      have Ny211 := Aside0.mk hy211
      clear hy211
      have H' := Aside0.mk H
      clear H
      obtain ⟨Ao36, co36, eo36⟩ := Kd.R_slice HO_11.out
      subst eo36
      have q35 : ((wrap64 ((wrap64 (x13_1 + (l1.length : Int))) + 1)) : Int) ≤ ((x11_1.length : Int) : Int) := oa
      obtain ⟨i035, hi035, _, hsz35, _⟩ := info_parts info72
      have hroom35 : x11_1.length ≤ co36 := (Kd.R_reads' HO_11.out).2.1
      have hC35 : Kd.C (Kd.int .u32) _ Ao36 x11_1.length x11_1 := (Kd.R_reads' HO_11.out).2.2
      have ql35 : (x13_1 : Int) ≤ ((wrap64 ((wrap64 (x13_1 + (l1.length : Int))) + 1)) : Int) := oa
      have q035 : (0 : Int) ≤ (x13_1 : Int) := oa
      have hcut35 := cut_mid (P := Tryd.prog) 65 72 .i64 .i64 Tryd.underlying65 hi035 1 hsz35 Ao36 x11_1.length co36 x13_1 (wrap64 ((wrap64 (x13_1 + (l1.length : Int))) + 1)) q035 ql35 q35 hroom35
      have hr35 := Kd.C_mid (lo := (x13_1 : Int).toNat) (hi := ((wrap64 ((wrap64 (x13_1 + (l1.length : Int))) + 1)) : Int).toNat) (c := co36) hC35 (by omega) (by omega) hroom35
      obtain ⟨A35, hA35⟩ : ∃ A1, A1 = (if co36 = (x13_1 : Int).toNat then Ao36 else (Ao36 : Option Addr).map (·.add ((x13_1 : Int).toNat * 1))) := ⟨_, rfl⟩
      obtain ⟨c35, hc35⟩ : ∃ c1, c1 = co36 - (x13_1 : Int).toNat := ⟨_, rfl⟩
      have hy35 : y205.length = ((wrap64 ((wrap64 (x13_1 + (l1.length : Int))) + 1)) : Int).toNat - (x13_1 : Int).toNat := (by rw [Ny205.out, List.length_drop, List.length_take] <;> omega)
      rw [show ((x11_1).take ((wrap64 ((wrap64 (x13_1 + (l1.length : Int))) + 1)) : Int).toNat).drop (x13_1 : Int).toNat = y205 from Ny205.out.symm] at hr35
      replace hr35 : Kd.C (Kd.int .u32) _ A35 y205.length y205 := (by rw [hA35]; exact hr35)
      rw [← hy35, ← hA35, ← hc35] at hcut35
      have HR208 := Aside0.mk hr35
      have HC208 := Aside0.mk (show y205.length ≤ c35 from by rw [hy35, hc35]; exact Nat.sub_le_sub_right (Nat.le_trans (by omega) hroom35) _)
      clear hr35 hC35 hroom35 hi035 hsz35
      have KC35 := Aside0.mk hc35
      clear hc35
      have KY35 := Aside0.mk hy35
      have KA35 := Aside0.mk hA35
      clear hy35 hA35
      have KL35 := Aside0.mk (show ((wrap64 ((wrap64 (x13_1 + (l1.length : Int))) + 1)) : Int).toNat ≤ x11_1.length from by omega)
      have KM35 := Aside0.mk (show (x13_1 : Int).toNat ≤ ((wrap64 ((wrap64 (x13_1 + (l1.length : Int))) + 1)) : Int).toNat from by omega)
      replace q35 := eq_true q35
      obtain ⟨Ao37, co37, eo37⟩ := Kd.R_slice HO_10.out
      subst eo37
      go_wp2_with (first | ((with_reducible refine gc 84 rfl ?_); refine gl (some 77) Tryd.func84 #[.slice A35 y205.length c35, .slice Ao37 t196.length co37] ?_; (with_reducible refine (natural_stepw.calls k1 (fun k_ => some k_ = (.slice Ao36 x11_1.length co36 : Value).ownBlock) (.slice Ao36 x11_1.length co36) x11_1 x13_1 (wrap64 ((wrap64 (x13_1 + (l1.length : Int))) + 1)) _ _ t196 t209 t210 w _ ?side1 ?side2 ?side3 ?side4 A32.out rfl KA35.out KY35.out KC35.out).mono ?_); (case side1 => repeat (first | (with_reducible first | exact HB.out | apply below_alloc | apply pw_below_drewN | apply below_drew1) | exact HB.out)); (case side2 => exact Kd.R_tight rfl HO_11.out); (case side3 => exact Kd.C_kept_own (HO_10.out) (fun k_ hk_ hs_ => (hk_.2.1) hs_)); (case side4 => exact (Kd.R_reads' HO_10.out).2.1); rintro e w38 ⟨rfl, hy0, hb, hkp⟩; refine ⟨_, rfl, ?_⟩; replace HO_10 := Aside0.mk (Kd.R_mono (ok' := fun k_ => (w.heap.size ≤ k_) ∧ some k_ ≠ (.slice Ao36 x11_1.length co36 : Value).ownBlock ∧ some k_ ≠ (.slice Ao27 x12_1.length co27 : Value).ownBlock) (Kd.R_keptB (HO_10.out) hkp (fun k_ hk_ hs_ => (hk_.2.1) hs_)) (fun k_ hk_ => ⟨hk_.1.1, hk_.1.2.1, hk_.1.2.2⟩)); replace HO_11 := Aside0.mk (Kd.R_reok rfl hy0 (fun k_ e_ => HO_11.out.1 k_ e_)); replace HO_12 := Aside0.mk (Kd.R_mono (ok' := fun k_ => (w.heap.size ≤ k_) ∧ some k_ ≠ (.slice Ao37 t196.length co37 : Value).ownBlock ∧ some k_ ≠ (.slice Ao36 x11_1.length co36 : Value).ownBlock) (Kd.R_keptB (HO_12.out) hkp (fun k_ hk_ hs_ => (hk_.2.2) hs_)) (fun k_ hk_ => ⟨hk_.1.1, hk_.1.2.1, hk_.1.2.2⟩)); replace HB := Aside0.mk (hb); (try clear hb hkp hy0); have p34 : 0 ≤ (x13_1 : Int) := oa; have q34 : (x13_1 : Int) < ((x12_1.length : Int) : Int) := oa; obtain ⟨go34, co34, eo34, gb34, gl34, cl34, HG34⟩ := Kd.R_form HO_12.out (by omega); (first | cases eo34 | (injection eo34 with ea_ en_ ec_; (first | subst ea_ | (injection ea_ with ea_; subst ea_)); subst ec_; clear en_)); have GB34 := Aside0.mk gb34; have GG34 := Aside0.mk HG34; clear gb34 gl34 HG34; obtain ⟨hx34_0, hf34_0⟩ := Kd.R_celln 0 HO_12.out (x13_1 : Int) p34 q34; replace p34 := eq_true p34; replace q34 := eq_true q34; obtain ⟨hy39_, hz39_⟩ := Kd.R_celln 0 HO_12.out (x13_1 : Int) oa oa; have HP39 := Kd.R_putg HO_12.out (x13_1 : Int) t209) | ((with_reducible refine gate_store (t := 72) (p := 78) rfl ?_); refine se 72 78 (w1 := (w38.setCell ⟨go34, (x13_1 : Int).toNat, none⟩ (.int .u32 t209))) ?_; intro w40 hw; have hg : w38.grownBy w40 (some go34) := (by rw [hw]; exact HP39.2); have hp_ : Kd.R (Kd.int .u32) 72 w40 w.heap.size (fun k_ => (w.heap.size ≤ k_) ∧ some k_ ≠ (.slice Ao37 t196.length co37 : Value).ownBlock ∧ some k_ ≠ (.slice Ao36 x11_1.length co36 : Value).ownBlock) (.slice (some ⟨go34, 0, none⟩) x12_1.length co27) y211 := (by rw [hw, Ny211.out]; exact HP39.1); clear HP39; replace HO_10 := Aside0.mk (Kd.R_after (v := (.slice (some ⟨go34, 0, none⟩) x12_1.length co27)) (v1 := (.slice (some ⟨go34, 0, none⟩) x12_1.length co27)) (ok := (fun k_ => (w.heap.size ≤ k_) ∧ some k_ ≠ (.slice Ao36 x11_1.length co36 : Value).ownBlock)) (rm HO_10.out (fun _ hk => ⟨⟨hk.1, hk.2.1⟩, hk.2.2⟩)) hg (.inl rfl)); replace HO_11 := Aside0.mk (Kd.R_after (v := (.slice (some ⟨go34, 0, none⟩) x12_1.length co27)) (v1 := (.slice (some ⟨go34, 0, none⟩) x12_1.length co27)) (ok := (fun k_ => (w.heap.size ≤ k_) ∧ some k_ ≠ (.slice Ao37 t196.length co37 : Value).ownBlock)) (rm HO_11.out (fun _ hk => ⟨⟨hk.1, hk.2.1⟩, hk.2.2⟩)) hg (.inl rfl)); replace HO_12 := Aside0.mk (hp_); replace HB := Aside0.mk ((by rw [hw]; exact below_set (HB.out) GB34.out : Below w.heap.size w w40)); clear hg hw hp_))
      (try simp only [← hl12_1])
      go_roundg k1
      case measure => have := HK1.out; omega
      case rel => exact ⟨(t210), (y211), (wrap64 (x13_1 - 1)), fs, H', ⟨by have := HK1.out; omega⟩, ⟨by (try simp only [hl12_1]); (with_reducible repeat (first | apply Kd.R_alloc | apply Kd.R_drewN | apply Kd.R_drew)); exact Kd.R_mono HO_10.out (fun _ hk => ⟨hk.1.1, ⟨hk.1.2, hk.2⟩⟩)⟩, ⟨by (try simp only [hl12_1]); (with_reducible repeat (first | apply Kd.R_alloc | apply Kd.R_drewN | apply Kd.R_drew)); exact Kd.R_mono HO_11.out (fun _ hk => ⟨hk.1.1, ⟨hk.1.2, hk.2⟩⟩)⟩, ⟨by (try simp only [hl12_1]); (with_reducible repeat (first | apply Kd.R_alloc | apply Kd.R_drewN | apply Kd.R_drew)); exact HO_12.out⟩, ⟨bz HB.out⟩⟩
     ·rw [if_neg c28] at H
      have c28b0 : decide (0 ≤ x13_1) = false := decide_eq_false c28
      clear c28
      obtain ⟨t212, A41, H⟩ := bs1 H
      obtain ⟨c42, H⟩ := iN H
      have c42b0 := eq_true c42
      have c42b1 : decide (0 ≤ (l1.length : Int)) = true := decide_eq_true c42
      (try (have c42b1_hl12_1 := c42b1; rw [hl12_1] at c42b1_hl12_1))
      clear c42
      obtain ⟨c43, H⟩ := iN H
      have c43b0 := eq_true c43
      have c43b1 : decide ((l1.length : Int) ≤ (x11_1.length : Int)) = true := decide_eq_true c43
      (try (have c43b1_hl12_1 := c43b1; rw [hl12_1] at c43b1_hl12_1))
      clear c43
      obtain ⟨y215, hy215⟩ : ∃ y_ : List Int, y_ = (x11_1.take ((l1.length : Int) : Int).toNat) := ⟨_, rfl⟩
      (try first | rw [← hy215] at H | (dsimp only at H; rw [← hy215] at H)); (try rw [Option.bind_some] at H)
      have Ny215 := Aside0.mk hy215
      clear hy215
      obtain ⟨t219, A44, H⟩ := bs1 H
      simp only [Option.some.injEq, Prod.mk.injEq] at H
      obtain ⟨rfl, rfl⟩ := H
      try go_wp2
      replace HO_10 := Aside0.mk (Kd.R_drew HO_10.out)
      replace HO_11 := Aside0.mk (Kd.R_drew HO_11.out)
      replace HO_12 := Aside0.mk (Kd.R_drew HO_12.out)
      replace HB := Aside0.mk (below_drew1 HB.out)
      obtain ⟨Ao47, co47, eo47⟩ := Kd.R_slice HO_11.out
      (first | subst eo47 | (injection eo47 with f1_ f2_ f3_; have f4_ := f1_.symm; have f5_ := f3_.symm; clear f1_ f2_ f3_; subst f4_; subst f5_))
      have q46 : ((l1.length : Int) : Int) ≤ ((x11_1.length : Int) : Int) := oa
      obtain ⟨i046, hi046, _, hsz46, _⟩ := info_parts info72
      have hroom46 : x11_1.length ≤ co47 := (Kd.R_reads' HO_11.out).2.1
      have hC46 : Kd.C (Kd.int .u32) _ Ao47 x11_1.length x11_1 := (Kd.R_reads' HO_11.out).2.2
      have hcut46 := cut_to (P := Tryd.prog) 65 72 .i64 Tryd.underlying65 hi046 Ao47 x11_1.length co47 (l1.length : Int) oa q46 hroom46
      have hr46 := Kd.C_take (m := ((l1.length : Int) : Int).toNat) hC46 (by omega)
      have hy46 : y215.length = ((l1.length : Int) : Int).toNat := (by rw [Ny215.out, List.length_take]; omega)
      rw [← Ny215.out] at hr46
      rw [← hy46] at hcut46
      have HR218 := Aside0.mk hr46
      have HC218 := Aside0.mk (show y215.length ≤ co47 from by omega)
      clear hr46 hC46 hroom46 hi046 hsz46
      have KY46 := Aside0.mk hy46
      clear hy46
      have KL46 := Aside0.mk (show ((l1.length : Int) : Int).toNat ≤ x11_1.length from by omega)
      replace q46 := eq_true q46
      refine start_ (n := 9) (S := fun w' => True) (ds := []) #[false, false, false, false, false, false, false, false, false] (by kernel_rfl) rfl rfl trivial (fun hHeld => ?_); refine with_tabW natural_divide.tab15 natural_divide.bits15 (fun HT_ HW_ => ?_)
      generalize wr.drew = w45 at HO_10 HO_11 HO_12 HB HR218 hHeld ⊢
      refine py 0 (some 79) #[true, false, false, false, false, false, false, false, false] HT_ ?_
      refine py 2 (some 81) #[true, false, true, false, false, false, false, false, false] HT_ ?_
      refine py 3 (some 82) #[true, false, true, true, false, false, false, false, false] HT_ ?_
      refine py 4 (some 83) #[true, false, true, true, true, false, false, false, false] HT_ ?_
      refine py 5 (some 84) #[true, false, true, true, true, true, false, false, false] HT_ ?_
      refine one_ (i := 1) (N := some 80) #[true, true, true, true, true, true, false, false, false] rfl rfl (one_of HT_.out (by kernel_rfl)) (by decide) (fun K hK => ?_)
      refine gs Tryd.func80 #[.slice Ao27 x12_1.length co27] ?_
      with_reducible refine (natural_limbs_trim.calls k1 (fun k_ => some k_ = (.slice Ao27 x12_1.length co27 : Value).ownBlock) _ _ x12_1 t212 _ ?side1 A41.out).mono ?_
      (case side1 => exact Kd.R_V (Kd.R_tight rfl (HO_12.out)))
      rintro e w48 ⟨v213, rfl, ho0, hb⟩
      refine ⟨_, rfl, ?_⟩
      have HO214 := Aside0.mk (Kd.V_lower (Kd.V_mono (ok' := fun k_ => (P0_ k_ ∨ w.heap.size ≤ k_) ∧ some k_ ≠ (v197 : Value).ownBlock ∧ some k_ ≠ (.slice Ao47 x11_1.length co47 : Value).ownBlock) ho0 (fun k_ hk_ => ⟨Or.elim hk_ (fun hs_ => (.inr (((HO_12.out).1 k_ hs_.symm).1))) (fun hn_ => (.inr (Nat.le_trans (sz HB.out) hn_))), Or.elim hk_ (fun hs_ => ((HO_12.out).1 k_ hs_.symm).2.1) (fun hn_ => (Kd.fresh' (Kd.R_lt (vs HO_10.out)) k_ hn_)), Or.elim hk_ (fun hs_ => ((HO_12.out).1 k_ hs_.symm).2.2) (fun hn_ => (Kd.fresh' (Kd.R_lt (vs HO_11.out)) k_ hn_))⟩)) (sz HB.out))
      replace HO_10 := Aside0.mk (rb HO_10.out hb)
      replace HO_11 := Aside0.mk (rb HO_11.out hb)
      replace HO_12 := Aside0.mk (rb HO_12.out hb)
      replace HR218 := Aside0.mk (Kd.C_below (by repeat (first | (with_reducible exact HR218.out) | (with_reducible refine Kd.C_alloc ?_ _) | (with_reducible refine Kd.C_drewN ?_ _) | (with_reducible refine Kd.C_drew ?_) | exact HR218.out)) hb)
      replace HB := Aside0.mk (bs HB.out hb)
      (try clear hb); (try clear hb2); (try clear hk); (try clear hi); (try clear ho0)
      refine hK.out _ _ trivial (fun hHeld => ?_)
      clear hK K
      refine nm ?_
      refine one_ (i := 6) (N := some 85) #[true, true, true, true, true, true, true, false, false] rfl rfl (one_of HT_.out (by kernel_rfl)) (by decide) (fun K hK => ?_)
      refine gs Tryd.func85 #[.slice Ao47 y215.length co47, .int .u64 (IntKind.u64.wrap (t195))] ?_
      with_reducible refine (natural_unshift.calls k1 _ _ y215 (IntKind.u64.wrap (t195)) t219 _ ?side1 ?side2 A44.out).mono ?_
      (case side1 => repeat (first | exact (by repeat (first | (with_reducible exact HR218.out) | (with_reducible refine Kd.C_alloc ?_ _) | (with_reducible refine Kd.C_drewN ?_ _) | (with_reducible refine Kd.C_drew ?_) | exact HR218.out)) | (with_reducible refine Kd.C_alloc ?_ _) | (with_reducible refine Kd.C_drewN ?_ _) | (with_reducible refine Kd.C_drew ?_)))
      (case side2 => exact HC218.out)
      rintro e w49 ⟨v220, rfl, ho0, hb⟩
      refine ⟨_, rfl, ?_⟩
      replace HO214 := Aside0.mk (vb HO214.out hb)
      have HO221 := Aside0.mk (Kd.V_lower (Kd.V_mono (ok' := fun k_ => (P0_ k_ ∨ w.heap.size ≤ k_) ∧ some k_ ≠ (v197 : Value).ownBlock ∧ some k_ ≠ (.slice Ao47 x11_1.length co47 : Value).ownBlock ∧ some k_ ≠ (.slice Ao27 x12_1.length co27 : Value).ownBlock) ho0 (fun k_ hk_ => ⟨(.inr (Nat.le_trans (sz HB.out) hk_)), (Kd.fresh' (Kd.R_lt (vs HO_10.out)) k_ hk_), (Kd.fresh' (Kd.R_lt (vs HO_11.out)) k_ hk_), (Kd.fresh' (Kd.R_lt (vs HO_12.out)) k_ hk_)⟩)) (sz HB.out))
      replace HO_10 := Aside0.mk (rb HO_10.out hb)
      replace HO_11 := Aside0.mk (rb HO_11.out hb)
      replace HO_12 := Aside0.mk (rb HO_12.out hb)
      replace HR218 := Aside0.mk (Kd.C_below (by repeat (first | (with_reducible exact HR218.out) | (with_reducible refine Kd.C_alloc ?_ _) | (with_reducible refine Kd.C_drewN ?_ _) | (with_reducible refine Kd.C_drew ?_) | exact HR218.out)) hb)
      replace HB := Aside0.mk (bs HB.out hb)
      (try clear hb); (try clear hb2); (try clear hk); (try clear hi); (try clear ho0)
      refine hK.out _ _ trivial (fun hHeld => ?_)
      clear hK K
      refine nm ?_
      refine py 7 (some 4) #[true, true, true, true, true, true, true, true, false] HT_ ?_
      refine py 8 (some 5) #[true, true, true, true, true, true, true, true, true] HT_ ?_
      refine done_ (done_of HT_.out (by kernel_rfl)) ?_
      try go_wp2
      go_ret2
      exact ⟨_, _, by first | rfl | (simp [errW_none, errW_some] <;> rfl) | (simp only [← hji14, ← hji20]; first | rfl | (simp [errW_none, errW_some] <;> rfl)) | (simp [*, errW_none, errW_some] <;> rfl), vm HO214.out (fun _ hk => hk.1), vm HO221.out (fun _ hk => hk.1), bz HB.out⟩

end Go.Proofs.YtgepdnoaemeofaaDoor.R
