/- Printed by a program of this session (wip/tools) out of the translation: plain functions and the proofs that the code comes to their answers. -/
import Derived.Test.YtgepdnoaemeofaaDoorK
import Derived.Test.YtgepdnoaemeofaaDoorR0
import Derived.Test.YtgepdnoaemeofaaDoorR2
import Derived.Test.YtgepdnoaemeofaaDoorR3
import Derived.Test.YtgepdnoaemeofaaDoorR7
namespace Go.Proofs.YtgepdnoaemeofaaDoor.R
open Go.RowKit Go.Proofs.YtgepdnoaemeofaaDoorW.PrintWords Go.Proofs.YtgepdnoaemeofaaDoorW.PrintLast Go.Proofs.YtgepdnoaemeofaaDoorW.PrintMore Go.Proofs.YtgepdnoaemeofaaDoorW.PK
attribute [local go_sem] max2_int min2_int max_two min_two max_three min_three max_four min_four   -- for this text's walks alone
set_option linter.unusedVariables false
set_option linter.unusedSimpArgs false

/-! ### natural_Multiply: function 40 -/
mutual
def natural_Multiply.l0 : Nat → List Int → List Int → List Int → Int → Int → Option (ByteArray)
 | 0, _, _, _, _, _ => none
 | k + 1, x6, x7, x24, x25, x26 => if x26 < x25 then (if 0 ≤ x26 then (if x26 < (x24.length : Int) then (natural_Multiply.l1 k x6 x7 x26 (rd x24 x26) 0 x24 x25 x26 x6 (x6.length : Int) 0) else (none)) else (none)) else ((natural_limbs_text.f k x7).bind fun t292 => (some t292))
def natural_Multiply.l1 : Nat → List Int → List Int → Int → Int → Int → List Int → Int → Int → List Int → Int → Int → Option (ByteArray)
 | 0, _, _, _, _, _, _, _, _, _, _, _ => none
 | k + 1, x6, x7, x8, x9, x10, x24, x25, x26, x31, x32, x33 => if x33 < x32 then (if 0 ≤ x33 then (if x33 < (x31.length : Int) then (if 0 ≤ (wrap64 (x8 + x33)) then (if (wrap64 (x8 + x33)) < (x7.length : Int) then (natural_Multiply.l1 k x6 (x7.set ((wrap64 (x8 + x33)) : Int).toNat ((IntKind.u64.wrap ((IntKind.u64.wrap ((IntKind.u64.wrap ((IntKind.u64.wrap (x9)) * (IntKind.u64.wrap (rd x31 x33)))) + (IntKind.u64.wrap (rd x7 (wrap64 (x8 + x33)))))) + x10)) % 4294967296)) x8 x9 ((IntKind.u64.wrap ((IntKind.u64.wrap ((IntKind.u64.wrap ((IntKind.u64.wrap (x9)) * (IntKind.u64.wrap (rd x31 x33)))) + (IntKind.u64.wrap (rd x7 (wrap64 (x8 + x33)))))) + x10)) / 4294967296) x24 x25 x26 x31 x32 (wrap64 (x33 + 1))) else (none)) else (none)) else (none)) else (none)) else (if 0 ≤ (wrap64 (x8 + (x6.length : Int))) then (if (wrap64 (x8 + (x6.length : Int))) < (x7.length : Int) then (natural_Multiply.l0 k x6 (x7.set ((wrap64 (x8 + (x6.length : Int))) : Int).toNat ((x10) % 4294967296)) x24 x25 (wrap64 (x26 + 1))) else (none)) else (none))
end
def natural_Multiply.f (k : Nat) (a0 : ByteArray) (a1 : ByteArray) : Option (ByteArray) := (natural_parse.f k a0).bind fun t283 => ((natural_parse.f k a1).bind fun t286 => (if 0 ≤ (wrap64 ((t283.length : Int) + (t286.length : Int))) then (if (wrap64 ((t283.length : Int) + (t286.length : Int)) : Int).toNat ≤ 70368744177664 then (natural_Multiply.l0 k t286 (List.replicate (wrap64 ((t283.length : Int) + (t286.length : Int)) : Int).toNat 0) t283 (t283.length : Int) 0) else (none)) else (none)))
theorem natural_Multiply.mono_l : ∀ k, (∀ y0 y1 y2 y3 y4, LeO (natural_Multiply.l0 k y0 y1 y2 y3 y4) (natural_Multiply.l0 (k + 1) y0 y1 y2 y3 y4)) ∧ (∀ y0 y1 y2 y3 y4 y5 y6 y7 y8 y9 y10, LeO (natural_Multiply.l1 k y0 y1 y2 y3 y4 y5 y6 y7 y8 y9 y10) (natural_Multiply.l1 (k + 1) y0 y1 y2 y3 y4 y5 y6 y7 y8 y9 y10))
 | 0 => ⟨fun _ _ _ _ _ r h => by simp [natural_Multiply.l0] at h, fun _ _ _ _ _ _ _ _ _ _ _ r h => by simp [natural_Multiply.l1] at h⟩
 | k + 1 => by
  obtain ⟨ih0, ih1⟩ := natural_Multiply.mono_l k
  refine ⟨?_, ?_⟩
  ·intro y0 y1 y2 y3 y4
   unfold natural_Multiply.l0
   repeat' with_reducible first | exact ih0 _ _ _ _ _ | exact ih1 _ _ _ _ _ _ _ _ _ _ _ | exact natural_limbs_text.mono _ _ | exact natural_parse.mono _ _ | exact LeO.refl _ | exact LeO.none _ | refine LeO.ite ?_ ?_ | refine LeO.bind ?_ (fun _ => ?_)
  ·intro y0 y1 y2 y3 y4 y5 y6 y7 y8 y9 y10
   unfold natural_Multiply.l1
   repeat' with_reducible first | exact ih0 _ _ _ _ _ | exact ih1 _ _ _ _ _ _ _ _ _ _ _ | exact natural_limbs_text.mono _ _ | exact natural_parse.mono _ _ | exact LeO.refl _ | exact LeO.none _ | refine LeO.ite ?_ ?_ | refine LeO.bind ?_ (fun _ => ?_)
theorem natural_Multiply.mono : ∀ a0 a1 k, LeO (natural_Multiply.f k a0 a1) (natural_Multiply.f (k + 1) a0 a1) := by
 intro a0 a1 k
 obtain ⟨ih0, ih1⟩ := natural_Multiply.mono_l k
 unfold natural_Multiply.f
 repeat' with_reducible first | exact ih0 _ _ _ _ _ | exact ih1 _ _ _ _ _ _ _ _ _ _ _ | exact natural_limbs_text.mono _ _ | exact natural_parse.mono _ _ | exact LeO.refl _ | exact LeO.none _ | refine LeO.ite ?_ ?_ | refine LeO.bind ?_ (fun _ => ?_)
set_option maxHeartbeats 8000000 in
set_option maxRecDepth 100000 in
theorem natural_Multiply.calls (k : Nat) (a0 : ByteArray) (a1 : ByteArray) (r : ByteArray) (w : World) (h : natural_Multiply.f k a0 a1 = some r) :
  Calls Tryd.prog 40 #[.string a0, .string a1] w fun e w' => e = .returned (.string r) ∧ Below w.heap.size w w' := by
 have HB := Aside0.mk (Below.refl w.heap.size w)
 have H := h
 clear h
 unfold natural_Multiply.f at H
 obtain ⟨t283, A3, H⟩ := bs1 H
 obtain ⟨t286, A4, H⟩ := bs1 H
 obtain ⟨ji5, hji5⟩ : ∃ j_ : Int, (wrap64 ((t283.length : Int) + (t286.length : Int))) = j_ := ⟨_, rfl⟩
 first | rw [hji5] at H | simp only [hji5] at H
 (try rw [hji5] at A3)
 (try rw [hji5] at A4)
 have hji5w : (IntKind.i64.wrap ((t283.length : Int) + (t286.length : Int))) = ji5 := (i64_w _).trans hji5
 obtain ⟨c6, H⟩ := iN H
 have c6b0 := eq_true c6
 have c6b1 : decide (0 ≤ (ji5)) = true := decide_eq_true c6
 clear c6
 obtain ⟨c7, H⟩ := iN H
 have c7b0 := eq_true c7
 have c7b1 : decide ((ji5 : Int).toNat ≤ 70368744177664) = true := decide_eq_true c7
 clear c7
 obtain ⟨y289, hy289⟩ : ∃ y_ : List Int, y_ = (List.replicate (ji5 : Int).toNat 0) := ⟨_, rfl⟩
 (try first | rw [← hy289] at H | (dsimp only at H; rw [← hy289] at H)); (try rw [Option.bind_some] at H)
 have Ny289 := Aside0.mk hy289
 clear hy289
 have H' := Aside0.mk H
 clear H
 go_enter Tryd.func40, Tryd.ntmps40
 go_wp2_with (first | ((with_reducible refine gc 54 rfl ?_); refine gl (some 15) Tryd.func54 #[.string a0] ?_; (with_reducible refine (natural_parse.calls k a0 t283 _ A3.out).mono ?_); rintro e w8 ⟨v284, rfl, ho0, hb⟩; refine ⟨_, rfl, ?_⟩; have HO285 := Aside0.mk (Kd.V_lower (Kd.V_mono (ok' := fun k_ => True) ho0 (fun k_ hk_ => trivial)) (sz HB.out)); replace HB := Aside0.mk (bs HB.out hb); (try clear hb ho0)) | ((with_reducible refine gc 54 rfl ?_); refine gl (some 17) Tryd.func54 #[.string a1] ?_; (with_reducible refine (natural_parse.calls k a1 t286 _ A4.out).mono ?_); rintro e w9 ⟨v287, rfl, ho0, hb⟩; refine ⟨_, rfl, ?_⟩; replace HO285 := Aside0.mk (vb HO285.out hb); have HO288 := Aside0.mk (Kd.V_lower (Kd.V_mono (ok' := fun k_ => True) ho0 (fun k_ hk_ => trivial)) (sz HB.out)); replace HB := Aside0.mk (bs HB.out hb); (try clear hb ho0); obtain ⟨Ao10, co10, rfl⟩ := Kd.V_slice HO285.out; obtain ⟨Ao11, co11, rfl⟩ := Kd.V_slice HO288.out) | ((with_reducible refine gd 23 rfl ?_); refine Kd.R_make (Kd.int .u32) _ 72 rfl (N := 23) rfl 65 _ _ rfl ji5 rfl rfl Tryd.underlying65 (.int .u32 0) 4 info72 rfl (by decide) (by omega) 0 (ok := fun _ => True) (okp := fun _ => True) rfl (fun _ hk => hk) trivial oa (Nat.le_trans (Nat.mul_le_mul_right _ (oa : ji5.toNat ≤ 70368744177664)) (by omega)) (Below.refl _ _) (Nat.le_refl _) ?_; intro v290 w12 ho13 hb hg_ hnew_; clear hg_ hnew_; (first | rw [← Ny289.out] at ho13 | (simp only [Int.reduceToNat] at ho13; rw [← Ny289.out] at ho13)); replace HO285 := Aside0.mk (Kd.V_elder' (vs HO285.out) (Kd.R_base ho13) hb); replace HO288 := Aside0.mk (Kd.V_elder' (vs HO288.out) (Kd.R_base ho13) hb); have HO291 := Aside0.mk (Kd.R_lower ho13 (sz HB.out)); replace HB := Aside0.mk (bs HB.out hb); clear hb ho13))
 go_loopg [26] k (fun kq v26 w' => ∃ (x7_1 : List Int) (x26_1 : Int), v26 = .int .i64 x26_1 ∧ Aside0 (natural_Multiply.l0 kq t286 x7_1 t283 (t283.length : Int) x26_1 = some r) ∧ Aside0 (kq ≤ k) ∧ Aside0 (Kd.V (Kd.int .u32) 72 w' w.heap.size (fun k_ => some k_ ≠ (v290 : Value).ownBlock) (.slice Ao11 t286.length co11) t286) ∧ Aside0 (Kd.R (Kd.int .u32) 72 w' w.heap.size (fun _ => True) v290 x7_1) ∧ Aside0 (Kd.V (Kd.int .u32) 72 w' w.heap.size (fun k_ => some k_ ≠ (v290 : Value).ownBlock) (.slice Ao10 t283.length co10) t283) ∧ Aside0 (Below w.heap.size w w'))
 case atStart => exact ⟨(y289), (0), fs, H', ⟨Nat.le_refl _⟩, ⟨vm HO288.out (fun _ hk => hk.2)⟩, ⟨vs HO291.out⟩, ⟨vm HO285.out (fun _ hk => hk.2)⟩, ⟨bz HB.out⟩⟩
 case round =>
  clear H'
  (try clear c6b0); (try clear c6b1); (try clear c7b0); (try clear c7b1)
  obtain ⟨x7_1, x26_1, rfl, HA, HK1, HO_6, HO_7, HO_24, HB⟩ := hrel
  cases gk with
  | zero => exact absurd HA.out (by simp [natural_Multiply.l0])
  | succ k1 =>
   have H := HA.out
   clear HA
   simp only [natural_Multiply.l0] at H
   by_cases c14 : x26_1 < (t283.length : Int)
   ·rw [if_pos c14] at H
    have c14b0 : decide (x26_1 < (t283.length : Int)) = true := decide_eq_true c14
    clear c14
    obtain ⟨c15, H⟩ := iN H
    have c15b0 : decide (0 ≤ x26_1) = true := decide_eq_true c15
    clear c15
    obtain ⟨c16, H⟩ := iN H
    have c16b0 : decide (x26_1 < (t283.length : Int)) = true := decide_eq_true c16
    clear c16
    have H' := Aside0.mk H
    clear H
    have p293 : 0 ≤ (x26_1 : Int) := oa
    have q293 : x26_1 < (t283.length : Int) := oa
    obtain ⟨ad293, e293, hx293_0⟩ := Kd.at_int (Kd.V_reads' HO_24.out).2.2 x26_1 p293 q293
    cases e293
    replace p293 := eq_true p293
    replace q293 := eq_true q293
    go_wp2
    go_loopg [10, 33] k1 (fun kq v10 v33 w' => ∃ (x7_2 : List Int) (x10_2 : Int) (x33_2 : Int), v10 = .int .u64 x10_2 ∧ v33 = .int .i64 x33_2 ∧ Aside0 (natural_Multiply.l1 kq t286 x7_2 x26_1 (rd t283 x26_1) x10_2 t283 (t283.length : Int) x26_1 t286 (t286.length : Int) x33_2 = some r) ∧ Aside0 (kq ≤ k1) ∧ Aside0 (Kd.V (Kd.int .u32) 72 w' w.heap.size (fun k_ => some k_ ≠ (v290 : Value).ownBlock) (.slice Ao11 t286.length co11) t286) ∧ Aside0 (Kd.R (Kd.int .u32) 72 w' w.heap.size (fun _ => True) v290 x7_2) ∧ Aside0 (Kd.V (Kd.int .u32) 72 w' w.heap.size (fun k_ => some k_ ≠ (v290 : Value).ownBlock) (.slice (some ad293) t283.length co10) t283) ∧ Aside0 (Kd.V (Kd.int .u32) 72 w' w.heap.size (fun k_ => some k_ ≠ (v290 : Value).ownBlock) (.slice Ao11 t286.length co11) t286) ∧ Aside0 (Below w.heap.size w w'))
    case atStart => exact ⟨(x7_1), (0), (0), fs, fs, H', ⟨Nat.le_refl _⟩, ⟨vs HO_6.out⟩, ⟨vs HO_7.out⟩, ⟨vs HO_24.out⟩, ⟨vs HO_6.out⟩, ⟨bz HB.out⟩⟩
    case round =>
     clear H'
     (try clear c6b0); (try clear c6b1); (try clear c7b0); (try clear c7b1); (try clear c14b0); (try clear c15b0); (try clear c16b0); (try clear hx293_0); (try clear p293); (try clear q293)
     obtain ⟨x7_2, x10_2, x33_2, rfl, rfl, HA, HK2, HO_6, HO_7, HO_24, HO_31, HB⟩ := hrel
     cases gk with
     | zero => exact absurd HA.out (by simp [natural_Multiply.l1])
     | succ k2 =>
      have H := HA.out
      clear HA
      simp only [natural_Multiply.l1] at H
      by_cases c17 : x33_2 < (t286.length : Int)
      ·rw [if_pos c17] at H
       have c17b0 : decide (x33_2 < (t286.length : Int)) = true := decide_eq_true c17
       clear c17
       obtain ⟨c18, H⟩ := iN H
       have c18b0 : decide (0 ≤ x33_2) = true := decide_eq_true c18
       clear c18
       obtain ⟨c19, H⟩ := iN H
       have c19b0 : decide (x33_2 < (t286.length : Int)) = true := decide_eq_true c19
       clear c19
       obtain ⟨ji20, hji20⟩ : ∃ j_ : Int, (wrap64 (x26_1 + x33_2)) = j_ := ⟨_, rfl⟩
       first | rw [hji20] at H | simp only [hji20] at H
       have hji20w : (IntKind.i64.wrap (x26_1 + x33_2)) = ji20 := (i64_w _).trans hji20
       obtain ⟨c21, H⟩ := iN H
       have c21b0 : decide (0 ≤ (ji20)) = true := decide_eq_true c21
       clear c21
       obtain ⟨c22, H⟩ := iN H
       have c22b0 : decide ((ji20) < (x7_2.length : Int)) = true := decide_eq_true c22
       clear c22
       obtain ⟨y296, hy296⟩ : ∃ y_ : List Int, y_ = (x7_2.set ((ji20) : Int).toNat ((IntKind.u64.wrap ((IntKind.u64.wrap ((IntKind.u64.wrap ((IntKind.u64.wrap ((rd t283 x26_1))) * (IntKind.u64.wrap (rd t286 x33_2)))) + (IntKind.u64.wrap (rd x7_2 (ji20))))) + x10_2)) % 4294967296)) := ⟨_, rfl⟩
       (try first | rw [← hy296] at H | (dsimp only at H; rw [← hy296] at H)); (try rw [Option.bind_some] at H)
       have Ny296 := Aside0.mk hy296
       clear hy296
       have H' := Aside0.mk H
       clear H
       have p294 : 0 ≤ (x33_2 : Int) := oa
       have q294 : x33_2 < (t286.length : Int) := oa
       obtain ⟨ad294, e294, hx294_0⟩ := Kd.at_int (Kd.V_reads' HO_31.out).2.2 x33_2 p294 q294
       cases e294
       replace p294 := eq_true p294
       replace q294 := eq_true q294
       obtain ⟨Ao24, co24, eo24⟩ := Kd.R_slice HO_7.out
       subst eo24
       have p295 : 0 ≤ ((ji20) : Int) := oa
       have q295 : (ji20) < (x7_2.length : Int) := oa
       obtain ⟨ad295, e295, hx295_0⟩ := Kd.at_int (Kd.R_reads' HO_7.out).2.2 (ji20) p295 q295
       cases e295
       replace p295 := eq_true p295
       replace q295 := eq_true q295
       have p23 : 0 ≤ ((ji20) : Int) := oa
       have q23 : ((ji20) : Int) < ((x7_2.length : Int) : Int) := oa
       obtain ⟨go23, co23, eo23, gb23, gl23, cl23, HG23⟩ := Kd.R_form HO_7.out (by omega)
       (first | cases eo23 | (injection eo23 with ea_ en_ ec_; (first | subst ea_ | (injection ea_ with ea_; subst ea_)); subst ec_; clear en_))
       have GB23 := Aside0.mk gb23
       have GG23 := Aside0.mk HG23
       clear gb23 gl23 HG23
       (first | simp only [add_plain] at hx295_0 | skip)
       obtain ⟨hx23_0, hf23_0⟩ := Kd.R_celln 0 HO_7.out ((ji20) : Int) p23 q23
       replace p23 := eq_true p23
       replace q23 := eq_true q23
       have HP25 := Kd.R_putg HO_7.out ((ji20) : Int) ((IntKind.u64.wrap ((IntKind.u64.wrap ((IntKind.u64.wrap ((IntKind.u64.wrap ((rd t283 x26_1))) * (IntKind.u64.wrap (rd t286 x33_2)))) + (IntKind.u64.wrap (rd x7_2 (ji20))))) + x10_2)) % 4294967296)
       go_wp2_with (first | ((with_reducible refine gate_store (t := 72) (p := 59) rfl ?_); refine se 72 59 (w1 := (wr.setCell ⟨go23, ((ji20) : Int).toNat, none⟩ (.int .u32 ((IntKind.u64.wrap ((IntKind.u64.wrap ((IntKind.u64.wrap ((IntKind.u64.wrap ((rd t283 x26_1))) * (IntKind.u64.wrap (rd t286 x33_2)))) + (IntKind.u64.wrap (rd x7_2 (ji20))))) + x10_2)) % 4294967296)))) ?_; intro w26 hw; have hg : wr.grownBy w26 (some go23) := (by rw [hw]; exact HP25.2); have hp_ : Kd.R (Kd.int .u32) 72 w26 w.heap.size (fun _ => True) (.slice (some ⟨go23, 0, none⟩) x7_2.length co24) y296 := (by rw [hw, Ny296.out]; exact HP25.1); clear HP25; replace HO_6 := Aside0.mk (Kd.V_afterv (v := (.slice (some ⟨go23, 0, none⟩) x7_2.length co24)) (v1 := (.slice (some ⟨go23, 0, none⟩) x7_2.length co24)) (ok := (fun _ => True)) (vm HO_6.out (fun _ hk => ⟨trivial, hk⟩)) hg (.inl rfl)); replace HO_7 := Aside0.mk (hp_); replace HO_24 := Aside0.mk (Kd.V_afterv (v := (.slice (some ⟨go23, 0, none⟩) x7_2.length co24)) (v1 := (.slice (some ⟨go23, 0, none⟩) x7_2.length co24)) (ok := (fun _ => True)) (vm HO_24.out (fun _ hk => ⟨trivial, hk⟩)) hg (.inl rfl)); replace HO_31 := Aside0.mk (Kd.V_afterv (v := (.slice (some ⟨go23, 0, none⟩) x7_2.length co24)) (v1 := (.slice (some ⟨go23, 0, none⟩) x7_2.length co24)) (ok := (fun _ => True)) (vm HO_31.out (fun _ hk => ⟨trivial, hk⟩)) hg (.inl rfl)); replace HB := Aside0.mk ((by rw [hw]; exact below_set (HB.out) GB23.out : Below w.heap.size w w26)); clear hg hw hp_))
       go_roundg k2
       case measure => have := HK1.out; have := HK2.out; omega
       case rel => exact ⟨(y296), ((IntKind.u64.wrap ((IntKind.u64.wrap ((IntKind.u64.wrap ((IntKind.u64.wrap ((rd t283 x26_1))) * (IntKind.u64.wrap (rd t286 x33_2)))) + (IntKind.u64.wrap (rd x7_2 (ji20))))) + x10_2)) / 4294967296), (wrap64 (x33_2 + 1)), (by first | rfl | (simp; done) | (simp only [← hji20] <;> (first | rfl | simp)) | (simp [*]; done)), fs, H', ⟨by have := HK1.out; have := HK2.out; omega⟩, ⟨vm HO_6.out (fun _ hk => hk.2)⟩, ⟨vs HO_7.out⟩, ⟨vm HO_24.out (fun _ hk => hk.2)⟩, ⟨vm HO_31.out (fun _ hk => hk.2)⟩, ⟨bz HB.out⟩⟩
      ·rw [if_neg c17] at H
       have c17b0 : decide (x33_2 < (t286.length : Int)) = false := decide_eq_false c17
       clear c17
       obtain ⟨ji27, hji27⟩ : ∃ j_ : Int, (wrap64 (x26_1 + (t286.length : Int))) = j_ := ⟨_, rfl⟩
       first | rw [hji27] at H | simp only [hji27] at H
       have hji27w : (IntKind.i64.wrap (x26_1 + (t286.length : Int))) = ji27 := (i64_w _).trans hji27
       obtain ⟨c28, H⟩ := iN H
       have c28b0 : decide (0 ≤ (ji27)) = true := decide_eq_true c28
       clear c28
       obtain ⟨c29, H⟩ := iN H
       have c29b0 : decide ((ji27) < (x7_2.length : Int)) = true := decide_eq_true c29
       clear c29
       obtain ⟨y297, hy297⟩ : ∃ y_ : List Int, y_ = (x7_2.set ((ji27) : Int).toNat ((x10_2) % 4294967296)) := ⟨_, rfl⟩
       (try first | rw [← hy297] at H | (dsimp only at H; rw [← hy297] at H)); (try rw [Option.bind_some] at H)
       have Ny297 := Aside0.mk hy297
       clear hy297
       have H' := Aside0.mk H
       clear H
       have p30 : 0 ≤ ((ji27) : Int) := oa
       have q30 : ((ji27) : Int) < ((x7_2.length : Int) : Int) := oa
       obtain ⟨go30, co30, eo30, gb30, gl30, cl30, HG30⟩ := Kd.R_form HO_7.out (by omega)
       (first | cases eo30 | (injection eo30 with ea_ en_ ec_; (first | subst ea_ | (injection ea_ with ea_; subst ea_)); subst ec_; clear en_))
       have GB30 := Aside0.mk gb30
       have GG30 := Aside0.mk HG30
       clear gb30 gl30 HG30
       obtain ⟨hx30_0, hf30_0⟩ := Kd.R_celln 0 HO_7.out ((ji27) : Int) p30 q30
       replace p30 := eq_true p30
       replace q30 := eq_true q30
       have HP31 := Kd.R_putg HO_7.out ((ji27) : Int) ((x10_2) % 4294967296)
       go_wp2_with (first | ((with_reducible refine gate_store (t := 72) (p := 70) rfl ?_); refine se 72 70 (w1 := (wr.setCell ⟨go30, ((ji27) : Int).toNat, none⟩ (.int .u32 ((x10_2) % 4294967296)))) ?_; intro w32 hw; have hg : wr.grownBy w32 (some go30) := (by rw [hw]; exact HP31.2); have hp_ : Kd.R (Kd.int .u32) 72 w32 w.heap.size (fun _ => True) (.slice (some ⟨go30, 0, none⟩) x7_2.length co30) y297 := (by rw [hw, Ny297.out]; exact HP31.1); clear HP31; replace HO_6 := Aside0.mk (Kd.V_afterv (v := (.slice (some ⟨go30, 0, none⟩) x7_2.length co30)) (v1 := (.slice (some ⟨go30, 0, none⟩) x7_2.length co30)) (ok := (fun _ => True)) (vm HO_6.out (fun _ hk => ⟨trivial, hk⟩)) hg (.inl rfl)); replace HO_7 := Aside0.mk (hp_); replace HO_24 := Aside0.mk (Kd.V_afterv (v := (.slice (some ⟨go30, 0, none⟩) x7_2.length co30)) (v1 := (.slice (some ⟨go30, 0, none⟩) x7_2.length co30)) (ok := (fun _ => True)) (vm HO_24.out (fun _ hk => ⟨trivial, hk⟩)) hg (.inl rfl)); replace HO_31 := Aside0.mk (Kd.V_afterv (v := (.slice (some ⟨go30, 0, none⟩) x7_2.length co30)) (v1 := (.slice (some ⟨go30, 0, none⟩) x7_2.length co30)) (ok := (fun _ => True)) (vm HO_31.out (fun _ hk => ⟨trivial, hk⟩)) hg (.inl rfl)); replace HB := Aside0.mk ((by rw [hw]; exact below_set (HB.out) GB30.out : Below w.heap.size w w32)); clear hg hw hp_))
       go_roundg k2
       case measure => have := HK1.out; have := HK2.out; omega
       case rel => exact ⟨(y297), (wrap64 (x26_1 + 1)), fs, H', ⟨by have := HK1.out; have := HK2.out; omega⟩, ⟨vm HO_6.out (fun _ hk => hk.2)⟩, ⟨vs HO_7.out⟩, ⟨vm HO_24.out (fun _ hk => hk.2)⟩, ⟨bz HB.out⟩⟩
   ·rw [if_neg c14] at H
    have c14b0 : decide (x26_1 < (t283.length : Int)) = false := decide_eq_false c14
    clear c14
    obtain ⟨t292, A33, H⟩ := bs1 H
    obtain rfl := Option.some.inj H
    obtain ⟨Ao34, co34, eo34⟩ := Kd.R_slice HO_7.out
    subst eo34
    go_wp2_with (first | ((with_reducible refine gc 56 rfl ?_); refine gl (some 73) Tryd.func56 #[.slice Ao34 x7_1.length co34] ?_; (with_reducible refine (natural_limbs_text.calls k1 _ _ x7_1 t292 _ ?side1 ?side2 A33.out).mono ?_); (case side1 => exact vs (Kd.R_reads' HO_7.out).2.2); (case side2 => exact (Kd.R_reads' HO_7.out).2.1); rintro e w35 ⟨rfl, hb⟩; refine ⟨_, rfl, ?_⟩; replace HO_6 := Aside0.mk (vb HO_6.out hb); replace HO_7 := Aside0.mk (rb HO_7.out hb); replace HO_24 := Aside0.mk (vb HO_24.out hb); replace HB := Aside0.mk (bs HB.out hb); (try clear hb)))
    go_ret
    exact ⟨by first | rfl | (simp [errW_none, errW_some] <;> rfl) | (simp only [← hji5]; first | rfl | (simp [errW_none, errW_some] <;> rfl)) | (simp [*, errW_none, errW_some] <;> rfl), bz HB.out⟩

/-! ### stringslite_HasPrefix: function 92 -/
def stringslite_HasPrefix.f (a0 : ByteArray) (a1 : ByteArray) : Option (Bool) := if (a0.size : Int) ≥ (a1.size : Int) then (if 0 ≤ (a1.size : Int) then (if (a1.size : Int) ≤ (a0.size : Int) then (some ((a0.extract 0 ((a1.size : Int) : Int).toNat).toList == a1.toList)) else (none)) else (none)) else (some false)
set_option maxHeartbeats 8000000 in
set_option maxRecDepth 100000 in
theorem stringslite_HasPrefix.calls (a0 : ByteArray) (a1 : ByteArray) (r : Bool) (w : World) (h : stringslite_HasPrefix.f a0 a1 = some r) :
  Calls Tryd.prog 92 #[.string a0, .string a1] w fun e w' => e = .returned (.bool r) ∧ Drawn0 w w' := by
 have H := h
 clear h
 unfold stringslite_HasPrefix.f at H
 by_cases c3 : (a0.size : Int) ≥ (a1.size : Int)
 ·rw [if_pos c3] at H
  have c3b0 : decide ((a1.size : Int) ≤ (a0.size : Int)) = true := decide_eq_true c3
  have c3b1 : decide (a1.size ≤ a0.size) = true := decide_eq_true (Int.ofNat_le.mp c3)
  clear c3
  obtain ⟨c4, H⟩ := iN H
  have c4b0 := eq_true c4
  have c4b1 : decide (0 ≤ (a1.size : Int)) = true := decide_eq_true c4
  clear c4
  obtain ⟨c5, H⟩ := iN H
  have c5b0 := eq_true c5
  have c5b1 : decide ((a1.size : Int) ≤ (a0.size : Int)) = true := decide_eq_true c5
  clear c5
  obtain rfl := Option.some.inj H
  go_enter Tryd.func92, Tryd.ntmps92
  go_wp2
  go_ret
  exact ⟨fs, dz⟩
 ·rw [if_neg c3] at H
  have c3b0 : decide ((a1.size : Int) ≤ (a0.size : Int)) = false := decide_eq_false c3
  have c3b1 : decide (a1.size ≤ a0.size) = false := decide_eq_false (fun h => c3 (Int.ofNat_le.mpr h))
  clear c3
  obtain rfl := Option.some.inj H
  go_enter Tryd.func92, Tryd.ntmps92
  go_wp2
  go_ret
  exact ⟨fs, dz⟩

/-! ### stringslite_CutPrefix: function 64 -/
def stringslite_CutPrefix.f (a0 : ByteArray) (a1 : ByteArray) : Option (ByteArray × Bool) := (stringslite_HasPrefix.f a0 a1).bind fun t298 => (if t298 = true then (if 0 ≤ (a1.size : Int) then (if (a1.size : Int) ≤ (a0.size : Int) then (some (a0.extract ((a1.size : Int) : Int).toNat a0.size, true)) else (none)) else (none)) else (some (a0, false)))
set_option maxHeartbeats 8000000 in
set_option maxRecDepth 100000 in
theorem stringslite_CutPrefix.calls (a0 : ByteArray) (a1 : ByteArray) (r1 : ByteArray) (r2 : Bool) (w : World) (h : stringslite_CutPrefix.f a0 a1 = some (r1, r2)) :
  Calls Tryd.prog 64 #[.string a0, .string a1] w fun e w' => e = .returned (.tuple #[.string r1, .bool r2]) ∧ Drawn0 w w' := by
 have H := h
 clear h
 unfold stringslite_CutPrefix.f at H
 obtain ⟨t298, A3, H⟩ := bs1 H
 by_cases c4 : t298 = true
 ·subst c4
  have H1 : (if 0 ≤ (a1.size : Int) then (if (a1.size : Int) ≤ (a0.size : Int) then (some (a0.extract ((a1.size : Int) : Int).toNat a0.size, true)) else (none)) else (none)) = some (r1, r2) := by rw [if_pos rfl] at H; exact H
  clear H
  have H := H1
  clear H1
  obtain ⟨c5, H⟩ := iN H
  have c5b0 := eq_true c5
  have c5b1 : decide (0 ≤ (a1.size : Int)) = true := decide_eq_true c5
  clear c5
  obtain ⟨c6, H⟩ := iN H
  have c6b0 := eq_true c6
  have c6b1 : decide ((a1.size : Int) ≤ (a0.size : Int)) = true := decide_eq_true c6
  clear c6
  simp only [Option.some.injEq, Prod.mk.injEq] at H
  obtain ⟨rfl, rfl⟩ := H
  go_enter Tryd.func64, Tryd.ntmps64
  go_wp2_with (first | ((with_reducible refine gc 92 rfl ?_); refine gl (some 8) Tryd.func92 #[.string a0, .string a1] ?_; (with_reducible refine (stringslite_HasPrefix.calls a0 a1 true _ A3.out).mono ?_); rintro e w' ⟨rfl, ⟨nd, rfl⟩⟩; refine ⟨_, rfl, ?_⟩))
  go_ret2
  exact ⟨fs, dz⟩
 ·replace c4 := Bool.eq_false_iff.mpr c4
  subst c4
  have H1 : (some (a0, false)) = some (r1, r2) := by rw [if_neg (show ¬ (false = true) by decide)] at H; exact H
  clear H
  have H := H1
  clear H1
  simp only [Option.some.injEq, Prod.mk.injEq] at H
  obtain ⟨rfl, rfl⟩ := H
  go_enter Tryd.func64, Tryd.ntmps64
  go_wp2_with (first | ((with_reducible refine gc 92 rfl ?_); refine gl (some 8) Tryd.func92 #[.string a0, .string a1] ?_; (with_reducible refine (stringslite_HasPrefix.calls a0 a1 false _ A3.out).mono ?_); rintro e w' ⟨rfl, ⟨nd, rfl⟩⟩; refine ⟨_, rfl, ?_⟩))
  go_ret2
  exact ⟨fs, dz⟩

/-! ### strings_CutPrefix: function 43 -/
def strings_CutPrefix.f (a0 : ByteArray) (a1 : ByteArray) : Option (ByteArray × Bool) := (stringslite_CutPrefix.f a0 a1).bind fun bt299 => (some (bt299.1, bt299.2))
set_option maxHeartbeats 8000000 in
set_option maxRecDepth 100000 in
theorem strings_CutPrefix.calls (a0 : ByteArray) (a1 : ByteArray) (r1 : ByteArray) (r2 : Bool) (w : World) (h : strings_CutPrefix.f a0 a1 = some (r1, r2)) :
  Calls Tryd.prog 43 #[.string a0, .string a1] w fun e w' => e = .returned (.tuple #[.string r1, .bool r2]) ∧ Drawn0 w w' := by
 have H := h
 clear h
 unfold strings_CutPrefix.f at H
 obtain ⟨⟨t299, t300⟩, A3, H⟩ := bs1 H; dsimp only at H
 simp only [Option.some.injEq, Prod.mk.injEq] at H
 obtain ⟨rfl, rfl⟩ := H
 go_enter Tryd.func43, Tryd.ntmps43
 go_wp2_with (first | ((with_reducible refine gc 64 rfl ?_); refine gl (some 8) Tryd.func64 #[.string a0, .string a1] ?_; (with_reducible refine (stringslite_CutPrefix.calls a0 a1 t299 t300 _ A3.out).mono ?_); rintro e w' ⟨rfl, ⟨nd, rfl⟩⟩; refine ⟨_, rfl, ?_⟩))
 go_ret2
 exact ⟨fs, dz⟩

-- NOT PRINTED: function 119 (bytealg_hashStr_string)

-- NOT PRINTED: function 110 (bytealg_IndexRabinKarp_string)

/-! ### stringslite_Index: function 93 -/
def stringslite_Index.j0 : Nat → ByteArray → ByteArray → Int → Bool → Option (Int)
 | 0, _, _, _, _ => none
 | k + 1, x0, x1, x5, x16 => if x16 = true then (some 0) else (if x5 = 1 then (if 0 < (x1.size : Int) then ((stringslite_IndexByte.f x0 (bt x1 0)).bind fun t301 => (some t301)) else (none)) else (if x5 ≥ (x0.size : Int) then (some (-1)) else (none)))
def stringslite_Index.f (k : Nat) (a0 : ByteArray) (a1 : ByteArray) : Option (Int) := if (a1.size : Int) = 0 then (stringslite_Index.j0 k a0 a1 (a1.size : Int) true) else (stringslite_Index.j0 k a0 a1 (a1.size : Int) (a1.toList == a0.toList))
theorem stringslite_Index.mono_l : ∀ k, (∀ y0 y1 y2 y3, LeO (stringslite_Index.j0 k y0 y1 y2 y3) (stringslite_Index.j0 (k + 1) y0 y1 y2 y3))
 | 0 => fun _ _ _ _ r h => by simp [stringslite_Index.j0] at h
 | k + 1 => by
  have ih0 := stringslite_Index.mono_l k
  ·intro y0 y1 y2 y3
   unfold stringslite_Index.j0
   repeat' with_reducible first | exact ih0 _ _ _ _ | exact LeO.refl _ | exact LeO.none _ | refine LeO.ite ?_ ?_ | refine LeO.bind ?_ (fun _ => ?_)
theorem stringslite_Index.mono : ∀ a0 a1 k, LeO (stringslite_Index.f k a0 a1) (stringslite_Index.f (k + 1) a0 a1) := by
 intro a0 a1 k
 have ih0 := stringslite_Index.mono_l k
 unfold stringslite_Index.f
 repeat' with_reducible first | exact ih0 _ _ _ _ | exact LeO.refl _ | exact LeO.none _ | refine LeO.ite ?_ ?_ | refine LeO.bind ?_ (fun _ => ?_)
set_option maxHeartbeats 8000000 in
set_option maxRecDepth 100000 in
theorem stringslite_Index.calls (k : Nat) (a0 : ByteArray) (a1 : ByteArray) (r : Int) (w : World) (h : stringslite_Index.f k a0 a1 = some r) :
  Calls Tryd.prog 93 #[.string a0, .string a1] w fun e w' => e = .returned (.int .i64 r) ∧ Drawn0 w w' := by
 have H := h
 clear h
 unfold stringslite_Index.f at H
 have HC3 := Aside0.mk H
 clear H
 go_enter Tryd.func93, Tryd.ntmps93
 (try (simp only [Exit.then]; refine (by assumption : ∀ (a : Act) (w : World), Code.wp _ _ _ a w → _) _ _ ?_))
 go_upto_region 2 with (fail)
 go_cut [16] (fun v16 wc => ∃ (kq : Nat) (x16_2 : Bool), v16 = .bool x16_2 ∧ Aside0 (stringslite_Index.j0 kq a0 a1 (a1.size : Int) x16_2 = some r) ∧ Aside0 (kq ≤ k) ∧ Drawn0 w wc)
 case first =>
  have H := HC3.out
  clear HC3
  by_cases c4 : (a1.size : Int) = 0
  ·rw [if_pos c4] at H
   have c4b0 := beq_iff_eq.mpr c4
   have c4b1 := bne_eq_false_iff_eq.mpr c4
   clear c4
   (first | rw [c4b0] | (simp only [i64_w, i32_w]; rw [c4b0]) | skip)
   have H' := Aside0.mk H
   clear H
   go_wp2
   go_meet
   case rel => exact ⟨_, (true), fs, H', ⟨by first | omega | exact Nat.le_refl _⟩, dz⟩
  ·rw [if_neg c4] at H
   have c4b0 := beq_eq_false_iff_ne.mpr c4
   have c4b1 := bne_iff_ne.mpr c4
   (first | rw [c4b0] | (simp only [i64_w, i32_w]; rw [c4b0]) | skip)
   have H' := Aside0.mk H
   clear H
   go_wp2
   go_meet
   case rel => exact ⟨_, ((a1.toList == a0.toList)), fs, H', ⟨by first | omega | exact Nat.le_refl _⟩, dz⟩
 case rest =>
  clear HC3
  (try clear c4b0); (try clear c4b1)
  obtain ⟨kq, x16_2, rfl, HA, HJ2, ⟨mc2, rfl⟩⟩ := hcut
  cases kq with
  | zero => exact absurd HA.out (by simp [stringslite_Index.j0])
  | succ kj2 =>
   have H := HA.out
   clear HA
   simp only [stringslite_Index.j0] at H
   by_cases c5 : x16_2 = true
   ·subst c5
    have H1 : (some 0) = some r := by rw [if_pos rfl] at H; exact H
    clear H
    have H := H1
    clear H1
    obtain rfl := Option.some.inj H
    go_wp2
    go_ret
    exact ⟨fs, dz⟩
   ·replace c5 := Bool.eq_false_iff.mpr c5
    subst c5
    have H1 : (if (a1.size : Int) = 1 then (if 0 < (a1.size : Int) then ((stringslite_IndexByte.f a0 (bt a1 0)).bind fun t301 => (some t301)) else (none)) else (if (a1.size : Int) ≥ (a0.size : Int) then (some (-1)) else (none))) = some r := by rw [if_neg (show ¬ (false = true) by decide)] at H; exact H
    clear H
    have H := H1
    clear H1
    by_cases c6 : (a1.size : Int) = 1
    ·rw [if_pos c6] at H
     have c6b0 := beq_iff_eq.mpr c6
     have c6b1 := bne_eq_false_iff_eq.mpr c6
     clear c6
     obtain ⟨c7, H⟩ := iN H
     have c7b0 : decide (0 < (a1.size : Int)) = true := decide_eq_true c7
     have c7b1 : decide (0 < a1.size) = true := decide_eq_true (by omega)
     clear c7
     obtain ⟨t301, A9, H⟩ := bs1 H
     obtain rfl := Option.some.inj H
     have p8 : 0 ≤ (0 : Int) := (by omega)
     have q8 : 0 < a1.size := (by have : (0 : Int) < (a1.size : Int) := oa; omega)
     have hx8 : ∀ h : 0 < a1.size, ((a1[0]'h).toNat : Int) = bt a1 0 := bt_at a1 0
     clear p8
     have qi8 : (0 < (a1.size : Int)) = True := eq_true oa
     replace q8 := eq_true q8
     go_wp2_with (first | ((with_reducible refine gc 107 rfl ?_); refine gl (some 30) Tryd.func107 #[.string a0, .int .u8 (bt a1 0)] ?_; (with_reducible refine (stringslite_IndexByte.calls a0 (bt a1 0) t301 _ A9.out).mono ?_); rintro e w' ⟨rfl, ⟨nd, rfl⟩⟩; refine ⟨_, rfl, ?_⟩))
     go_ret
     exact ⟨fs, dz⟩
    ·rw [if_neg c6] at H
     have c6b0 := beq_eq_false_iff_ne.mpr c6
     have c6b1 := bne_iff_ne.mpr c6
     obtain ⟨c10, H⟩ := iN H
     have c10b0 : decide ((a0.size : Int) ≤ (a1.size : Int)) = true := decide_eq_true c10
     have c10b1 : decide (a0.size ≤ a1.size) = true := decide_eq_true (Int.ofNat_le.mp c10)
     clear c10
     obtain rfl := Option.some.inj H
     go_wp2
     go_ret
     exact ⟨fs, dz⟩

/-! ### stringslite_Cut: function 65 -/
def stringslite_Cut.f (k : Nat) (a0 : ByteArray) (a1 : ByteArray) : Option (ByteArray × ByteArray × Bool) := (stringslite_Index.f k a0 a1).bind fun t302 => (if t302 ≥ 0 then (if 0 ≤ t302 then (if t302 ≤ (a0.size : Int) then (if 0 ≤ (wrap64 (t302 + (a1.size : Int))) then (if (wrap64 (t302 + (a1.size : Int))) ≤ (a0.size : Int) then (some (a0.extract 0 (t302 : Int).toNat, a0.extract ((wrap64 (t302 + (a1.size : Int))) : Int).toNat a0.size, true)) else (none)) else (none)) else (none)) else (none)) else (some (a0, (⟨#[]⟩ : ByteArray), false)))
theorem stringslite_Cut.mono : ∀ a0 a1 k, LeO (stringslite_Cut.f k a0 a1) (stringslite_Cut.f (k + 1) a0 a1) := by
 intro a0 a1 k
 unfold stringslite_Cut.f
 repeat' with_reducible first | exact stringslite_Index.mono _ _ _ | exact LeO.refl _ | exact LeO.none _ | refine LeO.ite ?_ ?_ | refine LeO.bind ?_ (fun _ => ?_)
set_option maxHeartbeats 8000000 in
set_option maxRecDepth 100000 in
theorem stringslite_Cut.calls (k : Nat) (a0 : ByteArray) (a1 : ByteArray) (r1 : ByteArray) (r2 : ByteArray) (r3 : Bool) (w : World) (h : stringslite_Cut.f k a0 a1 = some (r1, r2, r3)) :
  Calls Tryd.prog 65 #[.string a0, .string a1] w fun e w' => e = .returned (.tuple #[.string r1, .string r2, .bool r3]) ∧ Drawn0 w w' := by
 have H := h
 clear h
 unfold stringslite_Cut.f at H
 obtain ⟨t302, A3, H⟩ := bs1 H
 by_cases c4 : t302 ≥ 0
 ·rw [if_pos c4] at H
  have c4b0 : decide (0 ≤ t302) = true := decide_eq_true c4
  clear c4
  obtain ⟨c5, H⟩ := iN H
  have c5b0 := eq_true c5
  have c5b1 : decide (0 ≤ t302) = true := decide_eq_true c5
  clear c5
  obtain ⟨c6, H⟩ := iN H
  have c6b0 := eq_true c6
  have c6b1 : decide (t302 ≤ (a0.size : Int)) = true := decide_eq_true c6
  clear c6
  obtain ⟨ji7, hji7⟩ : ∃ j_ : Int, (wrap64 (t302 + (a1.size : Int))) = j_ := ⟨_, rfl⟩
  first | rw [hji7] at H | simp only [hji7] at H
  (try rw [hji7] at A3)
  have hji7w : (IntKind.i64.wrap (t302 + (a1.size : Int))) = ji7 := (i64_w _).trans hji7
  obtain ⟨c8, H⟩ := iN H
  have c8b0 := eq_true c8
  have c8b1 : decide (0 ≤ (ji7)) = true := decide_eq_true c8
  clear c8
  obtain ⟨c9, H⟩ := iN H
  have c9b0 := eq_true c9
  have c9b1 : decide ((ji7) ≤ (a0.size : Int)) = true := decide_eq_true c9
  clear c9
  simp only [Option.some.injEq, Prod.mk.injEq] at H
  obtain ⟨rfl, rfl, rfl⟩ := H
  go_enter Tryd.func65, Tryd.ntmps65
  go_wp2_with (first | (go_at_call 93; (with_reducible refine (stringslite_Index.calls k a0 a1 t302 _ A3.out).mono ?_); rintro e w' ⟨rfl, ⟨nd, rfl⟩⟩; (try exact dw)))
  repeat (go_quiet (first | (go_at_call 93; (with_reducible refine (stringslite_Index.calls k a0 a1 t302 _ A3.out).mono ?_); rintro e w' ⟨rfl, ⟨nd, rfl⟩⟩; (try exact dw))); try go_wp2_with (first | (go_at_call 93; (with_reducible refine (stringslite_Index.calls k a0 a1 t302 _ A3.out).mono ?_); rintro e w' ⟨rfl, ⟨nd, rfl⟩⟩; (try exact dw))))
  go_ret3
  exact ⟨by first | rfl | (simp; done) | (simp only [← hji7] <;> (first | rfl | simp)) | (simp [*]; done), dz⟩
 ·rw [if_neg c4] at H
  have c4b0 : decide (0 ≤ t302) = false := decide_eq_false c4
  clear c4
  simp only [Option.some.injEq, Prod.mk.injEq] at H
  obtain ⟨rfl, rfl, rfl⟩ := H
  go_enter Tryd.func65, Tryd.ntmps65
  go_wp2_with (first | (go_at_call 93; (with_reducible refine (stringslite_Index.calls k a0 a1 t302 _ A3.out).mono ?_); rintro e w' ⟨rfl, ⟨nd, rfl⟩⟩; (try exact dw)))
  repeat (go_quiet (first | (go_at_call 93; (with_reducible refine (stringslite_Index.calls k a0 a1 t302 _ A3.out).mono ?_); rintro e w' ⟨rfl, ⟨nd, rfl⟩⟩; (try exact dw))); try go_wp2_with (first | (go_at_call 93; (with_reducible refine (stringslite_Index.calls k a0 a1 t302 _ A3.out).mono ?_); rintro e w' ⟨rfl, ⟨nd, rfl⟩⟩; (try exact dw))))
  go_ret3
  exact ⟨fs, dz⟩

/-! ### strings_Cut: function 44 -/
def strings_Cut.f (k : Nat) (a0 : ByteArray) (a1 : ByteArray) : Option (ByteArray × ByteArray × Bool) := (stringslite_Cut.f k a0 a1).bind fun bt303 => (some (bt303.1, bt303.2.1, bt303.2.2))
theorem strings_Cut.mono : ∀ a0 a1 k, LeO (strings_Cut.f k a0 a1) (strings_Cut.f (k + 1) a0 a1) := by
 intro a0 a1 k
 unfold strings_Cut.f
 repeat' with_reducible first | exact stringslite_Cut.mono _ _ _ | exact LeO.refl _ | exact LeO.none _ | refine LeO.ite ?_ ?_ | refine LeO.bind ?_ (fun _ => ?_)
set_option maxHeartbeats 8000000 in
set_option maxRecDepth 100000 in
theorem strings_Cut.calls (k : Nat) (a0 : ByteArray) (a1 : ByteArray) (r1 : ByteArray) (r2 : ByteArray) (r3 : Bool) (w : World) (h : strings_Cut.f k a0 a1 = some (r1, r2, r3)) :
  Calls Tryd.prog 44 #[.string a0, .string a1] w fun e w' => e = .returned (.tuple #[.string r1, .string r2, .bool r3]) ∧ Drawn0 w w' := by
 have H := h
 clear h
 unfold strings_Cut.f at H
 obtain ⟨⟨t303, t304, t305⟩, A3, H⟩ := bs1 H; dsimp only at H
 simp only [Option.some.injEq, Prod.mk.injEq] at H
 obtain ⟨rfl, rfl, rfl⟩ := H
 go_enter Tryd.func44, Tryd.ntmps44
 go_wp2_with (first | ((with_reducible refine gc 65 rfl ?_); refine gl (some 9) Tryd.func65 #[.string a0, .string a1] ?_; (with_reducible refine (stringslite_Cut.calls k a0 a1 t303 t304 t305 _ A3.out).mono ?_); rintro e w' ⟨rfl, ⟨nd, rfl⟩⟩; refine ⟨_, rfl, ?_⟩))
 go_ret3
 exact ⟨fs, dz⟩

/-! ### rational_isDigits: function 46 -/
def rational_isDigits.l0 : Nat → ByteArray → Int → Int → Option (Bool)
 | 0, _, _, _ => none
 | k + 1, x0, x5, x6 => if x6 < x5 then (if 0 ≤ x6 then (if x6 < (x0.size : Int) then (if (bt x0 x6) < 48 then (some false) else (if (bt x0 x6) > 57 then (some false) else (rational_isDigits.l0 k x0 x5 (wrap64 (x6 + 1))))) else (none)) else (none)) else (some (x0.toList != ([] : List UInt8)))
def rational_isDigits.f (k : Nat) (a0 : ByteArray) : Option (Bool) := rational_isDigits.l0 k a0 (a0.size : Int) 0
theorem rational_isDigits.mono_l : ∀ k, (∀ y0 y1 y2, LeO (rational_isDigits.l0 k y0 y1 y2) (rational_isDigits.l0 (k + 1) y0 y1 y2))
 | 0 => fun _ _ _ r h => by simp [rational_isDigits.l0] at h
 | k + 1 => by
  have ih0 := rational_isDigits.mono_l k
  ·intro y0 y1 y2
   unfold rational_isDigits.l0
   repeat' with_reducible first | exact ih0 _ _ _ | exact LeO.refl _ | exact LeO.none _ | refine LeO.ite ?_ ?_ | refine LeO.bind ?_ (fun _ => ?_)
theorem rational_isDigits.mono : ∀ a0 k, LeO (rational_isDigits.f k a0) (rational_isDigits.f (k + 1) a0) := by
 intro a0 k
 have ih0 := rational_isDigits.mono_l k
 unfold rational_isDigits.f
 repeat' with_reducible first | exact ih0 _ _ _ | exact LeO.refl _ | exact LeO.none _ | refine LeO.ite ?_ ?_ | refine LeO.bind ?_ (fun _ => ?_)
set_option maxHeartbeats 8000000 in
set_option maxRecDepth 100000 in
theorem rational_isDigits.calls (k : Nat) (a0 : ByteArray) (r : Bool) (w : World) (h : rational_isDigits.f k a0 = some r) :
  Calls Tryd.prog 46 #[.string a0] w fun e w' => e = .returned (.bool r) ∧ Drawn0 w w' := by
 have H := h
 clear h
 unfold rational_isDigits.f at H
 have H' := Aside0.mk H
 clear H
 go_enter Tryd.func46, Tryd.ntmps46
 go_wp2
 go_loopg [6] k (fun kq v6 w' => ∃ (x6_1 : Int), v6 = .int .i64 x6_1 ∧ Aside0 (rational_isDigits.l0 kq a0 (a0.size : Int) x6_1 = some r) ∧ Aside0 (kq ≤ k) ∧ Drawn0 w w')
 case atStart => exact ⟨(0), fs, H', ⟨Nat.le_refl _⟩, dz⟩
 case round =>
  clear H'
  obtain ⟨x6_1, rfl, HA, HK1, ⟨m1, rfl⟩⟩ := hrel
  cases gk with
  | zero => exact absurd HA.out (by simp [rational_isDigits.l0])
  | succ k1 =>
   have H := HA.out
   clear HA
   simp only [rational_isDigits.l0] at H
   by_cases c2 : x6_1 < (a0.size : Int)
   ·rw [if_pos c2] at H
    have c2b0 : decide (x6_1 < (a0.size : Int)) = true := decide_eq_true c2
    clear c2
    obtain ⟨c3, H⟩ := iN H
    have c3b0 : decide (0 ≤ x6_1) = true := decide_eq_true c3
    clear c3
    obtain ⟨c4, H⟩ := iN H
    have c4b0 : decide (x6_1 < (a0.size : Int)) = true := decide_eq_true c4
    clear c4
    by_cases c6 : (bt a0 x6_1) < 48
    ·rw [if_pos c6] at H
     have c6b0 : decide ((bt a0 x6_1) < 48) = true := decide_eq_true c6
     clear c6
     obtain rfl := Option.some.inj H
     have p5 : 0 ≤ (x6_1 : Int) := oa
     have q5 : x6_1 < (a0.size : Int) := oa
     have hx5 := bt_at a0 x6_1
     replace p5 := eq_true p5
     replace q5 := eq_true q5
     go_wp2
     go_ret
     exact ⟨fs, dz⟩
    ·rw [if_neg c6] at H
     have c6b0 : decide ((bt a0 x6_1) < 48) = false := decide_eq_false c6
     clear c6
     by_cases c8 : (bt a0 x6_1) > 57
     ·rw [if_pos c8] at H
      have c8b0 : decide (57 < (bt a0 x6_1)) = true := decide_eq_true c8
      clear c8
      obtain rfl := Option.some.inj H
      have p5 : 0 ≤ (x6_1 : Int) := oa
      have q5 : x6_1 < (a0.size : Int) := oa
      have hx5 := bt_at a0 x6_1
      replace p5 := eq_true p5
      replace q5 := eq_true q5
      have p7 : 0 ≤ (x6_1 : Int) := oa
      have q7 : x6_1 < (a0.size : Int) := oa
      have hx7 := bt_at a0 x6_1
      replace p7 := eq_true p7
      replace q7 := eq_true q7
      go_wp2
      go_ret
      exact ⟨fs, dz⟩
     ·rw [if_neg c8] at H
      have c8b0 : decide (57 < (bt a0 x6_1)) = false := decide_eq_false c8
      clear c8
      have H' := Aside0.mk H
      clear H
      have p5 : 0 ≤ (x6_1 : Int) := oa
      have q5 : x6_1 < (a0.size : Int) := oa
      have hx5 := bt_at a0 x6_1
      replace p5 := eq_true p5
      replace q5 := eq_true q5
      have p7 : 0 ≤ (x6_1 : Int) := oa
      have q7 : x6_1 < (a0.size : Int) := oa
      have hx7 := bt_at a0 x6_1
      replace p7 := eq_true p7
      replace q7 := eq_true q7
      go_wp2
      go_roundg k1
      case measure => have := HK1.out; omega
      case rel => exact ⟨(wrap64 (x6_1 + 1)), fs, H', ⟨by have := HK1.out; omega⟩, dz⟩
   ·rw [if_neg c2] at H
    have c2b0 : decide (x6_1 < (a0.size : Int)) = false := decide_eq_false c2
    clear c2
    obtain rfl := Option.some.inj H
    go_wp2
    go_ret
    exact ⟨fs, dz⟩

/-! ### rational_isInteger: function 45 -/
def rational_isInteger.f (k : Nat) (a0 : ByteArray) : Option (Bool) := (rational_isDigits.f k a0).bind fun t306 => (if t306 = true then (if a0.toList = ([48] : List UInt8) then (some true) else (if 0 < (a0.size : Int) then (some ((bt a0 0) != 48)) else (none))) else (some false))
theorem rational_isInteger.mono : ∀ a0 k, LeO (rational_isInteger.f k a0) (rational_isInteger.f (k + 1) a0) := by
 intro a0 k
 unfold rational_isInteger.f
 repeat' with_reducible first | exact rational_isDigits.mono _ _ | exact LeO.refl _ | exact LeO.none _ | refine LeO.ite ?_ ?_ | refine LeO.bind ?_ (fun _ => ?_)
set_option maxHeartbeats 8000000 in
set_option maxRecDepth 100000 in
theorem rational_isInteger.calls (k : Nat) (a0 : ByteArray) (r : Bool) (w : World) (h : rational_isInteger.f k a0 = some r) :
  Calls Tryd.prog 45 #[.string a0] w fun e w' => e = .returned (.bool r) ∧ Drawn0 w w' := by
 have H := h
 clear h
 unfold rational_isInteger.f at H
 obtain ⟨t306, A2, H⟩ := bs1 H
 by_cases c3 : t306 = true
 ·subst c3
  have H1 : (if a0.toList = ([48] : List UInt8) then (some true) else (if 0 < (a0.size : Int) then (some ((bt a0 0) != 48)) else (none))) = some r := by rw [if_pos rfl] at H; exact H
  clear H
  have H := H1
  clear H1
  by_cases c4 : a0.toList = ([48] : List UInt8)
  ·rw [if_pos c4] at H
   have c4b0 := beq_iff_eq.mpr c4
   have c4b1 := bne_eq_false_iff_eq.mpr c4
   clear c4
   obtain rfl := Option.some.inj H
   go_enter Tryd.func45, Tryd.ntmps45
   go_wp2_with (first | ((with_reducible refine gc 46 rfl ?_); refine gl (some 4) Tryd.func46 #[.string a0] ?_; (with_reducible refine (rational_isDigits.calls k a0 true _ A2.out).mono ?_); rintro e w' ⟨rfl, ⟨nd, rfl⟩⟩; refine ⟨_, rfl, ?_⟩))
   go_ret
   exact ⟨fs, dz⟩
  ·rw [if_neg c4] at H
   have c4b0 := beq_eq_false_iff_ne.mpr c4
   have c4b1 := bne_iff_ne.mpr c4
   obtain ⟨c5, H⟩ := iN H
   have c5b0 : decide (0 < (a0.size : Int)) = true := decide_eq_true c5
   have c5b1 : decide (0 < a0.size) = true := decide_eq_true (by omega)
   clear c5
   obtain rfl := Option.some.inj H
   go_enter Tryd.func45, Tryd.ntmps45
   go_wp2_with (first | ((with_reducible refine gc 46 rfl ?_); refine gl (some 4) Tryd.func46 #[.string a0] ?_; (with_reducible refine (rational_isDigits.calls k a0 true _ A2.out).mono ?_); rintro e w' ⟨rfl, ⟨nd, rfl⟩⟩; refine ⟨_, rfl, ?_⟩; have p6 : 0 ≤ (0 : Int) := (by omega); have q6 : 0 < a0.size := (by have : (0 : Int) < (a0.size : Int) := oa; omega); have hx6 : ∀ h : 0 < a0.size, ((a0[0]'h).toNat : Int) = bt a0 0 := bt_at a0 0; clear p6; have qi6 : (0 < (a0.size : Int)) = True := eq_true oa; replace q6 := eq_true q6))
   go_ret
   exact ⟨fs, dz⟩
 ·replace c3 := Bool.eq_false_iff.mpr c3
  subst c3
  have H1 : (some false) = some r := by rw [if_neg (show ¬ (false = true) by decide)] at H; exact H
  clear H
  have H := H1
  clear H1
  obtain rfl := Option.some.inj H
  go_enter Tryd.func45, Tryd.ntmps45
  go_wp2_with (first | ((with_reducible refine gc 46 rfl ?_); refine gl (some 4) Tryd.func46 #[.string a0] ?_; (with_reducible refine (rational_isDigits.calls k a0 false _ A2.out).mono ?_); rintro e w' ⟨rfl, ⟨nd, rfl⟩⟩; refine ⟨_, rfl, ?_⟩))
  go_ret
  exact ⟨fs, dz⟩

end Go.Proofs.YtgepdnoaemeofaaDoor.R
