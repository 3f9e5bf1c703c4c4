/- Printed by a program of this session (wip/tools) out of the translation: plain functions and the proofs that the code comes to their answers. -/
import Derived.Test.YtgepdnoaemeofaaDoorK
import Derived.Test.YtgepdnoaemeofaaDoorR0
import Derived.Test.YtgepdnoaemeofaaDoorR2
import Derived.Test.YtgepdnoaemeofaaDoorR3
import Derived.Test.YtgepdnoaemeofaaDoorR7
import Derived.Test.YtgepdnoaemeofaaDoorR8
import Derived.Test.YtgepdnoaemeofaaDoorR9
import Derived.Test.YtgepdnoaemeofaaDoorR12
namespace Go.Proofs.YtgepdnoaemeofaaDoor.R
open Go.RowKit Go.Proofs.YtgepdnoaemeofaaDoorW.PrintWords Go.Proofs.YtgepdnoaemeofaaDoorW.PrintLast Go.Proofs.YtgepdnoaemeofaaDoorW.PrintMore Go.Proofs.YtgepdnoaemeofaaDoorW.PK
attribute [local go_sem] max2_int min2_int max_two min_two max_three min_three max_four min_four   -- for this text's walks alone
set_option linter.unusedVariables false
set_option linter.unusedSimpArgs false

/-! ### natural_Format: function 50 -/
mutual
def natural_Format.l0 : Nat → List Int → List Int → Option (ByteArray)
 | 0, _, _ => none
 | k + 1, x3, x4 => if (x3.length : Int) > 0 then ((natural_divideSmall.f k x3 1000000000).bind fun bt397 => (natural_Format.l1 k bt397.1 x4 bt397.2 0)) else ((slices_Reverse_byte_byte.f k x4).bind fun t395 => ((strings_TrimLeft.f k (strOfNums t395) (⟨#[48]⟩ : ByteArray)).bind fun t396 => (some t396)))
def natural_Format.l1 : Nat → List Int → List Int → Int → Int → Option (ByteArray)
 | 0, _, _, _, _ => none
 | k + 1, x3, x4, x5, x19 => if x19 < 9 then (if x4.length < 140737488355328 then (natural_Format.l1 k x3 (x4 ++ [(48 + (Int.tmod x5 10)) % 256]) ((Int.tdiv x5 10) % 4294967296) (wrap64 (x19 + 1))) else (none)) else (natural_Format.l0 k x3 x4)
end
def natural_Format.f (k : Nat) (a0 : ByteArray) : Option (ByteArray) := (natural_parse.f k a0).bind fun t392 => (if (t392.length : Int) = 0 then (some (⟨#[48]⟩ : ByteArray)) else (natural_Format.l0 k t392 ([] : List Int)))
theorem natural_Format.mono_l : ∀ k, (∀ y0 y1, LeO (natural_Format.l0 k y0 y1) (natural_Format.l0 (k + 1) y0 y1)) ∧ (∀ y0 y1 y2 y3, LeO (natural_Format.l1 k y0 y1 y2 y3) (natural_Format.l1 (k + 1) y0 y1 y2 y3))
 | 0 => ⟨fun _ _ r h => by simp [natural_Format.l0] at h, fun _ _ _ _ r h => by simp [natural_Format.l1] at h⟩
 | k + 1 => by
  obtain ⟨ih0, ih1⟩ := natural_Format.mono_l k
  refine ⟨?_, ?_⟩
  ·intro y0 y1
   unfold natural_Format.l0
   repeat' with_reducible first | exact ih0 _ _ | exact ih1 _ _ _ _ | exact natural_divideSmall.mono _ _ _ | exact natural_parse.mono _ _ | exact slices_Reverse_byte_byte.mono _ _ | exact strings_TrimLeft.mono _ _ _ | exact LeO.refl _ | exact LeO.none _ | refine LeO.ite ?_ ?_ | refine LeO.bind ?_ (fun _ => ?_)
  ·intro y0 y1 y2 y3
   unfold natural_Format.l1
   repeat' with_reducible first | exact ih0 _ _ | exact ih1 _ _ _ _ | exact natural_divideSmall.mono _ _ _ | exact natural_parse.mono _ _ | exact slices_Reverse_byte_byte.mono _ _ | exact strings_TrimLeft.mono _ _ _ | exact LeO.refl _ | exact LeO.none _ | refine LeO.ite ?_ ?_ | refine LeO.bind ?_ (fun _ => ?_)
theorem natural_Format.mono : ∀ a0 k, LeO (natural_Format.f k a0) (natural_Format.f (k + 1) a0) := by
 intro a0 k
 obtain ⟨ih0, ih1⟩ := natural_Format.mono_l k
 unfold natural_Format.f
 repeat' with_reducible first | exact ih0 _ _ | exact ih1 _ _ _ _ | exact natural_divideSmall.mono _ _ _ | exact natural_parse.mono _ _ | exact slices_Reverse_byte_byte.mono _ _ | exact strings_TrimLeft.mono _ _ _ | exact LeO.refl _ | exact LeO.none _ | refine LeO.ite ?_ ?_ | refine LeO.bind ?_ (fun _ => ?_)
set_option maxHeartbeats 8000000 in
set_option maxRecDepth 100000 in
theorem natural_Format.calls (k : Nat) (a0 : ByteArray) (r : ByteArray) (w : World) (h : natural_Format.f k a0 = some r) :
  Calls Tryd.prog 50 #[.string a0] w fun e w' => e = .returned (.string r) ∧ Below w.heap.size w w' := by
 have HB := Aside0.mk (Below.refl w.heap.size w)
 have H := h
 clear h
 unfold natural_Format.f at H
 obtain ⟨t392, A2, H⟩ := bs1 H
 by_cases c3 : (t392.length : Int) = 0
 ·rw [if_pos c3] at H
  have c3b0 := beq_iff_eq.mpr c3
  have c3b1 := bne_eq_false_iff_eq.mpr c3
  clear c3
  obtain rfl := Option.some.inj H
  go_enter Tryd.func50, Tryd.ntmps50
  go_wp2_with (first | ((with_reducible refine gc 54 rfl ?_); refine gl (some 7) Tryd.func54 #[.string a0] ?_; (with_reducible refine (natural_parse.calls k a0 t392 _ A2.out).mono ?_); rintro e w4 ⟨v393, rfl, ho0, hb⟩; refine ⟨_, rfl, ?_⟩; have HO394 := Aside0.mk (Kd.V_lower (Kd.V_mono (ok' := fun k_ => True) ho0 (fun k_ hk_ => trivial)) (sz HB.out)); replace HB := Aside0.mk (bs HB.out hb); (try clear hb ho0); obtain ⟨Ao5, co5, rfl⟩ := Kd.V_slice HO394.out))
  go_ret
  exact ⟨fe, bz HB.out⟩
 ·rw [if_neg c3] at H
  have c3b0 := beq_eq_false_iff_ne.mpr c3
  have c3b1 := bne_iff_ne.mpr c3
  have c3b2 : ¬ (t392 = []) := fun h_ => c3 (by rw [h_]; rfl)
  have H' := Aside0.mk H
  clear H
  go_enter Tryd.func50, Tryd.ntmps50
  go_wp2_with (first | ((with_reducible refine gc 54 rfl ?_); refine gl (some 7) Tryd.func54 #[.string a0] ?_; (with_reducible refine (natural_parse.calls k a0 t392 _ A2.out).mono ?_); rintro e w6 ⟨v393, rfl, ho0, hb⟩; refine ⟨_, rfl, ?_⟩; have HO394 := Aside0.mk (Kd.V_lower (Kd.V_mono (ok' := fun k_ => True) ho0 (fun k_ hk_ => trivial)) (sz HB.out)); replace HB := Aside0.mk (bs HB.out hb); (try clear hb ho0); obtain ⟨Ao7, co7, rfl⟩ := Kd.V_slice HO394.out))
  go_loopg [3, 4] k (fun kq v3 v4 w' => ∃ (x3_1 : List Int) (x4_1 : List Int), Aside0 (natural_Format.l0 kq x3_1 x4_1 = some r) ∧ Aside0 (kq ≤ k) ∧ Aside0 (Kd.V (Kd.int .u32) 72 w' w.heap.size (fun k_ => some k_ ≠ (v4 : Value).ownBlock) v3 x3_1) ∧ Aside0 (Kd.R (Kd.int .u8) 5 w' w.heap.size (fun _ => True) v4 x4_1) ∧ Aside0 (Below w.heap.size w w'))
  case atStart => exact ⟨(t392), (([] : List Int)), H', ⟨Nat.le_refl _⟩, ⟨vm HO394.out (fun _ hk => (by simp [Value.ownBlock]))⟩, ⟨by first | exact Kd.R_nil _ _ _ _ _ | exact Kd.N_nil _ _ _ _ _ | exact Kd.V_nil _ _ _ _ _ | exact Kd.Q_nil _ _ _ _ _ | exact Kd.S_nil _ _ _ _ _⟩, ⟨bz HB.out⟩⟩
  case round =>
   clear H'
   (try clear c3b0); (try clear c3b1); (try clear c3b2)
   obtain ⟨x3_1, x4_1, HA, HK1, HO_3, HO_4, HB⟩ := hrel
   cases gk with
   | zero => exact absurd HA.out (by simp [natural_Format.l0])
   | succ k1 =>
    have H := HA.out
    clear HA
    simp only [natural_Format.l0] at H
    by_cases c8 : (x3_1.length : Int) > 0
    ·rw [if_pos c8] at H
     have c8b0 : decide (0 < (x3_1.length : Int)) = true := decide_eq_true c8
     have c8b1 : decide (0 < x3_1.length) = true := decide_eq_true (by omega)
     clear c8
     obtain ⟨⟨t397, t400⟩, A9, H⟩ := bs1 H; dsimp only at H
     have H' := Aside0.mk H
     clear H
     obtain ⟨Ao10, co10, rfl⟩ := Kd.V_slice HO_3.out
     go_wp2_with (first | ((with_reducible refine gc 68 rfl ?_); refine gl (some 16) Tryd.func68 #[.slice Ao10 x3_1.length co10, .int .u32 1000000000] ?_; (with_reducible refine (natural_divideSmall.calls k1 _ _ x3_1 1000000000 t397 t400 _ ?side1 ?side2 A9.out).mono ?_); (case side1 => exact vs (Kd.V_reads' HO_3.out).2.2); (case side2 => exact (Kd.V_reads' HO_3.out).2.1); rintro e w11 ⟨v398, rfl, ho0, hb⟩; refine ⟨_, rfl, ?_⟩; replace HO_3 := Aside0.mk (vb HO_3.out hb); have HO399 := Aside0.mk (Kd.V_lower (Kd.V_mono (ok' := fun k_ => some k_ ≠ (u4 : Value).ownBlock) ho0 (fun k_ hk_ => (Kd.fresh' (Kd.R_lt (vs HO_4.out)) k_ hk_))) (sz HB.out)); replace HO_4 := Aside0.mk (rb HO_4.out hb); replace HB := Aside0.mk (bs HB.out hb); (try clear hb ho0)))
     go_loopg [4, 5, 19] k1 (fun kq v4 v5 v19 w' => ∃ (x4_2 : List Int) (x5_2 : Int) (x19_2 : Int), v5 = .int .u32 x5_2 ∧ v19 = .int .i64 x19_2 ∧ Aside0 (natural_Format.l1 kq t397 x4_2 x5_2 x19_2 = some r) ∧ Aside0 (kq ≤ k1) ∧ Aside0 (Kd.V (Kd.int .u32) 72 w' w.heap.size (fun k_ => some k_ ≠ (v4 : Value).ownBlock) v398 t397) ∧ Aside0 (Kd.R (Kd.int .u8) 5 w' w.heap.size (fun _ => True) v4 x4_2) ∧ Aside0 (Below w.heap.size w w'))
     case atStart => exact ⟨(x4_1), (t400), (0), fs, fs, H', ⟨Nat.le_refl _⟩, ⟨vs HO399.out⟩, ⟨vs HO_4.out⟩, ⟨bz HB.out⟩⟩
     case round =>
      clear H'
      (try clear c3b0); (try clear c3b1); (try clear c3b2); (try clear c8b0); (try clear c8b1)
      obtain ⟨x4_2, x5_2, x19_2, rfl, rfl, HA, HK2, HO_3, HO_4, HB⟩ := hrel
      cases gk with
      | zero => exact absurd HA.out (by simp [natural_Format.l1])
      | succ k2 =>
       have H := HA.out
       clear HA
       simp only [natural_Format.l1] at H
       by_cases c12 : x19_2 < 9
       ·rw [if_pos c12] at H
        have c12b0 : decide (x19_2 < 9) = true := decide_eq_true c12
        clear c12
        obtain ⟨c13, H⟩ := iN H
        have LMc13 := Aside0.mk c13
        clear c13
        obtain ⟨y401, hy401⟩ : ∃ y_ : List Int, y_ = (x4_2 ++ [(48 + (Int.tmod x5_2 10)) % 256]) := ⟨_, rfl⟩
        (try first | rw [← hy401] at H | (dsimp only at H; rw [← hy401] at H)); (try rw [Option.bind_some] at H)
        have Ny401 := Aside0.mk hy401
        clear hy401
        have H' := Aside0.mk H
        clear H
        go_wp2_with (first | ((with_reducible refine gate_builtin (b := .append) (xs := #[.tmp 21, .tmp 26]) rfl ?_); at_builtin; refine Kd.R_append (Kd.int .u8) (w0 := w) w.heap.size rfl (.tmp 21) (.tmp 26) 82 5 (.int .u8 0) 1 rfl Tryd.underlying82 info5 rfl (by decide) (by omega) u4 x4_2 ((48 + (Int.tmod x5_2 10)) % 256) [.int .u8 ((48 + (Int.tmod x5_2 10)) % 256)] (fun _ => True) (fun _ => False) rfl rfl ?aP (fun _ hk => hk.elim) ?aF ?aO ?aB ?aS ?aL ?_; (case aP => exact rfl); (case aB => exact (bz HB.out)); (case aF => exact (fun _ _ => trivial)); (case aO => exact (vs HO_4.out)); (case aS => exact (sz HB.out)); (case aL => have := LMc13.out; omega); intro v402 w14 ho hb hg hat; rw [← Ny401.out] at ho; replace HO_3 := Aside0.mk (Kd.V_afterv (ok := (fun _ => True)) (vm HO_3.out (fun _ hk => ⟨trivial, hk⟩)) hg hat); replace HB := Aside0.mk (hb); have HO403 := Aside0.mk (ho); clear HO_4; clear ho hb hg hat))
        go_roundg k2
        case measure => have := HK1.out; have := HK2.out; omega
        case rel => exact ⟨(y401), ((Int.tdiv x5_2 10) % 4294967296), (wrap64 (x19_2 + 1)), fs, fs, H', ⟨by have := HK1.out; have := HK2.out; omega⟩, ⟨vm HO_3.out (fun _ hk => hk.2)⟩, ⟨vs HO403.out⟩, ⟨bz HB.out⟩⟩
       ·rw [if_neg c12] at H
        have c12b0 : decide (x19_2 < 9) = false := decide_eq_false c12
        clear c12
        have H' := Aside0.mk H
        clear H
        go_wp2
        go_roundg k2
        case measure => have := HK1.out; have := HK2.out; omega
        case rel => exact ⟨(t397), (x4_2), H', ⟨by have := HK1.out; have := HK2.out; omega⟩, ⟨vs HO_3.out⟩, ⟨vs HO_4.out⟩, ⟨bz HB.out⟩⟩
    ·rw [if_neg c8] at H
     have c8b0 : decide (0 < (x3_1.length : Int)) = false := decide_eq_false c8
     have c8b1 : decide (0 < x3_1.length) = false := decide_eq_false (by omega)
     clear c8
     obtain ⟨t395, A15, H⟩ := bs1 H
     obtain ⟨t396, A16, H⟩ := bs1 H
     obtain rfl := Option.some.inj H
     obtain ⟨Ao17, co17, rfl⟩ := Kd.V_slice HO_3.out
     obtain ⟨Ao18, co18, eo18⟩ := Kd.R_slice HO_4.out
     subst eo18
     go_wp2_with (first | ((with_reducible refine gc 69 rfl ?_); refine gl (some 32) Tryd.func69 #[.slice Ao18 x4_1.length co18] ?_; (with_reducible refine (slices_Reverse_byte_byte.calls k1 (fun k_ => some k_ = (.slice Ao18 x4_1.length co18 : Value).ownBlock) (.slice Ao18 x4_1.length co18) x4_1 t395 w _ ?side1 ?side2 A15.out).mono ?_); (case side1 => repeat (first | (with_reducible first | exact HB.out | apply below_alloc | apply pw_below_drewN | apply below_drew1) | exact HB.out)); (case side2 => exact Kd.R_tight rfl HO_4.out); rintro e w19 ⟨rfl, hy0, hb, hkp⟩; refine ⟨_, rfl, ?_⟩; replace HO_3 := Aside0.mk (Kd.V_mono (ok' := fun k_ => some k_ ≠ (.slice Ao18 x4_1.length co18 : Value).ownBlock) (Kd.V_keptB (HO_3.out) hkp (fun k_ hk_ hs_ => (hk_) hs_)) (fun k_ hk_ => hk_.1)); replace HO_4 := Aside0.mk (Kd.R_reok rfl hy0 (fun k_ e_ => HO_4.out.1 k_ e_)); replace HB := Aside0.mk (hb); (try clear hb hkp hy0); have hcv20 := own_string (P := Tryd.prog) Tryd.underlying82 Tryd.underlying5 Tryd.underlying9 (Kd.own_of_R HO_4.out)) | ((with_reducible refine gc 53 rfl ?_); refine gl (some 35) Tryd.func53 #[.string (strOfNums t395), .string (⟨#[48]⟩ : ByteArray)] ?_; (with_reducible refine (strings_TrimLeft.calls k1 (strOfNums t395) (⟨#[48]⟩ : ByteArray) t396 _ A16.out).mono ?_); rintro e w21 ⟨rfl, hb⟩; refine ⟨_, rfl, ?_⟩; replace HO_3 := Aside0.mk (vb HO_3.out hb); replace HO_4 := Aside0.mk (rb HO_4.out hb); replace HB := Aside0.mk (bs HB.out hb); (try clear hb)))
     go_ret
     exact ⟨fe, bz HB.out⟩

/-! ### rational_Format: function 23 -/
def rational_Format.f (k : Nat) (a0_0 : Bool) (a0_1 : ByteArray) (a0_2 : ByteArray) : Option (ByteArray) := (rational_clean.f k a0_0 a0_1 a0_2).bind fun bt405 => ((natural_Format.f k bt405.2.1).bind fun t408 => (if bt405.1 = true then (if 1 + t408.size ≤ 9223372036854775807 then (if bt405.2.2.toList = ([] : List UInt8) then (some ((⟨#[45]⟩ : ByteArray) ++ t408)) else ((natural_Format.f k bt405.2.2).bind fun t409 => (if 1 + t409.size ≤ 9223372036854775807 then (if ((⟨#[45]⟩ : ByteArray) ++ t408).size + ((⟨#[47]⟩ : ByteArray) ++ t409).size ≤ 9223372036854775807 then (some (((⟨#[45]⟩ : ByteArray) ++ t408) ++ ((⟨#[47]⟩ : ByteArray) ++ t409))) else (none)) else (none)))) else (none)) else (if bt405.2.2.toList = ([] : List UInt8) then (some t408) else ((natural_Format.f k bt405.2.2).bind fun t410 => (if 1 + t410.size ≤ 9223372036854775807 then (if t408.size + ((⟨#[47]⟩ : ByteArray) ++ t410).size ≤ 9223372036854775807 then (some (t408 ++ ((⟨#[47]⟩ : ByteArray) ++ t410))) else (none)) else (none))))))
theorem rational_Format.mono : ∀ a0 a1 a2 k, LeO (rational_Format.f k a0 a1 a2) (rational_Format.f (k + 1) a0 a1 a2) := by
 intro a0 a1 a2 k
 unfold rational_Format.f
 repeat' with_reducible first | exact natural_Format.mono _ _ | exact rational_clean.mono _ _ _ _ | exact LeO.refl _ | exact LeO.none _ | refine LeO.ite ?_ ?_ | refine LeO.bind ?_ (fun _ => ?_)
set_option maxHeartbeats 8000000 in
set_option maxRecDepth 100000 in
theorem rational_Format.calls (k : Nat) (a0_0 : Bool) (a0_1 : ByteArray) (a0_2 : ByteArray) (r : ByteArray) (w : World) (h : rational_Format.f k a0_0 a0_1 a0_2 = some r) :
  Calls Tryd.prog 23 #[.agg #[.bool a0_0, .string a0_1, .string a0_2]] w fun e w' => e = .returned (.string r) ∧ Below w.heap.size w w' := by
 have hu23 := Tryd.underlying23
 have HB := Aside0.mk (Below.refl w.heap.size w)
 have H := h
 clear h
 unfold rational_Format.f at H
 obtain ⟨⟨t405, t406, t407⟩, A2, H⟩ := bs1 H; dsimp only at H
 obtain ⟨t408, A3, H⟩ := bs1 H
 by_cases c4 : t405 = true
 ·subst c4
  have H1 : (if 1 + t408.size ≤ 9223372036854775807 then (if t407.toList = ([] : List UInt8) then (some ((⟨#[45]⟩ : ByteArray) ++ t408)) else ((natural_Format.f k t407).bind fun t409 => (if 1 + t409.size ≤ 9223372036854775807 then (if ((⟨#[45]⟩ : ByteArray) ++ t408).size + ((⟨#[47]⟩ : ByteArray) ++ t409).size ≤ 9223372036854775807 then (some (((⟨#[45]⟩ : ByteArray) ++ t408) ++ ((⟨#[47]⟩ : ByteArray) ++ t409))) else (none)) else (none)))) else (none)) = some r := by rw [if_pos rfl] at H; exact H
  clear H
  have H := H1
  clear H1
  obtain ⟨c5, H⟩ := iN H
  have c5b0 := eq_true c5
  have c5b1 : decide (1 + t408.size ≤ 9223372036854775807) = true := decide_eq_true c5
  try have c5b2 : (9223372036854775807 < 1 + t408.size) = False := eq_false (Nat.not_lt.2 c5)
  by_cases c6 : t407.toList = ([] : List UInt8)
  ·rw [if_pos c6] at H
   have c6b0 := beq_iff_eq.mpr c6
   have c6b1 := bne_eq_false_iff_eq.mpr c6
   clear c6
   obtain rfl := Option.some.inj H
   go_enter Tryd.func23, Tryd.ntmps23
   go_wp2_with (first | ((with_reducible refine gd 1 rfl ?_); refine bx 1 (#[.bool a0_0, .string a0_1, .string a0_2]) 23 ?_; intro gb404 hg w7 hbox hb; have BK404 := Aside0.mk (hbox); have GW404 := sg hg HB.out; have GE404 := sg hg HB.out; replace HB := Aside0.mk (bs HB.out hb); clear hb hbox hg; obtain ⟨hcz8_0, hcz8_1, hcz8_2, hfz8_0, hfz8_1, hfz8_2⟩ := c3 BK404.out) | ((with_reducible refine gc 34 rfl ?_); refine gl (some 5) Tryd.func34 #[.agg #[.bool a0_0, .string a0_1, .string a0_2]] ?_; (with_reducible refine (rational_clean.calls k a0_0 a0_1 a0_2 true t406 t407 _ A2.out).mono ?_); rintro e w9 ⟨rfl, hb⟩; refine ⟨_, rfl, ?_⟩; replace BK404 := Aside0.mk (bk0 BK404.out hb); replace HB := Aside0.mk (bs HB.out hb); (try clear hb); obtain ⟨hcz10_0, hcz10_1, hcz10_2, hfz10_0, hfz10_1, hfz10_2⟩ := c3 BK404.out) | ((with_reducible refine gc 50 rfl ?_); refine gl (some 8) Tryd.func50 #[.string t406] ?_; (with_reducible refine (natural_Format.calls k t406 t408 _ A3.out).mono ?_); rintro e w11 ⟨rfl, hb⟩; refine ⟨_, rfl, ?_⟩; replace BK404 := Aside0.mk (bk BK404.out hb (.cells #[.bool true, .string t406, .string t407] 23 (0, 0))); replace HB := Aside0.mk (bs HB.out hb); (try clear hb); obtain ⟨hcz12_0, hcz12_1, hcz12_2, hfz12_0, hfz12_1, hfz12_2⟩ := c3 BK404.out))
   go_ret
   exact ⟨fe, bz HB.out⟩
  ·rw [if_neg c6] at H
   have c6b0 := beq_eq_false_iff_ne.mpr c6
   have c6b1 := bne_iff_ne.mpr c6
   obtain ⟨t409, A13, H⟩ := bs1 H
   obtain ⟨c14, H⟩ := iN H
   have c14b0 := eq_true c14
   have c14b1 : decide (1 + t409.size ≤ 9223372036854775807) = true := decide_eq_true c14
   try have c14b2 : (9223372036854775807 < 1 + t409.size) = False := eq_false (Nat.not_lt.2 c14)
   obtain ⟨c15, H⟩ := iN H
   have c15b0 := eq_true c15
   have c15b1 : decide (((⟨#[45]⟩ : ByteArray) ++ t408).size + ((⟨#[47]⟩ : ByteArray) ++ t409).size ≤ 9223372036854775807) = true := decide_eq_true c15
   try have c15b2 : (9223372036854775807 < ((⟨#[45]⟩ : ByteArray) ++ t408).size + ((⟨#[47]⟩ : ByteArray) ++ t409).size) = False := eq_false (Nat.not_lt.2 c15)
   obtain rfl := Option.some.inj H
   go_enter Tryd.func23, Tryd.ntmps23
   go_wp2_with (first | ((with_reducible refine gd 1 rfl ?_); refine bx 1 (#[.bool a0_0, .string a0_1, .string a0_2]) 23 ?_; intro gb404 hg w16 hbox hb; have BK404 := Aside0.mk (hbox); have GW404 := sg hg HB.out; have GE404 := sg hg HB.out; replace HB := Aside0.mk (bs HB.out hb); clear hb hbox hg; obtain ⟨hcz17_0, hcz17_1, hcz17_2, hfz17_0, hfz17_1, hfz17_2⟩ := c3 BK404.out) | ((with_reducible refine gc 34 rfl ?_); refine gl (some 5) Tryd.func34 #[.agg #[.bool a0_0, .string a0_1, .string a0_2]] ?_; (with_reducible refine (rational_clean.calls k a0_0 a0_1 a0_2 true t406 t407 _ A2.out).mono ?_); rintro e w18 ⟨rfl, hb⟩; refine ⟨_, rfl, ?_⟩; replace BK404 := Aside0.mk (bk0 BK404.out hb); replace HB := Aside0.mk (bs HB.out hb); (try clear hb); obtain ⟨hcz19_0, hcz19_1, hcz19_2, hfz19_0, hfz19_1, hfz19_2⟩ := c3 BK404.out) | ((with_reducible refine gc 50 rfl ?_); refine gl (some 8) Tryd.func50 #[.string t406] ?_; (with_reducible refine (natural_Format.calls k t406 t408 _ A3.out).mono ?_); rintro e w20 ⟨rfl, hb⟩; refine ⟨_, rfl, ?_⟩; replace BK404 := Aside0.mk (bk BK404.out hb (.cells #[.bool true, .string t406, .string t407] 23 (0, 0))); replace HB := Aside0.mk (bs HB.out hb); (try clear hb); obtain ⟨hcz21_0, hcz21_1, hcz21_2, hfz21_0, hfz21_1, hfz21_2⟩ := c3 BK404.out) | ((with_reducible refine gc 50 rfl ?_); refine gl (some 19) Tryd.func50 #[.string t407] ?_; (with_reducible refine (natural_Format.calls k t407 t409 _ A13.out).mono ?_); rintro e w22 ⟨rfl, hb⟩; refine ⟨_, rfl, ?_⟩; replace BK404 := Aside0.mk (bk0 BK404.out hb); replace HB := Aside0.mk (bs HB.out hb); (try clear hb)))
   go_ret
   exact ⟨fe, bz HB.out⟩
 ·replace c4 := Bool.eq_false_iff.mpr c4
  subst c4
  have H1 : (if t407.toList = ([] : List UInt8) then (some t408) else ((natural_Format.f k t407).bind fun t410 => (if 1 + t410.size ≤ 9223372036854775807 then (if t408.size + ((⟨#[47]⟩ : ByteArray) ++ t410).size ≤ 9223372036854775807 then (some (t408 ++ ((⟨#[47]⟩ : ByteArray) ++ t410))) else (none)) else (none)))) = some r := by rw [if_neg (show ¬ (false = true) by decide)] at H; exact H
  clear H
  have H := H1
  clear H1
  by_cases c23 : t407.toList = ([] : List UInt8)
  ·rw [if_pos c23] at H
   have c23b0 := beq_iff_eq.mpr c23
   have c23b1 := bne_eq_false_iff_eq.mpr c23
   clear c23
   obtain rfl := Option.some.inj H
   go_enter Tryd.func23, Tryd.ntmps23
   go_wp2_with (first | ((with_reducible refine gd 1 rfl ?_); refine bx 1 (#[.bool a0_0, .string a0_1, .string a0_2]) 23 ?_; intro gb404 hg w24 hbox hb; have BK404 := Aside0.mk (hbox); have GW404 := sg hg HB.out; have GE404 := sg hg HB.out; replace HB := Aside0.mk (bs HB.out hb); clear hb hbox hg; obtain ⟨hcz25_0, hcz25_1, hcz25_2, hfz25_0, hfz25_1, hfz25_2⟩ := c3 BK404.out) | ((with_reducible refine gc 34 rfl ?_); refine gl (some 5) Tryd.func34 #[.agg #[.bool a0_0, .string a0_1, .string a0_2]] ?_; (with_reducible refine (rational_clean.calls k a0_0 a0_1 a0_2 false t406 t407 _ A2.out).mono ?_); rintro e w26 ⟨rfl, hb⟩; refine ⟨_, rfl, ?_⟩; replace BK404 := Aside0.mk (bk0 BK404.out hb); replace HB := Aside0.mk (bs HB.out hb); (try clear hb); obtain ⟨hcz27_0, hcz27_1, hcz27_2, hfz27_0, hfz27_1, hfz27_2⟩ := c3 BK404.out) | ((with_reducible refine gc 50 rfl ?_); refine gl (some 8) Tryd.func50 #[.string t406] ?_; (with_reducible refine (natural_Format.calls k t406 t408 _ A3.out).mono ?_); rintro e w28 ⟨rfl, hb⟩; refine ⟨_, rfl, ?_⟩; replace BK404 := Aside0.mk (bk BK404.out hb (.cells #[.bool false, .string t406, .string t407] 23 (0, 0))); replace HB := Aside0.mk (bs HB.out hb); (try clear hb); obtain ⟨hcz29_0, hcz29_1, hcz29_2, hfz29_0, hfz29_1, hfz29_2⟩ := c3 BK404.out))
   go_ret
   exact ⟨fe, bz HB.out⟩
  ·rw [if_neg c23] at H
   have c23b0 := beq_eq_false_iff_ne.mpr c23
   have c23b1 := bne_iff_ne.mpr c23
   obtain ⟨t410, A30, H⟩ := bs1 H
   obtain ⟨c31, H⟩ := iN H
   have c31b0 := eq_true c31
   have c31b1 : decide (1 + t410.size ≤ 9223372036854775807) = true := decide_eq_true c31
   try have c31b2 : (9223372036854775807 < 1 + t410.size) = False := eq_false (Nat.not_lt.2 c31)
   obtain ⟨c32, H⟩ := iN H
   have c32b0 := eq_true c32
   have c32b1 : decide (t408.size + ((⟨#[47]⟩ : ByteArray) ++ t410).size ≤ 9223372036854775807) = true := decide_eq_true c32
   try have c32b2 : (9223372036854775807 < t408.size + ((⟨#[47]⟩ : ByteArray) ++ t410).size) = False := eq_false (Nat.not_lt.2 c32)
   obtain rfl := Option.some.inj H
   go_enter Tryd.func23, Tryd.ntmps23
   go_wp2_with (first | ((with_reducible refine gd 1 rfl ?_); refine bx 1 (#[.bool a0_0, .string a0_1, .string a0_2]) 23 ?_; intro gb404 hg w33 hbox hb; have BK404 := Aside0.mk (hbox); have GW404 := sg hg HB.out; have GE404 := sg hg HB.out; replace HB := Aside0.mk (bs HB.out hb); clear hb hbox hg; obtain ⟨hcz34_0, hcz34_1, hcz34_2, hfz34_0, hfz34_1, hfz34_2⟩ := c3 BK404.out) | ((with_reducible refine gc 34 rfl ?_); refine gl (some 5) Tryd.func34 #[.agg #[.bool a0_0, .string a0_1, .string a0_2]] ?_; (with_reducible refine (rational_clean.calls k a0_0 a0_1 a0_2 false t406 t407 _ A2.out).mono ?_); rintro e w35 ⟨rfl, hb⟩; refine ⟨_, rfl, ?_⟩; replace BK404 := Aside0.mk (bk0 BK404.out hb); replace HB := Aside0.mk (bs HB.out hb); (try clear hb); obtain ⟨hcz36_0, hcz36_1, hcz36_2, hfz36_0, hfz36_1, hfz36_2⟩ := c3 BK404.out) | ((with_reducible refine gc 50 rfl ?_); refine gl (some 8) Tryd.func50 #[.string t406] ?_; (with_reducible refine (natural_Format.calls k t406 t408 _ A3.out).mono ?_); rintro e w37 ⟨rfl, hb⟩; refine ⟨_, rfl, ?_⟩; replace BK404 := Aside0.mk (bk BK404.out hb (.cells #[.bool false, .string t406, .string t407] 23 (0, 0))); replace HB := Aside0.mk (bs HB.out hb); (try clear hb); obtain ⟨hcz38_0, hcz38_1, hcz38_2, hfz38_0, hfz38_1, hfz38_2⟩ := c3 BK404.out) | ((with_reducible refine gc 50 rfl ?_); refine gl (some 19) Tryd.func50 #[.string t407] ?_; (with_reducible refine (natural_Format.calls k t407 t410 _ A30.out).mono ?_); rintro e w39 ⟨rfl, hb⟩; refine ⟨_, rfl, ?_⟩; replace BK404 := Aside0.mk (bk0 BK404.out hb); replace HB := Aside0.mk (bs HB.out hb); (try clear hb)))
   go_ret
   exact ⟨fe, bz HB.out⟩

/-! ### rational_den: function 41 -/
def rational_den.f (a0_0 : Bool) (a0_1 : ByteArray) (a0_2 : ByteArray) : Option (ByteArray) := if a0_2.toList = ([] : List UInt8) then (some (⟨#[1]⟩ : ByteArray)) else (some a0_2)
set_option maxHeartbeats 8000000 in
set_option maxRecDepth 100000 in
theorem rational_den.calls (a0_0 : Bool) (a0_1 : ByteArray) (a0_2 : ByteArray) (r : ByteArray) (w : World) (h : rational_den.f a0_0 a0_1 a0_2 = some r) :
  Calls Tryd.prog 41 #[.agg #[.bool a0_0, .string a0_1, .string a0_2]] w fun e w' => e = .returned (.string r) ∧ Below w.heap.size w w' := by
 have hu23 := Tryd.underlying23
 have HB := Aside0.mk (Below.refl w.heap.size w)
 have H := h
 clear h
 unfold rational_den.f at H
 by_cases c2 : a0_2.toList = ([] : List UInt8)
 ·rw [if_pos c2] at H
  have c2b0 := beq_iff_eq.mpr c2
  have c2b1 := bne_eq_false_iff_eq.mpr c2
  clear c2
  obtain rfl := Option.some.inj H
  go_enter Tryd.func41, Tryd.ntmps41
  go_wp2_with (first | ((with_reducible refine gd 1 rfl ?_); refine bx 1 (#[.bool a0_0, .string a0_1, .string a0_2]) 23 ?_; intro gb411 hg w3 hbox hb; have BK411 := Aside0.mk (hbox); have GW411 := sg hg HB.out; have GE411 := sg hg HB.out; replace HB := Aside0.mk (bs HB.out hb); clear hb hbox hg; obtain ⟨hcz4_0, hcz4_1, hcz4_2, hfz4_0, hfz4_1, hfz4_2⟩ := c3 BK411.out))
  go_ret
  exact ⟨fe, bz HB.out⟩
 ·rw [if_neg c2] at H
  have c2b0 := beq_eq_false_iff_ne.mpr c2
  have c2b1 := bne_iff_ne.mpr c2
  obtain rfl := Option.some.inj H
  go_enter Tryd.func41, Tryd.ntmps41
  go_wp2_with (first | ((with_reducible refine gd 1 rfl ?_); refine bx 1 (#[.bool a0_0, .string a0_1, .string a0_2]) 23 ?_; intro gb411 hg w5 hbox hb; have BK411 := Aside0.mk (hbox); have GW411 := sg hg HB.out; have GE411 := sg hg HB.out; replace HB := Aside0.mk (bs HB.out hb); clear hb hbox hg; obtain ⟨hcz6_0, hcz6_1, hcz6_2, hfz6_0, hfz6_1, hfz6_2⟩ := c3 BK411.out))
  go_ret
  exact ⟨fe, bz HB.out⟩

/-! ### rational_Floor: function 24 -/
def rational_Floor.j0 : Nat → ByteArray → Bool → Bool → ByteArray → ByteArray → Option (Bool × ByteArray × ByteArray)
 | 0, _, _, _, _, _ => none
 | k + 1, x3, x22, x413000, x413001, x413002 => if x22 = true then ((natural_Add.f k x3 (⟨#[1]⟩ : ByteArray)).bind fun t421 => ((rational_reduced.f k x413000 t421 (⟨#[1]⟩ : ByteArray)).bind fun bt422 => (some (bt422.1, bt422.2.1, bt422.2.2)))) else ((rational_reduced.f k x413000 x3 (⟨#[1]⟩ : ByteArray)).bind fun bt425 => (some (bt425.1, bt425.2.1, bt425.2.2)))
def rational_Floor.f (k : Nat) (a0_0 : Bool) (a0_1 : ByteArray) (a0_2 : ByteArray) : Option (Bool × ByteArray × ByteArray) := (rational_clean.f k a0_0 a0_1 a0_2).bind fun bt414 => ((rational_den.f bt414.1 bt414.2.1 bt414.2.2).bind fun t417 => ((natural_Divide.f k bt414.2.1 t417).bind fun bt418 => (if bt414.1 = true then (rational_Floor.j0 k bt418.1 (bt418.2.1.toList != ([] : List UInt8)) bt414.1 bt414.2.1 bt414.2.2) else (rational_Floor.j0 k bt418.1 false bt414.1 bt414.2.1 bt414.2.2))))
theorem rational_Floor.mono_l : ∀ k, (∀ y0 y1 y2 y3 y4, LeO (rational_Floor.j0 k y0 y1 y2 y3 y4) (rational_Floor.j0 (k + 1) y0 y1 y2 y3 y4))
 | 0 => fun _ _ _ _ _ r h => by simp [rational_Floor.j0] at h
 | k + 1 => by
  have ih0 := rational_Floor.mono_l k
  ·intro y0 y1 y2 y3 y4
   unfold rational_Floor.j0
   repeat' with_reducible first | exact ih0 _ _ _ _ _ | exact natural_Add.mono _ _ _ | exact natural_Divide.mono _ _ _ | exact rational_clean.mono _ _ _ _ | exact rational_reduced.mono _ _ _ _ | exact LeO.refl _ | exact LeO.none _ | refine LeO.ite ?_ ?_ | refine LeO.bind ?_ (fun _ => ?_)
theorem rational_Floor.mono : ∀ a0 a1 a2 k, LeO (rational_Floor.f k a0 a1 a2) (rational_Floor.f (k + 1) a0 a1 a2) := by
 intro a0 a1 a2 k
 have ih0 := rational_Floor.mono_l k
 unfold rational_Floor.f
 repeat' with_reducible first | exact ih0 _ _ _ _ _ | exact natural_Add.mono _ _ _ | exact natural_Divide.mono _ _ _ | exact rational_clean.mono _ _ _ _ | exact rational_reduced.mono _ _ _ _ | exact LeO.refl _ | exact LeO.none _ | refine LeO.ite ?_ ?_ | refine LeO.bind ?_ (fun _ => ?_)
def rational_Floor.T2 : Bool × List (List Nat × List Nat) := (true, [([], []), ([0], [0]), ([], []), ([2], [2]), ([1, 3, 3], [1, 3]), ([4], [4]), ([5], [5]), ([5], [5]), ([5], [5]), ([6, 4, 0, 1, 2, 3, 4, 5, 6], [6]), ([7, 9, 0, 1, 2, 3, 4, 5, 6, 7, 9], [7]), ([8, 10, 0, 1, 2, 3, 4, 5, 6, 7, 8, 9, 10], [8])])
def rational_Floor.B2 : List Nat := [0, 1, 0, 4, 15, 31, 63, 63, 63, 127, 767, 2047]
theorem rational_Floor.tab2 : rtab .any (opsOf Tryd.f24 2) = rational_Floor.T2 := by kernel_rfl
theorem rational_Floor.bits2 : waitsOk rational_Floor.T2.2 rational_Floor.B2 = true := by kernel_rfl
set_option maxHeartbeats 8000000 in
set_option maxRecDepth 100000 in
theorem rational_Floor.calls (k : Nat) (a0_0 : Bool) (a0_1 : ByteArray) (a0_2 : ByteArray) (r1 : Bool) (r2 : ByteArray) (r3 : ByteArray) (w : World) (h : rational_Floor.f k a0_0 a0_1 a0_2 = some (r1, r2, r3)) :
  Calls Tryd.prog 24 #[.agg #[.bool a0_0, .string a0_1, .string a0_2]] w fun e w' => e = .returned (.agg #[.bool r1, .string r2, .string r3]) ∧ Below w.heap.size w w' := by
 have hu23 := Tryd.underlying23
 have HB := Aside0.mk (Below.refl w.heap.size w)
 have H := h
 clear h
 unfold rational_Floor.f at H
 obtain ⟨⟨t414, t415, t416⟩, A2, H⟩ := bs1 H; dsimp only at H
 obtain ⟨t417, A3, H⟩ := bs1 H
 obtain ⟨⟨t418, t419, t420⟩, A4, H⟩ := bs1 H; dsimp only at H
 have HC5 := Aside0.mk H
 clear H
 go_enter Tryd.func24, Tryd.ntmps24
 try go_wp2_with (first | ((with_reducible refine gd 1 rfl ?_); refine bx 1 (#[.bool a0_0, .string a0_1, .string a0_2]) 23 ?_; intro gb412 hg w6 hbox hb; have BK412 := Aside0.mk (hbox); have GW412 := sg hg HB.out; have GE412 := sg hg HB.out; replace HB := Aside0.mk (bs HB.out hb); clear hb hbox hg) | ((with_reducible refine gd 2 rfl ?_); refine bx 2 (#[.bool false, .string (⟨#[]⟩ : ByteArray), .string (⟨#[]⟩ : ByteArray)]) 23 ?_; intro gb413 hg w7 hbox hb; have BK413 := Aside0.mk (hbox); have GW413 := sg hg HB.out; have GE413 := sg hg HB.out; replace HB := Aside0.mk (bs HB.out hb); have NB412_413 := nl hg BK412.out; have NB413_412 := nr hg BK412.out; replace BK412 := Aside0.mk (bk0 BK412.out hb); clear hb hbox hg; have hnb8 := NB412_413.out; have hnc8 := NB413_412.out; obtain ⟨hcz9_0, hcz9_1, hcz9_2, hfz9_0, hfz9_1, hfz9_2⟩ := c3 BK412.out) | ((with_reducible refine gc 34 rfl ?_); refine gl (some 7) Tryd.func34 #[.agg #[.bool a0_0, .string a0_1, .string a0_2]] ?_; (with_reducible refine (rational_clean.calls k a0_0 a0_1 a0_2 t414 t415 t416 _ A2.out).mono ?_); rintro e w10 ⟨rfl, hb⟩; refine ⟨_, rfl, ?_⟩; replace BK412 := Aside0.mk (bk0 BK412.out hb); replace BK413 := Aside0.mk (bk0 BK413.out hb); replace HB := Aside0.mk (bs HB.out hb); (try clear hb); obtain ⟨hcz11_0, hcz11_1, hcz11_2, hfz11_0, hfz11_1, hfz11_2⟩ := c3 BK412.out))
 have n0_ : Aside0 ((((w10.setCell ⟨gb412, 0, none⟩ (.bool t414)).setCell ⟨gb412, 1, none⟩ (.string t415)).setCell ⟨gb412, 2, none⟩ (.string t416)).heap[gb412]? = some (.cells #[.bool t414, .string t415, .string t416] 23 (0, 0))) := ⟨bq BK412.out⟩
 have n1_ : Aside0 ((((w10.setCell ⟨gb412, 0, none⟩ (.bool t414)).setCell ⟨gb412, 1, none⟩ (.string t415)).setCell ⟨gb412, 2, none⟩ (.string t416)).heap[gb413]? = some (.cells #[.bool false, .string (⟨#[]⟩ : ByteArray), .string (⟨#[]⟩ : ByteArray)] 23 (0, 0))) := ⟨bq BK413.out⟩
 have n2_ : Aside0 (Below w.heap.size w (((w10.setCell ⟨gb412, 0, none⟩ (.bool t414)).setCell ⟨gb412, 1, none⟩ (.string t415)).setCell ⟨gb412, 2, none⟩ (.string t416))) := ⟨bz HB.out⟩
 (try clear BK412); (try clear BK413); (try clear HB)
 generalize (((w10.setCell ⟨gb412, 0, none⟩ (.bool t414)).setCell ⟨gb412, 1, none⟩ (.string t415)).setCell ⟨gb412, 2, none⟩ (.string t416)) = w12 at n0_ n1_ n2_ ⊢
 have BK412 := n0_
 have BK413 := n1_
 have HB := n2_
 clear n0_ n1_ n2_
 replace BK412 := Aside0.mk (blk_drew BK412.out)
 replace BK413 := Aside0.mk (blk_drew BK413.out)
 replace HB := Aside0.mk (below_drew1 HB.out)
 refine start_ (n := 12) (S := fun w' => w'.cell? ⟨gb412, 0, none⟩ = some (.bool t414) ∧ w'.cell? ⟨gb412, 1, none⟩ = some (.string t415) ∧ w'.cell? ⟨gb412, 2, none⟩ = some (.string t416)) (ds := []) #[false, false, false, false, false, false, false, false, false, false, false, false] (by kernel_rfl) rfl rfl ⟨(blk_cell BK412.out 0).trans rfl, (blk_cell BK412.out 1).trans rfl, (blk_cell BK412.out 2).trans rfl⟩ (fun hHeld => ?_); refine with_tabW rational_Floor.tab2 rational_Floor.bits2 (fun HT_ HW_ => ?_)
 generalize w12.drew = w13 at BK412 BK413 HB hHeld ⊢
 refine py 0 (some 9) #[true, false, false, false, false, false, false, false, false, false, false, false] HT_ ?_
 refine take_ (i := 1) (N := some 10) (v := ?_) (a' := ?_) #[true, true, false, false, false, false, false, false, false, false, false, false] rfl rfl (take_ofW HT_.out HW_.out (by kernel_rfl)) (fun _ _ _ h => h) (Or.inl ⟨by rfl, ?_⟩) hHeld ?_ ?_
 rotate_left
 ·rintro w' ⟨s0, s1, s2⟩
  go_simp
  with_reducible rfl
 rotate_left
 ·simp only [Act.put, List.setIfInBounds_toArray, List.set_cons_zero, List.set_cons_succ, i64_w, i32_w]
  rfl
 refine take_ (i := 2) (N := some 11) (v := ?_) (a' := ?_) #[true, true, true, false, false, false, false, false, false, false, false, false] rfl rfl (take_ofW HT_.out HW_.out (by kernel_rfl)) (fun _ _ _ h => h) (Or.inl ⟨by rfl, ?_⟩) hHeld ?_ ?_
 rotate_left
 ·rintro w' ⟨s0, s1, s2⟩
  go_simp
  with_reducible rfl
 rotate_left
 ·simp only [Act.put, List.setIfInBounds_toArray, List.set_cons_zero, List.set_cons_succ, i64_w, i32_w]
  rfl
 refine one_ (i := 3) (N := some 12) #[true, true, true, true, false, false, false, false, false, false, false, false] rfl rfl (one_of HT_.out (by kernel_rfl)) (by decide) (fun K hK => ?_)
 refine gs Tryd.func41 #[.agg #[.bool t414, .string t415, .string t416]] ?_
 with_reducible refine (rational_den.calls t414 t415 t416 t417 _ A3.out).mono ?_
 rintro e w14 ⟨rfl, hb⟩
 refine ⟨_, rfl, ?_⟩
 replace BK412 := Aside0.mk (bk0 BK412.out hb)
 replace BK413 := Aside0.mk (bk0 BK413.out hb)
 replace HB := Aside0.mk (bs HB.out hb)
 (try clear hb); (try clear hb2); (try clear hk); (try clear hi)
 refine hK.out _ _ ⟨(blk_cell BK412.out 0).trans rfl, (blk_cell BK412.out 1).trans rfl, (blk_cell BK412.out 2).trans rfl⟩ (fun hHeld => ?_)
 clear hK K
 refine nm ?_
 refine one_ (i := 4) (N := some 13) #[true, true, true, true, true, false, false, false, false, false, false, false] rfl rfl (one_of HT_.out (by kernel_rfl)) (by decide) (fun K hK => ?_)
 refine gs Tryd.func51 #[.string t415, .string t417] ?_
 with_reducible refine (natural_Divide.calls k t415 t417 t418 t419 t420 _ A4.out).mono ?_
 rintro e w15 ⟨rfl, hb⟩
 refine ⟨_, rfl, ?_⟩
 replace BK412 := Aside0.mk (bk0 BK412.out hb)
 replace BK413 := Aside0.mk (bk0 BK413.out hb)
 replace HB := Aside0.mk (bs HB.out hb)
 (try clear hb); (try clear hb2); (try clear hk); (try clear hi)
 refine hK.out _ _ ⟨(blk_cell BK412.out 0).trans rfl, (blk_cell BK412.out 1).trans rfl, (blk_cell BK412.out 2).trans rfl⟩ (fun hHeld => ?_)
 clear hK K
 refine nm ?_
 refine py 5 (some 8) #[true, true, true, true, true, true, false, false, false, false, false, false] HT_ ?_
 refine py 6 (some 14) #[true, true, true, true, true, true, true, false, false, false, false, false] HT_ ?_
 refine py 7 (some 15) #[true, true, true, true, true, true, true, true, false, false, false, false] HT_ ?_
 refine py 8 (some 16) #[true, true, true, true, true, true, true, true, true, false, false, false] HT_ ?_
 refine py 9 (some 3) #[true, true, true, true, true, true, true, true, true, true, false, false] HT_ ?_
 refine py 10 (some 4) #[true, true, true, true, true, true, true, true, true, true, true, false] HT_ ?_
 refine py 11 (some 5) #[true, true, true, true, true, true, true, true, true, true, true, true] HT_ ?_
 refine done_ (done_of HT_.out (by kernel_rfl)) ?_
 (try (simp only [Exit.then]; refine (by assumption : ∀ (a : Act) (w : World), Code.wp _ _ _ a w → _) _ _ ?_))
 go_upto_region 3 with (fail)
 go_cut [22] (fun v22 wc => ∃ (kq : Nat) (x22_4 : Bool), v22 = .bool x22_4 ∧ Aside0 (rational_Floor.j0 kq t418 x22_4 t414 t415 t416 = some (r1, r2, r3)) ∧ Aside0 (kq ≤ k) ∧ Aside0 (wc.heap[gb412]? = some (.cells #[.bool t414, .string t415, .string t416] 23 (0, 0))) ∧ Aside0 (wc.heap[gb413]? = some (.cells #[.bool false, .string (⟨#[]⟩ : ByteArray), .string (⟨#[]⟩ : ByteArray)] 23 (0, 0))) ∧ Aside0 (Below w.heap.size w wc))
 case first =>
  have H := HC5.out
  clear HC5
  by_cases c16 : t414 = true
  ·subst c16
   have H1 : (rational_Floor.j0 k t418 (t419.toList != ([] : List UInt8)) true t415 t416) = some (r1, r2, r3) := by rw [if_pos rfl] at H; exact H
   clear H
   have H := H1
   clear H1
   have H' := Aside0.mk H
   clear H
   have hnb17 := NB412_413.out
   have hnc17 := NB413_412.out
   obtain ⟨hcz18_0, hcz18_1, hcz18_2, hfz18_0, hfz18_1, hfz18_2⟩ := c3 BK412.out
   go_wp2
   go_meet
   case rel => exact ⟨_, ((t419.toList != ([] : List UInt8))), fs, H', ⟨by first | omega | exact Nat.le_refl _⟩, ⟨bq BK412.out⟩, ⟨bq BK413.out⟩, ⟨bz HB.out⟩⟩
  ·replace c16 := Bool.eq_false_iff.mpr c16
   subst c16
   have H1 : (rational_Floor.j0 k t418 false false t415 t416) = some (r1, r2, r3) := by rw [if_neg (show ¬ (false = true) by decide)] at H; exact H
   clear H
   have H := H1
   clear H1
   have H' := Aside0.mk H
   clear H
   have hnb19 := NB412_413.out
   have hnc19 := NB413_412.out
   obtain ⟨hcz20_0, hcz20_1, hcz20_2, hfz20_0, hfz20_1, hfz20_2⟩ := c3 BK412.out
   go_wp2
   go_meet
   case rel => exact ⟨_, (false), fs, H', ⟨by first | omega | exact Nat.le_refl _⟩, ⟨bq BK412.out⟩, ⟨bq BK413.out⟩, ⟨bz HB.out⟩⟩
 case rest =>
  clear HC5
  (try clear c16); (try clear hcz11_0); (try clear hcz11_1); (try clear hcz11_2); (try clear hcz18_0); (try clear hcz18_1); (try clear hcz18_2); (try clear hcz20_0); (try clear hcz20_1); (try clear hcz20_2); (try clear hcz9_0); (try clear hcz9_1); (try clear hcz9_2); (try clear hfz11_0); (try clear hfz11_1); (try clear hfz11_2); (try clear hfz18_0); (try clear hfz18_1); (try clear hfz18_2); (try clear hfz20_0); (try clear hfz20_1); (try clear hfz20_2); (try clear hfz9_0); (try clear hfz9_1); (try clear hfz9_2)
  obtain ⟨kq, x22_4, rfl, HA, HJ4, BK412, BK413, HB⟩ := hcut
  cases kq with
  | zero => exact absurd HA.out (by simp [rational_Floor.j0])
  | succ kj4 =>
   have H := HA.out
   clear HA
   simp only [rational_Floor.j0] at H
   by_cases c21 : x22_4 = true
   ·subst c21
    have H1 : ((natural_Add.f kj4 t418 (⟨#[1]⟩ : ByteArray)).bind fun t421 => ((rational_reduced.f kj4 t414 t421 (⟨#[1]⟩ : ByteArray)).bind fun bt422 => (some (bt422.1, bt422.2.1, bt422.2.2)))) = some (r1, r2, r3) := by rw [if_pos rfl] at H; exact H
    clear H
    have H := H1
    clear H1
    obtain ⟨t421, A22, H⟩ := bs1 H
    obtain ⟨⟨t422, t423, t424⟩, A23, H⟩ := bs1 H; dsimp only at H
    simp only [Option.some.injEq, Prod.mk.injEq] at H
    obtain ⟨rfl, rfl, rfl⟩ := H
    go_wp2_with (first | ((with_reducible refine gc 48 rfl ?_); refine gl (some 24) Tryd.func48 #[.string t418, .string (⟨#[1]⟩ : ByteArray)] ?_; (with_reducible refine (natural_Add.calls kj4 t418 (⟨#[1]⟩ : ByteArray) t421 _ A22.out).mono ?_); rintro e w24 ⟨rfl, hb⟩; refine ⟨_, rfl, ?_⟩; replace BK412 := Aside0.mk (bk0 BK412.out hb); replace BK413 := Aside0.mk (bk0 BK413.out hb); replace HB := Aside0.mk (bs HB.out hb); (try clear hb); have hnb25 := NB412_413.out; have hnc25 := NB413_412.out; obtain ⟨hcz26_0, hcz26_1, hcz26_2, hfz26_0, hfz26_1, hfz26_2⟩ := c3 BK412.out) | ((with_reducible refine gc 30 rfl ?_); refine gl (some 28) Tryd.func30 #[.bool t414, .string t421, .string (⟨#[1]⟩ : ByteArray)] ?_; (with_reducible refine (rational_reduced.calls kj4 t414 t421 (⟨#[1]⟩ : ByteArray) t422 t423 t424 _ A23.out).mono ?_); rintro e w27 ⟨rfl, hb⟩; refine ⟨_, rfl, ?_⟩; replace BK412 := Aside0.mk (bk0 BK412.out hb); replace BK413 := Aside0.mk (bk0 BK413.out hb); replace HB := Aside0.mk (bs HB.out hb); (try clear hb); obtain ⟨hcz28_0, hcz28_1, hcz28_2, hfz28_0, hfz28_1, hfz28_2⟩ := c3 BK413.out))
    refine bodyPost_ret (results_cell_row rfl _ _ gb413 23 #[.bool t422, .string t423, .string t424] (0, 0) _ rfl (bq BK413.out) Tryd.underlying23 rfl (by kernel_rfl)) rfl ?_
    exact ⟨fe, bz HB.out⟩
   ·replace c21 := Bool.eq_false_iff.mpr c21
    subst c21
    have H1 : ((rational_reduced.f kj4 t414 t418 (⟨#[1]⟩ : ByteArray)).bind fun bt425 => (some (bt425.1, bt425.2.1, bt425.2.2))) = some (r1, r2, r3) := by rw [if_neg (show ¬ (false = true) by decide)] at H; exact H
    clear H
    have H := H1
    clear H1
    obtain ⟨⟨t425, t426, t427⟩, A29, H⟩ := bs1 H; dsimp only at H
    simp only [Option.some.injEq, Prod.mk.injEq] at H
    obtain ⟨rfl, rfl, rfl⟩ := H
    have hnb30 := NB412_413.out
    have hnc30 := NB413_412.out
    obtain ⟨hcz31_0, hcz31_1, hcz31_2, hfz31_0, hfz31_1, hfz31_2⟩ := c3 BK412.out
    go_wp2_with (first | ((with_reducible refine gc 30 rfl ?_); refine gl (some 28) Tryd.func30 #[.bool t414, .string t418, .string (⟨#[1]⟩ : ByteArray)] ?_; (with_reducible refine (rational_reduced.calls kj4 t414 t418 (⟨#[1]⟩ : ByteArray) t425 t426 t427 _ A29.out).mono ?_); rintro e w32 ⟨rfl, hb⟩; refine ⟨_, rfl, ?_⟩; replace BK412 := Aside0.mk (bk0 BK412.out hb); replace BK413 := Aside0.mk (bk0 BK413.out hb); replace HB := Aside0.mk (bs HB.out hb); (try clear hb); obtain ⟨hcz33_0, hcz33_1, hcz33_2, hfz33_0, hfz33_1, hfz33_2⟩ := c3 BK413.out))
    refine bodyPost_ret (results_cell_row rfl _ _ gb413 23 #[.bool t425, .string t426, .string t427] (0, 0) _ rfl (bq BK413.out) Tryd.underlying23 rfl (by kernel_rfl)) rfl ?_
    exact ⟨fe, bz HB.out⟩

-- NOT PRINTED: function 96 (bits_Mul32)

-- NOT PRINTED: function 97 (bits_Mul64)

-- NOT PRINTED: function 70 (bits_Mul)

/-! ### strings_HasPrefix: function 71 -/
def strings_HasPrefix.f (a0 : ByteArray) (a1 : ByteArray) : Option (Bool) := (stringslite_HasPrefix.f a0 a1).bind fun t428 => (some t428)
set_option maxHeartbeats 8000000 in
set_option maxRecDepth 100000 in
theorem strings_HasPrefix.calls (a0 : ByteArray) (a1 : ByteArray) (r : Bool) (w : World) (h : strings_HasPrefix.f a0 a1 = some r) :
  Calls Tryd.prog 71 #[.string a0, .string a1] w fun e w' => e = .returned (.bool r) ∧ Drawn0 w w' := by
 have H := h
 clear h
 unfold strings_HasPrefix.f at H
 obtain ⟨t428, A3, H⟩ := bs1 H
 obtain rfl := Option.some.inj H
 go_enter Tryd.func71, Tryd.ntmps71
 go_wp2_with (first | ((with_reducible refine gc 92 rfl ?_); refine gl (some 7) Tryd.func92 #[.string a0, .string a1] ?_; (with_reducible refine (stringslite_HasPrefix.calls a0 a1 t428 _ A3.out).mono ?_); rintro e w' ⟨rfl, ⟨nd, rfl⟩⟩; refine ⟨_, rfl, ?_⟩))
 go_ret
 exact ⟨fs, dz⟩

-- NOT PRINTED: function 114 (abi_NoEscape)

-- NOT PRINTED: function 98 (strings_Builder_copyCheck)

-- NOT PRINTED: function 115 (bytealg_MakeNoZero)

-- NOT PRINTED: function 99 (strings_Builder_grow)

-- NOT PRINTED: function 72 (strings_Builder_Grow)

-- NOT PRINTED: function 73 (strings_Builder_WriteString)

-- NOT PRINTED: function 74 (strings_Builder_Len)

-- NOT PRINTED: function 75 (strings_Builder_String)

/-! ### strings_Repeat: function 52 (by hand) -/
def strings_Repeat.f (a0 : ByteArray) (a1 : Int) : Option (ByteArray) := if 0 ≤ a1 ∧ a1 ≤ 9223372036854775807 ∧ a0.size * a1.toNat ≤ 140737488355328 then some ⟨(Lib.repeatL a0.data.toList a1.toNat).toArray⟩ else none
theorem strings_Repeat.calls (a0 : ByteArray) (a1 : Int) (r : ByteArray) (w : World) (h : strings_Repeat.f a0 a1 = some r) :
  Calls Tryd.prog 52 #[.string a0, .int .i64 a1] w fun e w' => e = .returned (.string r) ∧ Below w.heap.size w w' := by
 unfold strings_Repeat.f at h
 split at h
 ·rename_i hc
  obtain rfl := Option.some.inj h
  obtain ⟨c, rfl⟩ := Int.eq_ofNat_of_zero_le hc.1
  simp only [Int.toNat_natCast] at hc ⊢
  exact Tryd.strings_Repeat a0 c w (by omega) hc.2.2
 ·cases h


end Go.Proofs.YtgepdnoaemeofaaDoor.R
