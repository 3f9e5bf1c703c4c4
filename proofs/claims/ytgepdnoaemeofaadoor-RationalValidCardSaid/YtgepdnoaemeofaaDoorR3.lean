/- Printed by a program of this session (wip/tools) out of the translation: plain functions and the proofs that the code comes to their answers. -/
import Derived.Test.YtgepdnoaemeofaaDoorK
import Derived.Test.YtgepdnoaemeofaaDoorR0
import Derived.Test.YtgepdnoaemeofaaDoorR2
namespace Go.Proofs.YtgepdnoaemeofaaDoor.R
open Go.RowKit Go.Proofs.YtgepdnoaemeofaaDoorW.PrintWords Go.Proofs.YtgepdnoaemeofaaDoorW.PrintLast Go.Proofs.YtgepdnoaemeofaaDoorW.PrintMore Go.Proofs.YtgepdnoaemeofaaDoorW.PK
attribute [local go_sem] max2_int min2_int max_two min_two max_three min_three max_four min_four   -- for this text's walks alone
set_option linter.unusedVariables false
set_option linter.unusedSimpArgs false

/-! ### natural_parse: function 54 -/
def natural_parse.l0 : Nat → ByteArray → List Int → Int → Int → Option (List Int)
 | 0, _, _, _, _ => none
 | k + 1, x0, x3, x12, x13 => if x13 < x12 then (if 0 ≤ (wrap64 (Int.tdiv x13 4)) then (if (wrap64 (Int.tdiv x13 4)) < (x3.length : Int) then (if 0 ≤ (wrap64 ((wrap64 ((x0.size : Int) - 1)) - x13)) then (if (wrap64 ((wrap64 ((x0.size : Int) - 1)) - x13)) < (x0.size : Int) then (if 0 ≤ (wrap64 (8 * (Int.tmod x13 4))) then (natural_parse.l0 k x0 (x3.set ((wrap64 (Int.tdiv x13 4)) : Int).toNat (Go.bits .or .u32 (rd x3 (wrap64 (Int.tdiv x13 4))) (shl .u32 ((bt x0 (wrap64 ((wrap64 ((x0.size : Int) - 1)) - x13))) % 4294967296) (wrap64 (8 * (Int.tmod x13 4)))))) x12 (wrap64 (x13 + 1))) else (none)) else (none)) else (none)) else (none)) else (none)) else ((natural_limbs_trim.f k x3).bind fun t125 => (some t125))
def natural_parse.f (k : Nat) (a0 : ByteArray) : Option (List Int) := if 0 ≤ (wrap64 (Int.tdiv (wrap64 ((wrap64 ((a0.size : Int) + 4)) - 1)) 4)) then (if (wrap64 (Int.tdiv (wrap64 ((wrap64 ((a0.size : Int) + 4)) - 1)) 4) : Int).toNat ≤ 70368744177664 then (natural_parse.l0 k a0 (List.replicate (wrap64 (Int.tdiv (wrap64 ((wrap64 ((a0.size : Int) + 4)) - 1)) 4) : Int).toNat 0) (a0.size : Int) 0) else (none)) else (none)
theorem natural_parse.mono_l : ∀ k, (∀ y0 y1 y2 y3, LeO (natural_parse.l0 k y0 y1 y2 y3) (natural_parse.l0 (k + 1) y0 y1 y2 y3))
 | 0 => fun _ _ _ _ r h => by simp [natural_parse.l0] at h
 | k + 1 => by
  have ih0 := natural_parse.mono_l k
  ·intro y0 y1 y2 y3
   unfold natural_parse.l0
   repeat' with_reducible first | exact ih0 _ _ _ _ | exact natural_limbs_trim.mono _ _ | exact LeO.refl _ | exact LeO.none _ | refine LeO.ite ?_ ?_ | refine LeO.bind ?_ (fun _ => ?_)
theorem natural_parse.mono : ∀ a0 k, LeO (natural_parse.f k a0) (natural_parse.f (k + 1) a0) := by
 intro a0 k
 have ih0 := natural_parse.mono_l k
 unfold natural_parse.f
 repeat' with_reducible first | exact ih0 _ _ _ _ | exact natural_limbs_trim.mono _ _ | exact LeO.refl _ | exact LeO.none _ | refine LeO.ite ?_ ?_ | refine LeO.bind ?_ (fun _ => ?_)
def natural_parse.T5 : Bool × List (List Nat × List Nat) := (true, [([], []), ([], []), ([1], [1]), ([0, 2], [0, 2]), ([3], [3]), ([], []), ([], []), ([6], [6]), ([7], [7]), ([], []), ([8, 9], [8, 9]), ([5, 10], [5, 10]), ([11], [11]), ([], []), ([13], [13]), ([14], [14]), ([12, 15], [12, 15]), ([4, 16], [4, 16]), ([0, 2, 0, 1, 2, 3, 4, 5, 6, 7, 8, 9, 10, 11, 12, 13, 14, 15, 16, 17], [0, 2]), ([18, 17, 0, 1, 2, 3, 4, 5, 6, 7, 8, 9, 10, 11, 12, 13, 14, 15, 16, 17], [17, 18])])
def natural_parse.B5 : List Nat := [0, 0, 2, 7, 15, 0, 0, 64, 192, 0, 960, 2016, 4064, 0, 8192, 24576, 65504, 131071, 262143, 524287]
theorem natural_parse.tab5 : rtab .any (opsOf Tryd.f54 5) = natural_parse.T5 := by kernel_rfl
theorem natural_parse.bits5 : waitsOk natural_parse.T5.2 natural_parse.B5 = true := by kernel_rfl
set_option maxHeartbeats 8000000 in
set_option maxRecDepth 100000 in
theorem natural_parse.calls (k : Nat) (a0 : ByteArray) (r : List Int) (w : World) (h : natural_parse.f k a0 = some r) :
  Calls Tryd.prog 54 #[.string a0] w fun e w' => ∃ v0_ : Value, e = .returned (v0_) ∧ Kd.V (Kd.int .u32) 72 w' w.heap.size (fun k_ => (w.heap.size ≤ k_)) v0_ r ∧ Below w.heap.size w w' := by
 have HB := Aside0.mk (Below.refl w.heap.size w)
 have H := h
 clear h
 unfold natural_parse.f at H
 obtain ⟨ji2, hji2⟩ : ∃ j_ : Int, (wrap64 (Int.tdiv (wrap64 ((wrap64 ((a0.size : Int) + 4)) - 1)) 4)) = j_ := ⟨_, rfl⟩
 first | rw [hji2] at H | simp only [hji2] at H
 have hji2w : (IntKind.i64.wrap (Int.tdiv (wrap64 ((wrap64 ((a0.size : Int) + 4)) - 1)) 4)) = ji2 := (i64_w _).trans hji2
 obtain ⟨c3, H⟩ := iN H
 have c3b0 := eq_true c3
 have c3b1 : decide (0 ≤ (ji2)) = true := decide_eq_true c3
 clear c3
 obtain ⟨c4, H⟩ := iN H
 have c4b0 := eq_true c4
 have c4b1 : decide ((ji2 : Int).toNat ≤ 70368744177664) = true := decide_eq_true c4
 clear c4
 obtain ⟨y120, hy120⟩ : ∃ y_ : List Int, y_ = (List.replicate (ji2 : Int).toNat 0) := ⟨_, rfl⟩
 (try first | rw [← hy120] at H | (dsimp only at H; rw [← hy120] at H)); (try rw [Option.bind_some] at H)
 have Ny120 := Aside0.mk hy120
 clear hy120
 have H' := Aside0.mk H
 clear H
 go_enter Tryd.func54, Tryd.ntmps54
 go_wp2_with (first | ((with_reducible refine gd 10 rfl ?_); refine Kd.R_make (Kd.int .u32) _ 72 rfl (N := 10) rfl 65 _ _ rfl ji2 rfl rfl Tryd.underlying65 (.int .u32 0) 4 info72 rfl (by decide) (by omega) 0 (ok := fun _ => True) (okp := fun _ => True) rfl (fun _ hk => hk) trivial oa (Nat.le_trans (Nat.mul_le_mul_right _ (oa : ji2.toNat ≤ 70368744177664)) (by omega)) (Below.refl _ _) (Nat.le_refl _) ?_; intro v121 w5 ho6 hb hg_ hnew_; clear hg_ hnew_; (first | rw [← Ny120.out] at ho6 | (simp only [Int.reduceToNat] at ho6; rw [← Ny120.out] at ho6)); have HO122 := Aside0.mk (Kd.R_lower (Kd.R_newM (M := fun k_ => (w.heap.size ≤ k_)) ho6 (sz HB.out) (fun k_ h_ => h_)) (sz HB.out)); replace HB := Aside0.mk (bs HB.out hb); clear hb ho6))
 go_loopg [13] k (fun kq v13 w' => ∃ (x3_1 : List Int) (x13_1 : Int), v13 = .int .i64 x13_1 ∧ Aside0 (natural_parse.l0 kq a0 x3_1 (a0.size : Int) x13_1 = some r) ∧ Aside0 (kq ≤ k) ∧ Aside0 (Kd.R (Kd.int .u32) 72 w' w.heap.size (fun k_ => (w.heap.size ≤ k_)) v121 x3_1) ∧ Aside0 (Below w.heap.size w w'))
 case atStart => exact ⟨(y120), (0), fs, H', ⟨Nat.le_refl _⟩, ⟨rm HO122.out (fun _ hk => hk.1)⟩, ⟨bz HB.out⟩⟩
 case round =>
  clear H'
  (try clear c3b0); (try clear c3b1); (try clear c4b0); (try clear c4b1)
  obtain ⟨x3_1, x13_1, rfl, HA, HK1, HO_3, HB⟩ := hrel
  cases gk with
  | zero => exact absurd HA.out (by simp [natural_parse.l0])
  | succ k1 =>
   have H := HA.out
   clear HA
   simp only [natural_parse.l0] at H
   by_cases c7 : x13_1 < (a0.size : Int)
   ·rw [if_pos c7] at H
    have c7b0 : decide (x13_1 < (a0.size : Int)) = true := decide_eq_true c7
    clear c7
    obtain ⟨ji8, hji8⟩ : ∃ j_ : Int, (wrap64 (Int.tdiv x13_1 4)) = j_ := ⟨_, rfl⟩
    first | rw [hji8] at H | simp only [hji8] at H
    have hji8w : (IntKind.i64.wrap (Int.tdiv x13_1 4)) = ji8 := (i64_w _).trans hji8
    obtain ⟨c9, H⟩ := iN H
    have c9b0 : decide (0 ≤ (ji8)) = true := decide_eq_true c9
    clear c9
    obtain ⟨c10, H⟩ := iN H
    have c10b0 : decide ((ji8) < (x3_1.length : Int)) = true := decide_eq_true c10
    clear c10
    obtain ⟨ji11, hji11⟩ : ∃ j_ : Int, (wrap64 ((wrap64 ((a0.size : Int) - 1)) - x13_1)) = j_ := ⟨_, rfl⟩
    first | rw [hji11] at H | simp only [hji11] at H
    have hji11w : (IntKind.i64.wrap ((wrap64 ((a0.size : Int) - 1)) - x13_1)) = ji11 := (i64_w _).trans hji11
    obtain ⟨c12, H⟩ := iN H
    have c12b0 : decide (0 ≤ (ji11)) = true := decide_eq_true c12
    clear c12
    obtain ⟨c13, H⟩ := iN H
    have c13b0 : decide ((ji11) < (a0.size : Int)) = true := decide_eq_true c13
    clear c13
    obtain ⟨ji15, hji15⟩ : ∃ j_ : Int, (wrap64 (8 * (Int.tmod x13_1 4))) = j_ := ⟨_, rfl⟩
    first | rw [hji15] at H | simp only [hji15] at H
    have hji15w : (IntKind.i64.wrap (8 * (Int.tmod x13_1 4))) = ji15 := (i64_w _).trans hji15
    obtain ⟨c16, H⟩ := iN H
    have c16b0 := eq_true c16
    have c16b1 : decide (0 ≤ (ji15)) = true := decide_eq_true c16
    clear c16
    obtain ⟨ji17, hji17⟩ : ∃ j_ : Int, (shl .u32 ((bt a0 (ji11)) % 4294967296) (ji15)) = j_ := ⟨_, rfl⟩
    first | rw [hji17] at H | simp only [hji17] at H
    have hji17_ : (IntKind.u32.wrap (((bt a0 (ji11)) % 4294967296) * 2 ^ min (ji15).toNat 32)) = ji17 := hji17
    have hji17z : (ji15) ≤ 32 → (IntKind.u32.wrap (((bt a0 (ji11)) % 4294967296) * 2 ^ (ji15).toNat)) = ji17 := shl_small hji17
    have hji17u_ : ((((bt a0 (ji11)) % 4294967296) * 2 ^ min (ji15).toNat 32) % 4294967296) = ji17 := hji17_
    have hji17u2_ : (ji15) ≤ 32 → ((((bt a0 (ji11)) % 4294967296) * 2 ^ (ji15).toNat) % 4294967296) = ji17 := hji17z
    have hji17u3_ : (IntKind.u32.wrap (IntKind.u32.wrap (bt a0 (ji11)) * 2 ^ min (ji15).toNat 32)) = ji17 := hji17_
    obtain ⟨y124, hy124⟩ : ∃ y_ : List Int, y_ = (x3_1.set ((ji8) : Int).toNat (Go.bits .or .u32 (rd x3_1 (ji8)) (ji17))) := ⟨_, rfl⟩
    (try first | rw [← hy124] at H | (dsimp only at H; rw [← hy124] at H)); (try rw [Option.bind_some] at H)
    have Ny124 := Aside0.mk hy124
    clear hy124
    have H' := Aside0.mk H
    clear H
    try go_wp2
    replace HO_3 := Aside0.mk (Kd.R_drew HO_3.out)
    replace HB := Aside0.mk (below_drew1 HB.out)
    obtain ⟨Ao20, co20, eo20⟩ := Kd.R_slice HO_3.out
    (first | subst eo20 | (injection eo20 with f1_ f2_ f3_; have f4_ := f1_.symm; have f5_ := f3_.symm; clear f1_ f2_ f3_; subst f4_; subst f5_))
    have p123 : 0 ≤ ((ji8) : Int) := oa
    have q123 : (ji8) < (x3_1.length : Int) := oa
    obtain ⟨ad123, e123, hx123_0⟩ := Kd.at_int (Kd.R_reads' HO_3.out).2.2 (ji8) p123 q123
    cases e123
    replace p123 := eq_true p123
    replace q123 := eq_true q123
    have p14 : 0 ≤ ((ji11) : Int) := oa
    have q14 : (ji11) < (a0.size : Int) := oa
    have hx14 := bt_at a0 (ji11)
    replace p14 := eq_true p14
    replace q14 := eq_true q14
    have p18 : 0 ≤ ((ji8) : Int) := oa
    have q18 : ((ji8) : Int) < ((x3_1.length : Int) : Int) := oa
    obtain ⟨go18, co18, eo18, gb18, gl18, cl18, HG18⟩ := Kd.R_form HO_3.out (by omega)
    (first | cases eo18 | (injection eo18 with ea_ en_ ec_; (first | subst ea_ | (injection ea_ with ea_; subst ea_)); subst ec_; clear en_))
    have GB18 := Aside0.mk gb18
    have GG18 := Aside0.mk HG18
    clear gb18 gl18 HG18
    (first | simp only [add_plain] at hx123_0 | skip)
    obtain ⟨hx18_0, hf18_0⟩ := Kd.R_celln 0 HO_3.out ((ji8) : Int) p18 q18
    replace p18 := eq_true p18
    replace q18 := eq_true q18
    have HP21 := Kd.R_putn HO_3.out ((ji8) : Int) (Go.bits .or .u32 (rd x3_1 (ji8)) (ji17))
    rw [← Ny124.out] at HP21
    have HQ21 := Aside0.mk HP21
    clear HP21
    refine start_ (n := 20) (S := fun w' => w'.cell? ⟨go18, ((ji8)).toNat, none⟩ = some (.int .u32 (rd x3_1 (ji8)))) (ds := [19]) #[false, false, false, false, false, false, false, false, false, false, false, false, false, false, false, false, false, false, false, false] (by kernel_rfl) rfl rfl (hx123_0) (fun hHeld => ?_); refine with_tabW natural_parse.tab5 natural_parse.bits5 (fun HT_ HW_ => ?_)
    generalize wr.drew = w19 at HO_3 HB GG18 HQ21 hf18_0 hx123_0 hx18_0 hHeld ⊢
    refine py 0 (some 16) #[true, false, false, false, false, false, false, false, false, false, false, false, false, false, false, false, false, false, false, false] HT_ ?_
    refine py 1 (some 17) #[true, true, false, false, false, false, false, false, false, false, false, false, false, false, false, false, false, false, false, false] HT_ ?_
    refine py 2 (some 18) #[true, true, true, false, false, false, false, false, false, false, false, false, false, false, false, false, false, false, false, false] HT_ ?_
    refine py 3 (some 19) #[true, true, true, true, false, false, false, false, false, false, false, false, false, false, false, false, false, false, false, false] HT_ ?_
    refine py 5 (some 21) #[true, true, true, true, false, true, false, false, false, false, false, false, false, false, false, false, false, false, false, false] HT_ ?_
    refine py 6 (some 22) #[true, true, true, true, false, true, true, false, false, false, false, false, false, false, false, false, false, false, false, false] HT_ ?_
    refine py 7 (some 23) #[true, true, true, true, false, true, true, true, false, false, false, false, false, false, false, false, false, false, false, false] HT_ ?_
    refine py 8 (some 24) #[true, true, true, true, false, true, true, true, true, false, false, false, false, false, false, false, false, false, false, false] HT_ ?_
    refine py 9 (some 25) #[true, true, true, true, false, true, true, true, true, true, false, false, false, false, false, false, false, false, false, false] HT_ ?_
    refine py 10 (some 26) #[true, true, true, true, false, true, true, true, true, true, true, false, false, false, false, false, false, false, false, false] HT_ ?_
    refine py 13 (some 29) #[true, true, true, true, false, true, true, true, true, true, true, false, false, true, false, false, false, false, false, false] HT_ ?_
    refine py 14 (some 30) #[true, true, true, true, false, true, true, true, true, true, true, false, false, true, true, false, false, false, false, false] HT_ ?_
    refine py 15 (some 31) #[true, true, true, true, false, true, true, true, true, true, true, false, false, true, true, true, false, false, false, false] HT_ ?_
    refine take_ (i := 4) (N := some 20) (v := ?_) (a' := ?_) #[true, true, true, true, true, true, true, true, true, true, true, false, false, true, true, true, false, false, false, false] rfl rfl (take_ofW HT_.out HW_.out (by kernel_rfl)) (fun _ _ _ h => h) (Or.inl ⟨by rfl, ?_⟩) hHeld ?_ ?_
    rotate_left
    ·intro w' s0
     go_simp
     with_reducible rfl
    rotate_left
    ·simp only [Act.put, List.setIfInBounds_toArray, List.set_cons_zero, List.set_cons_succ, i64_w, i32_w]
     rfl
    refine take_ (i := 11) (N := some 27) (v := ?_) (a' := ?_) #[true, true, true, true, true, true, true, true, true, true, true, true, false, true, true, true, false, false, false, false] rfl rfl (take_ofW HT_.out HW_.out (by kernel_rfl)) (fun _ _ _ h => h) (Or.inl ⟨by rfl, ?_⟩) hHeld ?_ ?_
    rotate_left
    ·intro w' s0
     go_simp
     with_reducible rfl
    rotate_left
    ·simp only [Act.put, List.setIfInBounds_toArray, List.set_cons_zero, List.set_cons_succ, i64_w, i32_w]
     rfl
    refine py 12 (some 28) #[true, true, true, true, true, true, true, true, true, true, true, true, true, true, true, true, false, false, false, false] HT_ ?_
    refine py 16 (some 32) #[true, true, true, true, true, true, true, true, true, true, true, true, true, true, true, true, true, false, false, false] HT_ ?_
    refine py 17 (some 33) #[true, true, true, true, true, true, true, true, true, true, true, true, true, true, true, true, true, true, false, false] HT_ ?_
    refine py 18 (some 34) #[true, true, true, true, true, true, true, true, true, true, true, true, true, true, true, true, true, true, true, false] HT_ ?_
    refine last_ (i := 19) (N := none) #[true, true, true, true, true, true, true, true, true, true, true, true, true, true, true, true, true, true, true, true] rfl rfl (one_of HT_.out (by kernel_rfl)) (by decide) (fun K hK => ?_)
    refine skip_ (w1 := ?_) (by rfl) rfl ?_ ?_
    rotate_left
    ·go_simp
     rfl
    refine hK.out _ _ ?_
    clear hK K
    refine done_ (done_of HT_.out (by kernel_rfl)) ?_
    try go_wp2
    go_roundg k1
    case measure => have := HK1.out; omega
    case rel => exact ⟨(y124), (wrap64 (x13_1 + 1)), fs, H', ⟨by have := HK1.out; omega⟩, ⟨vs HQ21.out⟩, ⟨bz HB.out⟩⟩
   ·rw [if_neg c7] at H
    have c7b0 : decide (x13_1 < (a0.size : Int)) = false := decide_eq_false c7
    clear c7
    obtain ⟨t125, A22, H⟩ := bs1 H
    obtain rfl := Option.some.inj H
    obtain ⟨Ao23, co23, eo23⟩ := Kd.R_slice HO_3.out
    subst eo23
    go_wp2_with (first | ((with_reducible refine gc 80 rfl ?_); refine gl (some 37) Tryd.func80 #[.slice Ao23 x3_1.length co23] ?_; (with_reducible refine (natural_limbs_trim.calls k1 (fun k_ => some k_ = (.slice Ao23 x3_1.length co23 : Value).ownBlock) _ _ x3_1 t125 _ ?side1 A22.out).mono ?_); (case side1 => exact Kd.R_V (Kd.R_tight rfl (HO_3.out))); rintro e w24 ⟨v126, rfl, ho0, hb⟩; refine ⟨_, rfl, ?_⟩; have HO127 := Aside0.mk (Kd.V_lower (Kd.V_mono (ok' := fun k_ => (w.heap.size ≤ k_)) ho0 (fun k_ hk_ => Or.elim hk_ (fun hs_ => ((HO_3.out).1 k_ hs_.symm)) (fun hn_ => (Nat.le_trans (sz HB.out) hn_)))) (sz HB.out)); replace HO_3 := Aside0.mk (rb HO_3.out hb); replace HB := Aside0.mk (bs HB.out hb); (try clear hb ho0)))
    go_ret
    exact ⟨_, by first | rfl | (simp [errW_none, errW_some] <;> rfl) | (simp only [← hji2]; first | rfl | (simp [errW_none, errW_some] <;> rfl)) | (simp [*, errW_none, errW_some] <;> rfl), vs HO127.out, bz HB.out⟩

/-! ### natural_divideSmall: function 68 -/
def natural_divideSmall.l0 : Nat → List Int → Int → List Int → Int → Int → Option (List Int × Int)
 | 0, _, _, _, _, _ => none
 | k + 1, x0, x1, x6, x7, x8 => if x8 ≥ 0 then (if 0 ≤ x8 then (if x8 < (x0.length : Int) then (if (IntKind.u64.wrap (x1)) = 0 then (none) else (if x8 < (x6.length : Int) then (natural_divideSmall.l0 k x0 x1 (x6.set (x8 : Int).toNat ((IntKind.u64.wrap (Int.tdiv (Go.bits .or .u64 (IntKind.u64.wrap (x7 * 4294967296)) (IntKind.u64.wrap (rd x0 x8))) (IntKind.u64.wrap (x1)))) % 4294967296)) (Int.tmod (Go.bits .or .u64 (IntKind.u64.wrap (x7 * 4294967296)) (IntKind.u64.wrap (rd x0 x8))) (IntKind.u64.wrap (x1))) (wrap64 (x8 - 1))) else (none))) else (none)) else (none)) else ((natural_limbs_trim.f k x6).bind fun t133 => (some (t133, (x7) % 4294967296)))
def natural_divideSmall.f (k : Nat) (l0 : List Int) (a1 : Int) : Option (List Int × Int) := if 0 ≤ (l0.length : Int) then (if ((l0.length : Int) : Int).toNat ≤ 70368744177664 then (natural_divideSmall.l0 k l0 a1 (List.replicate ((l0.length : Int) : Int).toNat 0) 0 (wrap64 ((l0.length : Int) - 1))) else (none)) else (none)
theorem natural_divideSmall.mono_l : ∀ k, (∀ y0 y1 y2 y3 y4, LeO (natural_divideSmall.l0 k y0 y1 y2 y3 y4) (natural_divideSmall.l0 (k + 1) y0 y1 y2 y3 y4))
 | 0 => fun _ _ _ _ _ r h => by simp [natural_divideSmall.l0] at h
 | k + 1 => by
  have ih0 := natural_divideSmall.mono_l k
  ·intro y0 y1 y2 y3 y4
   unfold natural_divideSmall.l0
   repeat' with_reducible first | exact ih0 _ _ _ _ _ | exact natural_limbs_trim.mono _ _ | exact LeO.refl _ | exact LeO.none _ | refine LeO.ite ?_ ?_ | refine LeO.bind ?_ (fun _ => ?_)
theorem natural_divideSmall.mono : ∀ a0 a1 k, LeO (natural_divideSmall.f k a0 a1) (natural_divideSmall.f (k + 1) a0 a1) := by
 intro a0 a1 k
 have ih0 := natural_divideSmall.mono_l k
 unfold natural_divideSmall.f
 repeat' with_reducible first | exact ih0 _ _ _ _ _ | exact natural_limbs_trim.mono _ _ | exact LeO.refl _ | exact LeO.none _ | refine LeO.ite ?_ ?_ | refine LeO.bind ?_ (fun _ => ?_)
set_option maxHeartbeats 8000000 in
set_option maxRecDepth 100000 in
theorem natural_divideSmall.calls (k : Nat) (A0 : Option Addr) (c0 : Nat) (l0 : List Int) (a1 : Int) (r1 : List Int) (r2 : Int) (w : World) (hr0 : Kd.C (Kd.int .u32) w A0 l0.length l0) (hc0 : l0.length ≤ c0) (h : natural_divideSmall.f k l0 a1 = some (r1, r2)) :
  Calls Tryd.prog 68 #[.slice A0 l0.length c0, .int .u32 a1] w fun e w' => ∃ v0_ : Value, e = .returned (.tuple #[v0_, .int .u32 r2]) ∧ Kd.V (Kd.int .u32) 72 w' w.heap.size (fun k_ => (w.heap.size ≤ k_)) v0_ r1 ∧ Below w.heap.size w w' := by
 have HR0 := Aside0.mk hr0
 have HC0 := Aside0.mk hc0
 clear hr0 hc0
 have HB := Aside0.mk (Below.refl w.heap.size w)
 have H := h
 clear h
 unfold natural_divideSmall.f at H
 obtain ⟨c3, H⟩ := iN H
 have c3b0 := eq_true c3
 have c3b1 : decide (0 ≤ (l0.length : Int)) = true := decide_eq_true c3
 clear c3
 obtain ⟨c4, H⟩ := iN H
 have c4b0 := eq_true c4
 have c4b1 : decide (((l0.length : Int) : Int).toNat ≤ 70368744177664) = true := decide_eq_true c4
 clear c4
 obtain ⟨y128, hy128⟩ : ∃ y_ : List Int, y_ = (List.replicate ((l0.length : Int) : Int).toNat 0) := ⟨_, rfl⟩
 (try first | rw [← hy128] at H | (dsimp only at H; rw [← hy128] at H)); (try rw [Option.bind_some] at H)
 have Ny128 := Aside0.mk hy128
 clear hy128
 have H' := Aside0.mk H
 clear H
 go_enter Tryd.func68, Tryd.ntmps68
 go_wp2_with (first | ((with_reducible refine gd 12 rfl ?_); refine Kd.R_make (Kd.int .u32) _ 72 rfl (N := 12) rfl 65 _ _ rfl (l0.length : Int) rfl rfl Tryd.underlying65 (.int .u32 0) 4 info72 rfl (by decide) (by omega) 0 (ok := fun _ => True) (okp := fun _ => True) rfl (fun _ hk => hk) trivial oa (Nat.le_trans (Nat.mul_le_mul_right _ (oa : (l0.length : Int).toNat ≤ 70368744177664)) (by omega)) (Below.refl _ _) (Nat.le_refl _) ?_; intro v129 w5 ho6 hb hg_ hnew_; clear hg_ hnew_; (first | rw [← Ny128.out] at ho6 | (simp only [Int.reduceToNat] at ho6; rw [← Ny128.out] at ho6)); have HO130 := Aside0.mk (Kd.R_lower (Kd.R_newM (M := fun k_ => (w.heap.size ≤ k_)) ho6 (sz HB.out) (fun k_ h_ => h_)) (sz HB.out)); replace HB := Aside0.mk (bs HB.out hb); clear hb ho6))
 go_loopg [7, 8] k (fun kq v7 v8 w' => ∃ (x6_1 : List Int) (x7_1 : Int) (x8_1 : Int), v7 = .int .u64 x7_1 ∧ v8 = .int .i64 x8_1 ∧ Aside0 (natural_divideSmall.l0 kq l0 a1 x6_1 x7_1 x8_1 = some (r1, r2)) ∧ Aside0 (kq ≤ k) ∧ Aside0 (Kd.R (Kd.int .u32) 72 w' w.heap.size (fun k_ => (w.heap.size ≤ k_)) v129 x6_1) ∧ Aside0 (Below w.heap.size w w'))
 case atStart => exact ⟨(y128), (0), (wrap64 ((l0.length : Int) - 1)), fs, fs, H', ⟨Nat.le_refl _⟩, ⟨rm HO130.out (fun _ hk => hk.1)⟩, ⟨bz HB.out⟩⟩
 case round =>
  clear H'
  (try clear c3b0); (try clear c3b1); (try clear c4b0); (try clear c4b1)
  obtain ⟨x6_1, x7_1, x8_1, rfl, rfl, HA, HK1, HO_6, HB⟩ := hrel
  cases gk with
  | zero => exact absurd HA.out (by simp [natural_divideSmall.l0])
  | succ k1 =>
   have H := HA.out
   clear HA
   simp only [natural_divideSmall.l0] at H
   by_cases c7 : x8_1 ≥ 0
   ·rw [if_pos c7] at H
    have c7b0 : decide (0 ≤ x8_1) = true := decide_eq_true c7
    clear c7
    obtain ⟨c8, H⟩ := iN H
    have c8b0 : decide (0 ≤ x8_1) = true := decide_eq_true c8
    clear c8
    obtain ⟨c9, H⟩ := iN H
    have c9b0 : decide (x8_1 < (l0.length : Int)) = true := decide_eq_true c9
    clear c9
    by_cases c10 : (IntKind.u64.wrap (a1)) = 0
    ·rw [if_pos c10] at H
     exact absurd H (by simp)
    ·rw [if_neg c10] at H
     have c10b0 := beq_eq_false_iff_ne.mpr c10
     have c10b1 := bne_iff_ne.mpr c10
     obtain ⟨c11, H⟩ := iN H
     have c11b0 : decide (x8_1 < (x6_1.length : Int)) = true := decide_eq_true c11
     clear c11
     obtain ⟨y132, hy132⟩ : ∃ y_ : List Int, y_ = (x6_1.set (x8_1 : Int).toNat ((IntKind.u64.wrap (Int.tdiv (Go.bits .or .u64 (IntKind.u64.wrap (x7_1 * 4294967296)) (IntKind.u64.wrap (rd l0 x8_1))) (IntKind.u64.wrap (a1)))) % 4294967296)) := ⟨_, rfl⟩
     (try first | rw [← hy132] at H | (dsimp only at H; rw [← hy132] at H)); (try rw [Option.bind_some] at H)
     have Ny132 := Aside0.mk hy132
     clear hy132
     have H' := Aside0.mk H
     clear H
     have p131 : 0 ≤ (x8_1 : Int) := oa
     have q131 : x8_1 < (l0.length : Int) := oa
     obtain ⟨ad131, e131, hx131_0⟩ := Kd.at_int HR0.out x8_1 p131 q131
     cases e131
     try replace hx131_0 := (HB.out.cell (World.block_lt_of_cell? w _ hx131_0)).trans hx131_0
     replace p131 := eq_true p131
     replace q131 := eq_true q131
     have p12 : 0 ≤ (x8_1 : Int) := oa
     have q12 : (x8_1 : Int) < ((x6_1.length : Int) : Int) := oa
     obtain ⟨go12, co12, eo12, gb12, gl12, cl12, HG12⟩ := Kd.R_form HO_6.out (by omega)
     (first | cases eo12 | (injection eo12 with ea_ en_ ec_; (first | subst ea_ | (injection ea_ with ea_; subst ea_)); subst ec_; clear en_))
     have GB12 := Aside0.mk gb12
     have GG12 := Aside0.mk HG12
     clear gb12 gl12 HG12
     obtain ⟨hx12_0, hf12_0⟩ := Kd.R_celln 0 HO_6.out (x8_1 : Int) p12 q12
     replace p12 := eq_true p12
     replace q12 := eq_true q12
     have HP13 := Kd.R_putg HO_6.out (x8_1 : Int) ((IntKind.u64.wrap (Int.tdiv (Go.bits .or .u64 (IntKind.u64.wrap (x7_1 * 4294967296)) (IntKind.u64.wrap (rd l0 x8_1))) (IntKind.u64.wrap (a1)))) % 4294967296)
     go_wp2_with (first | ((with_reducible refine gate_store (t := 72) (p := 35) rfl ?_); refine se 72 35 (w1 := (wr.setCell ⟨go12, (x8_1 : Int).toNat, none⟩ (.int .u32 ((IntKind.u64.wrap (Int.tdiv (Go.bits .or .u64 (IntKind.u64.wrap (x7_1 * 4294967296)) (IntKind.u64.wrap (rd l0 x8_1))) (IntKind.u64.wrap (a1)))) % 4294967296)))) ?_; intro w14 hw; have hg : wr.grownBy w14 (some go12) := (by rw [hw]; exact HP13.2); have hp_ : Kd.R (Kd.int .u32) 72 w14 w.heap.size (fun k_ => (w.heap.size ≤ k_)) (.slice (some ⟨go12, 0, none⟩) x6_1.length co12) y132 := (by rw [hw, Ny132.out]; exact HP13.1); clear HP13; replace HO_6 := Aside0.mk (hp_); replace HB := Aside0.mk ((by rw [hw]; exact below_set (HB.out) GB12.out : Below w.heap.size w w14)); clear hg hw hp_))
     go_roundg k1
     case measure => have := HK1.out; omega
     case rel => exact ⟨(y132), (Int.tmod (Go.bits .or .u64 (IntKind.u64.wrap (x7_1 * 4294967296)) (IntKind.u64.wrap (rd l0 x8_1))) (IntKind.u64.wrap (a1))), (wrap64 (x8_1 - 1)), fs, fs, H', ⟨by have := HK1.out; omega⟩, ⟨vs HO_6.out⟩, ⟨bz HB.out⟩⟩
   ·rw [if_neg c7] at H
    have c7b0 : decide (0 ≤ x8_1) = false := decide_eq_false c7
    clear c7
    obtain ⟨t133, A15, H⟩ := bs1 H
    simp only [Option.some.injEq, Prod.mk.injEq] at H
    obtain ⟨rfl, rfl⟩ := H
    obtain ⟨Ao16, co16, eo16⟩ := Kd.R_slice HO_6.out
    subst eo16
    go_wp2_with (first | ((with_reducible refine gc 80 rfl ?_); refine gl (some 41) Tryd.func80 #[.slice Ao16 x6_1.length co16] ?_; (with_reducible refine (natural_limbs_trim.calls k1 (fun k_ => some k_ = (.slice Ao16 x6_1.length co16 : Value).ownBlock) _ _ x6_1 t133 _ ?side1 A15.out).mono ?_); (case side1 => exact Kd.R_V (Kd.R_tight rfl (HO_6.out))); rintro e w17 ⟨v134, rfl, ho0, hb⟩; refine ⟨_, rfl, ?_⟩; have HO135 := Aside0.mk (Kd.V_lower (Kd.V_mono (ok' := fun k_ => (w.heap.size ≤ k_)) ho0 (fun k_ hk_ => Or.elim hk_ (fun hs_ => ((HO_6.out).1 k_ hs_.symm)) (fun hn_ => (Nat.le_trans (sz HB.out) hn_)))) (sz HB.out)); replace HO_6 := Aside0.mk (rb HO_6.out hb); replace HB := Aside0.mk (bs HB.out hb); (try clear hb ho0)))
    go_ret2
    exact ⟨_, fe, vs HO135.out, bz HB.out⟩

/-! ### natural_sign: function 62 -/
def natural_sign.f (a0 : Int) : Option (Int) := if a0 < 0 then (some (-1)) else (if a0 > 0 then (some 1) else (some 0))
set_option maxHeartbeats 8000000 in
set_option maxRecDepth 100000 in
theorem natural_sign.calls (a0 : Int) (r : Int) (w : World) (h : natural_sign.f a0 = some r) :
  Calls Tryd.prog 62 #[.int .i64 a0] w fun e w' => e = .returned (.int .i64 r) ∧ Drawn0 w w' := by
 have H := h
 clear h
 unfold natural_sign.f at H
 by_cases c2 : a0 < 0
 ·rw [if_pos c2] at H
  have c2b0 : decide (a0 < 0) = true := decide_eq_true c2
  clear c2
  obtain rfl := Option.some.inj H
  go_enter Tryd.func62, Tryd.ntmps62
  go_wp2
  go_ret
  exact ⟨fs, dz⟩
 ·rw [if_neg c2] at H
  have c2b0 : decide (a0 < 0) = false := decide_eq_false c2
  clear c2
  by_cases c3 : a0 > 0
  ·rw [if_pos c3] at H
   have c3b0 : decide (0 < a0) = true := decide_eq_true c3
   clear c3
   obtain rfl := Option.some.inj H
   go_enter Tryd.func62, Tryd.ntmps62
   go_wp2
   go_ret
   exact ⟨fs, dz⟩
  ·rw [if_neg c3] at H
   have c3b0 : decide (0 < a0) = false := decide_eq_false c3
   clear c3
   obtain rfl := Option.some.inj H
   go_enter Tryd.func62, Tryd.ntmps62
   go_wp2
   go_ret
   exact ⟨fs, dz⟩

/-! ### natural_compare: function 81 -/
def natural_compare.l0 : Nat → List Int → List Int → Int → Option (Int)
 | 0, _, _, _ => none
 | k + 1, x0, x1, x5 => if x5 ≥ 0 then (if 0 ≤ x5 then (if x5 < (x0.length : Int) then (if x5 < (x1.length : Int) then (if (rd x0 x5) = (rd x1 x5) then (natural_compare.l0 k x0 x1 (wrap64 (x5 - 1))) else (if (rd x0 x5) < (rd x1 x5) then (some (-1)) else (some 1))) else (none)) else (none)) else (none)) else (some 0)
def natural_compare.f (k : Nat) (l0 : List Int) (l1 : List Int) : Option (Int) := if (l0.length : Int) = (l1.length : Int) then (natural_compare.l0 k l0 l1 (wrap64 ((l0.length : Int) - 1))) else ((natural_sign.f (wrap64 ((l0.length : Int) - (l1.length : Int)))).bind fun t136 => (some t136))
theorem natural_compare.mono_l : ∀ k, (∀ y0 y1 y2, LeO (natural_compare.l0 k y0 y1 y2) (natural_compare.l0 (k + 1) y0 y1 y2))
 | 0 => fun _ _ _ r h => by simp [natural_compare.l0] at h
 | k + 1 => by
  have ih0 := natural_compare.mono_l k
  ·intro y0 y1 y2
   unfold natural_compare.l0
   repeat' with_reducible first | exact ih0 _ _ _ | exact LeO.refl _ | exact LeO.none _ | refine LeO.ite ?_ ?_ | refine LeO.bind ?_ (fun _ => ?_)
theorem natural_compare.mono : ∀ a0 a1 k, LeO (natural_compare.f k a0 a1) (natural_compare.f (k + 1) a0 a1) := by
 intro a0 a1 k
 have ih0 := natural_compare.mono_l k
 unfold natural_compare.f
 repeat' with_reducible first | exact ih0 _ _ _ | exact LeO.refl _ | exact LeO.none _ | refine LeO.ite ?_ ?_ | refine LeO.bind ?_ (fun _ => ?_)
set_option maxHeartbeats 8000000 in
set_option maxRecDepth 100000 in
theorem natural_compare.calls (k : Nat) (A0 : Option Addr) (c0 : Nat) (l0 : List Int) (A1 : Option Addr) (c1 : Nat) (l1 : List Int) (r : Int) (w : World) (hr0 : Kd.C (Kd.int .u32) w A0 l0.length l0) (hc0 : l0.length ≤ c0) (hr1 : Kd.C (Kd.int .u32) w A1 l1.length l1) (hc1 : l1.length ≤ c1) (h : natural_compare.f k l0 l1 = some r) :
  Calls Tryd.prog 81 #[.slice A0 l0.length c0, .slice A1 l1.length c1] w fun e w' => e = .returned (.int .i64 r) ∧ Drawn0 w w' := by
 have HR0 := Aside0.mk hr0
 have HC0 := Aside0.mk hc0
 clear hr0 hc0
 have HR1 := Aside0.mk hr1
 have HC1 := Aside0.mk hc1
 clear hr1 hc1
 have H := h
 clear h
 unfold natural_compare.f at H
 by_cases c3 : (l0.length : Int) = (l1.length : Int)
 ·rw [if_pos c3] at H
  have c3b0 := beq_iff_eq.mpr c3
  have c3b1 := bne_eq_false_iff_eq.mpr c3
  have c3b2 : (l0.length == l1.length) = true := by first | simpa using c3 | (simp at c3 ⊢; omega)
  clear c3
  have H' := Aside0.mk H
  clear H
  go_enter Tryd.func81, Tryd.ntmps81
  go_wp2
  repeat (go_quiet (fail); try go_wp2)
  go_loopg [5] k (fun kq v5 w' => ∃ (x5_1 : Int), v5 = .int .i64 x5_1 ∧ Aside0 (natural_compare.l0 kq l0 l1 x5_1 = some r) ∧ Aside0 (kq ≤ k) ∧ Drawn0 w w')
  case atStart => exact ⟨(wrap64 ((l0.length : Int) - 1)), fs, H', ⟨Nat.le_refl _⟩, dz⟩
  case round =>
   clear H'
   (try clear c1); (try clear c3b0); (try clear c3b1); (try clear c3b2)
   obtain ⟨x5_1, rfl, HA, HK1, ⟨m1, rfl⟩⟩ := hrel
   cases gk with
   | zero => exact absurd HA.out (by simp [natural_compare.l0])
   | succ k1 =>
    have H := HA.out
    clear HA
    simp only [natural_compare.l0] at H
    by_cases c4 : x5_1 ≥ 0
    ·rw [if_pos c4] at H
     have c4b0 : decide (0 ≤ x5_1) = true := decide_eq_true c4
     clear c4
     obtain ⟨c5, H⟩ := iN H
     have c5b0 : decide (0 ≤ x5_1) = true := decide_eq_true c5
     clear c5
     obtain ⟨c6, H⟩ := iN H
     have c6b0 : decide (x5_1 < (l0.length : Int)) = true := decide_eq_true c6
     clear c6
     obtain ⟨c7, H⟩ := iN H
     have c7b0 : decide (x5_1 < (l1.length : Int)) = true := decide_eq_true c7
     clear c7
     by_cases c8 : (rd l0 x5_1) = (rd l1 x5_1)
     ·rw [if_pos c8] at H
      have c8b0 := beq_iff_eq.mpr c8
      have c8b1 := bne_eq_false_iff_eq.mpr c8
      clear c8
      have H' := Aside0.mk H
      clear H
      have p137 : 0 ≤ (x5_1 : Int) := oa
      have q137 : x5_1 < (l0.length : Int) := oa
      obtain ⟨ad137, e137, hx137_0⟩ := Kd.at_int HR0.out x5_1 p137 q137
      cases e137
      replace p137 := eq_true p137
      replace q137 := eq_true q137
      have p138 : 0 ≤ (x5_1 : Int) := oa
      have q138 : x5_1 < (l1.length : Int) := oa
      obtain ⟨ad138, e138, hx138_0⟩ := Kd.at_int HR1.out x5_1 p138 q138
      cases e138
      replace p138 := eq_true p138
      replace q138 := eq_true q138
      go_wp2
      repeat (go_quiet (fail); try go_wp2)
      go_roundg k1
      case measure => have := HK1.out; omega
      case rel => exact ⟨(wrap64 (x5_1 - 1)), fs, H', ⟨by have := HK1.out; omega⟩, dz⟩
     ·rw [if_neg c8] at H
      have c8b0 := beq_eq_false_iff_ne.mpr c8
      have c8b1 := bne_iff_ne.mpr c8
      by_cases c9 : (rd l0 x5_1) < (rd l1 x5_1)
      ·rw [if_pos c9] at H
       have c9b0 : decide ((rd l0 x5_1) < (rd l1 x5_1)) = true := decide_eq_true c9
       clear c9
       obtain rfl := Option.some.inj H
       have p137 : 0 ≤ (x5_1 : Int) := oa
       have q137 : x5_1 < (l0.length : Int) := oa
       obtain ⟨ad137, e137, hx137_0⟩ := Kd.at_int HR0.out x5_1 p137 q137
       cases e137
       replace p137 := eq_true p137
       replace q137 := eq_true q137
       have p138 : 0 ≤ (x5_1 : Int) := oa
       have q138 : x5_1 < (l1.length : Int) := oa
       obtain ⟨ad138, e138, hx138_0⟩ := Kd.at_int HR1.out x5_1 p138 q138
       cases e138
       replace p138 := eq_true p138
       replace q138 := eq_true q138
       have p139 : 0 ≤ (x5_1 : Int) := oa
       have q139 : x5_1 < (l0.length : Int) := oa
       obtain ⟨ad139, e139, hx139_0⟩ := Kd.at_int HR0.out x5_1 p139 q139
       obtain rfl : ad137 = ad139 := (by injection e139)
       replace p139 := eq_true p139
       replace q139 := eq_true q139
       have p140 : 0 ≤ (x5_1 : Int) := oa
       have q140 : x5_1 < (l1.length : Int) := oa
       obtain ⟨ad140, e140, hx140_0⟩ := Kd.at_int HR1.out x5_1 p140 q140
       obtain rfl : ad138 = ad140 := (by injection e140)
       replace p140 := eq_true p140
       replace q140 := eq_true q140
       go_wp2
       repeat (go_quiet (fail); try go_wp2)
       go_ret
       exact ⟨fs, dz⟩
      ·rw [if_neg c9] at H
       have c9b0 : decide ((rd l0 x5_1) < (rd l1 x5_1)) = false := decide_eq_false c9
       clear c9
       obtain rfl := Option.some.inj H
       have p137 : 0 ≤ (x5_1 : Int) := oa
       have q137 : x5_1 < (l0.length : Int) := oa
       obtain ⟨ad137, e137, hx137_0⟩ := Kd.at_int HR0.out x5_1 p137 q137
       cases e137
       replace p137 := eq_true p137
       replace q137 := eq_true q137
       have p138 : 0 ≤ (x5_1 : Int) := oa
       have q138 : x5_1 < (l1.length : Int) := oa
       obtain ⟨ad138, e138, hx138_0⟩ := Kd.at_int HR1.out x5_1 p138 q138
       cases e138
       replace p138 := eq_true p138
       replace q138 := eq_true q138
       have p139 : 0 ≤ (x5_1 : Int) := oa
       have q139 : x5_1 < (l0.length : Int) := oa
       obtain ⟨ad139, e139, hx139_0⟩ := Kd.at_int HR0.out x5_1 p139 q139
       obtain rfl : ad137 = ad139 := (by injection e139)
       replace p139 := eq_true p139
       replace q139 := eq_true q139
       have p140 : 0 ≤ (x5_1 : Int) := oa
       have q140 : x5_1 < (l1.length : Int) := oa
       obtain ⟨ad140, e140, hx140_0⟩ := Kd.at_int HR1.out x5_1 p140 q140
       obtain rfl : ad138 = ad140 := (by injection e140)
       replace p140 := eq_true p140
       replace q140 := eq_true q140
       go_wp2
       repeat (go_quiet (fail); try go_wp2)
       go_ret
       exact ⟨fs, dz⟩
    ·rw [if_neg c4] at H
     have c4b0 : decide (0 ≤ x5_1) = false := decide_eq_false c4
     clear c4
     obtain rfl := Option.some.inj H
     go_wp2
     repeat (go_quiet (fail); try go_wp2)
     go_ret
     exact ⟨fs, dz⟩
 ·rw [if_neg c3] at H
  have c3b0 := beq_eq_false_iff_ne.mpr c3
  have c3b1 := bne_iff_ne.mpr c3
  have c3b2 : (l0.length == l1.length) = false := by first | simpa using c3 | (simp at c3 ⊢; omega)
  obtain ⟨t136, A10, H⟩ := bs1 H
  obtain rfl := Option.some.inj H
  go_enter Tryd.func81, Tryd.ntmps81
  go_wp2_with (first | (go_at_call 62; (with_reducible refine (natural_sign.calls (wrap64 ((l0.length : Int) - (l1.length : Int))) t136 _ A10.out).mono ?_); rintro e w' ⟨rfl, ⟨nd, rfl⟩⟩; (try exact dw)))
  repeat (go_quiet (first | (go_at_call 62; (with_reducible refine (natural_sign.calls (wrap64 ((l0.length : Int) - (l1.length : Int))) t136 _ A10.out).mono ?_); rintro e w' ⟨rfl, ⟨nd, rfl⟩⟩; (try exact dw))); try go_wp2_with (first | (go_at_call 62; (with_reducible refine (natural_sign.calls (wrap64 ((l0.length : Int) - (l1.length : Int))) t136 _ A10.out).mono ?_); rintro e w' ⟨rfl, ⟨nd, rfl⟩⟩; (try exact dw))))
  go_ret
  exact ⟨fs, dz⟩

-- NOT PRINTED: function 103 (bits_Len32)

/-! ### bits_LeadingZeros32: function 82 (by hand) -/
def bits_LeadingZeros32.f (a0 : Int) : Option (Int) := if 0 ≤ a0 ∧ a0 ≤ 4294967295 then some (32 - (Lib.bitLen a0.toNat : Int)) else none
theorem bits_LeadingZeros32.calls (a0 : Int) (r : Int) (w : World) (h : bits_LeadingZeros32.f a0 = some r) :
  Calls Tryd.prog 82 #[.int .u32 a0] w fun e w' => e = .returned (.int .i64 r) ∧ Drawn0 w w' := by
 unfold bits_LeadingZeros32.f at h
 split at h
 ·rename_i hc
  obtain rfl := Option.some.inj h
  exact (Tryd.bits_LeadingZeros32 a0 w hc.1 hc.2).mono fun e w' ⟨he, hw⟩ => ⟨he, hw ▸ Drawn0.refl _⟩
 ·cases h


end Go.Proofs.YtgepdnoaemeofaaDoor.R
