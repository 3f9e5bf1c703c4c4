/- Printed by a program of this session (wip/tools) out of the translation: plain functions and the proofs that the code comes to their answers. -/
import Derived.Test.YtgepdnoaemeofaaGreatDoorXRationalTruncated2
namespace Go.Proofs.YtgepdnoaemeofaaGreatDoor.A
open Go.RowKit Go.Proofs.YtgepdnoaemeofaaGreatDoorW.PrintWords Go.Proofs.YtgepdnoaemeofaaGreatDoorW.PrintLast Go.Proofs.YtgepdnoaemeofaaGreatDoorW.PrintMore Go.Proofs.YtgepdnoaemeofaaGreatDoorW.PK
attribute [local go_sem] max2_int min2_int max_two min_two max_three min_three max_four min_four   -- for this text's walks alone
set_option linter.unusedVariables false
set_option linter.unusedSimpArgs false

/-! ### slices_Reverse_byte_byte: function 117 -/
def slices_Reverse_byte_byte.l0 : Nat → List Int → Int → Int → Option (List Int)
 | 0, _, _, _ => none
 | k + 1, x0, x2, x3 => if x2 < x3 then (if 0 ≤ x3 then (if x3 < (x0.length : Int) then (if 0 ≤ x2 then (if x2 < (x0.length : Int) then (slices_Reverse_byte_byte.l0 k ((x0.set (x2 : Int).toNat (rd x0 x3)).set (x3 : Int).toNat (rd x0 x2)) (wrap64 (x2 + 1)) (wrap64 (x3 - 1))) else (none)) else (none)) else (none)) else (none)) else (some x0)
def slices_Reverse_byte_byte.f (k : Nat) (l0 : List Int) : Option (List Int) := slices_Reverse_byte_byte.l0 k l0 0 (wrap64 ((l0.length : Int) - 1))
def slices_Reverse_byte_byte.T3 : Bool × List (List Nat × List Nat) := (true, [([], []), ([], []), ([], []), ([], []), ([], []), ([], []), ([4, 5], [4, 5]), ([6], [6]), ([], []), ([], []), ([8, 9], [8, 9]), ([10], [10]), ([0, 1, 0, 1, 4, 5, 6, 7, 11], [0, 1]), ([12, 7, 0, 1, 4, 5, 6, 7, 11], [7, 12]), ([2, 3, 0, 1, 2, 3, 4, 5, 6, 7, 8, 9, 10, 11, 12, 13], [2, 3]), ([14, 11, 13, 0, 1, 2, 3, 4, 5, 6, 7, 8, 9, 10, 11, 12, 13], [11, 14])])
def slices_Reverse_byte_byte.B3 : List Nat := [0, 0, 0, 0, 0, 0, 48, 112, 0, 0, 768, 1792, 4083, 8179, 16383, 32767]
theorem slices_Reverse_byte_byte.tab3 : rtab .any (opsOf Tryz.f117 3) = slices_Reverse_byte_byte.T3 := by kernel_rfl
theorem slices_Reverse_byte_byte.bits3 : waitsOk slices_Reverse_byte_byte.T3.2 slices_Reverse_byte_byte.B3 = true := by kernel_rfl
set_option maxHeartbeats 8000000 in
set_option maxRecDepth 100000 in
theorem slices_Reverse_byte_byte.calls (k : Nat) (P0_ : Nat → Prop) (u9000_ : Value) (l0 : List Int) (r : List Int) (w0 w : World) (hB : Below w0.heap.size w0 w) (ho0 : Kd.R (Kd.int .u8) 5 w w0.heap.size P0_ u9000_ l0) (h : slices_Reverse_byte_byte.f k l0 = some r) :
  Calls Tryz.prog 117 #[u9000_] w fun e w' => e = .returned (.tuple #[]) ∧ Kd.R (Kd.int .u8) 5 w' w0.heap.size (fun k_ => (P0_ k_ ∨ w.heap.size ≤ k_)) u9000_ r ∧ Below w0.heap.size w0 w' ∧ Kept w w' (fun k_ => P0_ k_) := by
 have HO0 := Aside0.mk (show Kd.R (Kd.int .u8) 5 w w0.heap.size (fun k_ => (P0_ k_ ∨ w.heap.size ≤ k_)) u9000_ l0 from Kd.R_mono ho0 (fun k_ hk => (.inl hk)))
 have HK := Aside0.mk (Kept.refl w (fun k_ => P0_ k_))
 have HW0 := Aside0.mk hB.size
 have HB := Aside0.mk hB
 clear hB
 have H := h
 clear h
 unfold slices_Reverse_byte_byte.f at H
 have H' := Aside0.mk H
 clear H
 obtain ⟨Ao2, co2, eo2⟩ := Kd.R_slice HO0.out
 subst eo2
 go_enter Tryz.func117, Tryz.ntmps117
 go_wp2
 go_loopg [2, 3] k (fun kq v2 v3 w' => ∃ (x0_1 : List Int) (x2_1 : Int) (x3_1 : Int), v2 = .int .i64 x2_1 ∧ v3 = .int .i64 x3_1 ∧ Aside0 (slices_Reverse_byte_byte.l0 kq x0_1 x2_1 x3_1 = some r) ∧ Aside0 (kq ≤ k) ∧ Aside0 (Kd.R (Kd.int .u8) 5 w' w0.heap.size (fun k_ => (P0_ k_ ∨ w.heap.size ≤ k_)) (.slice Ao2 l0.length co2) x0_1) ∧ Aside0 (Kept w w' (fun k_ => P0_ k_)) ∧ Aside0 (Below w0.heap.size w0 w'))
 case atStart => exact ⟨(l0), (0), (wrap64 ((l0.length : Int) - 1)), fs, fs, H', ⟨Nat.le_refl _⟩, ⟨vs HO0.out⟩, ⟨by repeat (first | (with_reducible first | exact HK.out | apply Kept.alloc | apply Kept.drewN | apply Kept.drew) | exact HK.out)⟩, ⟨bz HB.out⟩⟩
 case round =>
  clear H'
  obtain ⟨x0_1, x2_1, x3_1, rfl, rfl, HA, HK1, HO_0, HK, HB⟩ := hrel
  have hl0_1 := (Kd.R_reads' HO_0.out).1
  rw [hl0_1] at HO_0
  (try simp only [hl0_1])
  cases gk with
  | zero => exact absurd HA.out (by simp [slices_Reverse_byte_byte.l0])
  | succ k1 =>
   have H := HA.out
   clear HA
   simp only [slices_Reverse_byte_byte.l0] at H
   by_cases c3 : x2_1 < x3_1
   ·rw [if_pos c3] at H
    have c3b0 : decide (x2_1 < x3_1) = true := decide_eq_true c3
    clear c3
    obtain ⟨c4, H⟩ := iN H
    have c4b0 : decide (0 ≤ x3_1) = true := decide_eq_true c4
    clear c4
    obtain ⟨c5, H⟩ := iN H
    have c5b0 : decide (x3_1 < (x0_1.length : Int)) = true := decide_eq_true c5
    (try (have c5b0_hl0_1 := c5b0; rw [hl0_1] at c5b0_hl0_1))
    clear c5
    obtain ⟨c6, H⟩ := iN H
    have c6b0 : decide (0 ≤ x2_1) = true := decide_eq_true c6
    clear c6
    obtain ⟨c7, H⟩ := iN H
    have c7b0 : decide (x2_1 < (x0_1.length : Int)) = true := decide_eq_true c7
    (try (have c7b0_hl0_1 := c7b0; rw [hl0_1] at c7b0_hl0_1))
    clear c7
    obtain ⟨y371, hy371⟩ : ∃ y_ : List Int, y_ = (x0_1.set (x2_1 : Int).toNat (rd x0_1 x3_1)) := ⟨_, rfl⟩
    (try first | rw [← hy371] at H | (dsimp only at H; rw [← hy371] at H)); (try rw [Option.bind_some] at H)
    have Ny371 := Aside0.mk hy371
    clear hy371
    obtain ⟨y372, hy372⟩ : ∃ y_ : List Int, y_ = (y371.set (x3_1 : Int).toNat (rd x0_1 x2_1)) := ⟨_, rfl⟩
    (try first | rw [← hy372] at H | (dsimp only at H; rw [← hy372] at H)); (try rw [Option.bind_some] at H)
    have Ny372 := Aside0.mk hy372
    clear hy372
    have H' := Aside0.mk H
    clear H
    try go_wp2
    replace HO_0 := Aside0.mk (Kd.R_drew HO_0.out)
    replace HK := Aside0.mk (Kept.drew HK.out)
    replace HB := Aside0.mk (below_drew1 HB.out)
    have p369 : 0 ≤ (x3_1 : Int) := oa
    have q369 : x3_1 < (x0_1.length : Int) := oa
    obtain ⟨ad369, e369, hx369_0⟩ := Kd.at_int (Kd.R_reads' HO_0.out).2.2 x3_1 p369 q369
    cases e369
    replace p369 := eq_true p369
    replace q369 := eq_true q369
    have p370 : 0 ≤ (x2_1 : Int) := oa
    have q370 : x2_1 < (x0_1.length : Int) := oa
    obtain ⟨ad370, e370, hx370_0⟩ := Kd.at_int (Kd.R_reads' HO_0.out).2.2 x2_1 p370 q370
    obtain rfl : ad369 = ad370 := (by injection e370)
    replace p370 := eq_true p370
    replace q370 := eq_true q370
    have p8 : 0 ≤ (x2_1 : Int) := oa
    have q8 : (x2_1 : Int) < ((x0_1.length : Int) : Int) := oa
    obtain ⟨go8, co8, eo8, gb8, gl8, cl8, HG8⟩ := Kd.R_form HO_0.out (by omega)
    (first | cases eo8 | (injection eo8 with ea_ en_ ec_; (first | subst ea_ | (injection ea_ with ea_; subst ea_)); subst ec_; clear en_))
    have GB8 := Aside0.mk gb8
    have GG8 := Aside0.mk HG8
    clear gb8 gl8 HG8
    have HMgo8 := Aside0.mk (show (P0_ go8 ∨ w.heap.size ≤ go8) from (HO_0.out.1 _ rfl))
    (first | simp only [add_plain] at hx369_0 | skip)
    (first | simp only [add_plain] at hx370_0 | skip)
    obtain ⟨hx8_0, hf8_0⟩ := Kd.R_celln 0 HO_0.out (x2_1 : Int) p8 q8
    replace p8 := eq_true p8
    replace q8 := eq_true q8
    have HP11 := Kd.R_putn HO_0.out (x2_1 : Int) (rd x0_1 x3_1)
    rw [← Ny371.out] at HP11
    have HQ11 := Aside0.mk HP11
    clear HP11
    have p9 : 0 ≤ (x3_1 : Int) := oa
    have q9 : (x3_1 : Int) < ((x0_1.length : Int) : Int) := oa
    obtain ⟨hx9_0, hf9_0⟩ := Kd.R_celln 0 HQ11.out (x3_1 : Int) p9 q9
    replace p9 := eq_true p9
    replace q9 := eq_true q9
    have HP12 := Kd.R_putn HQ11.out (x3_1 : Int) (rd x0_1 x2_1)
    rw [← Ny372.out] at HP12
    have HQ12 := Aside0.mk HP12
    clear HP12
    refine start_ (n := 16) (S := fun w' => w'.cell? ⟨go8, (x3_1).toNat, none⟩ = some (.int .u8 (rd x0_1 x3_1)) ∧ w'.cell? ⟨go8, (x2_1).toNat, none⟩ = some (.int .u8 (rd x0_1 x2_1))) (ds := [13, 15]) #[false, false, false, false, false, false, false, false, false, false, false, false, false, false, false, false] (by kernel_rfl) rfl rfl ⟨hx369_0, hx370_0⟩ (fun hHeld => ?_); refine with_tabW slices_Reverse_byte_byte.tab3 slices_Reverse_byte_byte.bits3 (fun HT_ HW_ => ?_)
    generalize wr.drew = w10 at HO_0 HK HB GG8 HQ11 HQ12 hf8_0 hf9_0 hx369_0 hx370_0 hx8_0 hx9_0 hHeld ⊢
    refine py 0 (some 14) #[true, false, false, false, false, false, false, false, false, false, false, false, false, false, false, false] HT_ ?_
    refine py 1 (some 15) #[true, true, false, false, false, false, false, false, false, false, false, false, false, false, false, false] HT_ ?_
    refine py 2 (some 16) #[true, true, true, false, false, false, false, false, false, false, false, false, false, false, false, false] HT_ ?_
    refine py 3 (some 17) #[true, true, true, true, false, false, false, false, false, false, false, false, false, false, false, false] HT_ ?_
    refine py 4 (some 18) #[true, true, true, true, true, false, false, false, false, false, false, false, false, false, false, false] HT_ ?_
    refine py 5 (some 19) #[true, true, true, true, true, true, false, false, false, false, false, false, false, false, false, false] HT_ ?_
    refine py 6 (some 20) #[true, true, true, true, true, true, true, false, false, false, false, false, false, false, false, false] HT_ ?_
    refine py 8 (some 22) #[true, true, true, true, true, true, true, false, true, false, false, false, false, false, false, false] HT_ ?_
    refine py 9 (some 23) #[true, true, true, true, true, true, true, false, true, true, false, false, false, false, false, false] HT_ ?_
    refine py 10 (some 24) #[true, true, true, true, true, true, true, false, true, true, true, false, false, false, false, false] HT_ ?_
    refine take_ (i := 7) (N := some 21) (v := ?_) (a' := ?_) #[true, true, true, true, true, true, true, true, true, true, true, false, false, false, false, false] rfl rfl (take_ofW HT_.out HW_.out (by kernel_rfl)) (fun _ _ _ h => h) (Or.inl ⟨by rfl, ?_⟩) hHeld ?_ ?_
    rotate_left
    ·rintro w' ⟨s0, s1⟩
     go_simp
     with_reducible rfl
    rotate_left
    ·simp only [Act.put, List.setIfInBounds_toArray, List.set_cons_zero, List.set_cons_succ, i64_w, i32_w]
     rfl
    refine take_ (i := 11) (N := some 25) (v := ?_) (a' := ?_) #[true, true, true, true, true, true, true, true, true, true, true, true, false, false, false, false] rfl rfl (take_ofW HT_.out HW_.out (by kernel_rfl)) (fun _ _ _ h => h) (Or.inl ⟨by rfl, ?_⟩) hHeld ?_ ?_
    rotate_left
    ·rintro w' ⟨s0, s1⟩
     go_simp
     with_reducible rfl
    rotate_left
    ·simp only [Act.put, List.setIfInBounds_toArray, List.set_cons_zero, List.set_cons_succ, i64_w, i32_w]
     rfl
    refine py 12 (some 26) #[true, true, true, true, true, true, true, true, true, true, true, true, true, false, false, false] HT_ ?_
    refine last_ (i := 13) (N := none) #[true, true, true, true, true, true, true, true, true, true, true, true, true, true, false, false] rfl rfl (one_of HT_.out (by kernel_rfl)) (by decide) (fun K hK => ?_)
    refine skip_ (w1 := ?_) (by rfl) rfl ?_ ?_
    rotate_left
    ·go_simp
     rfl
    refine hK.out _ _ ?_
    clear hK K
    refine py 14 (some 27) #[true, true, true, true, true, true, true, true, true, true, true, true, true, true, true, false] HT_ ?_
    refine last_ (i := 15) (N := none) #[true, true, true, true, true, true, true, true, true, true, true, true, true, true, true, true] rfl rfl (one_of HT_.out (by kernel_rfl)) (by decide) (fun K hK => ?_)
    refine skip_ (w1 := ?_) (by rfl) rfl ?_ ?_
    rotate_left
    ·go_simp
     rfl
    refine hK.out _ _ ?_
    clear hK K
    refine done_ (done_of HT_.out (by kernel_rfl)) ?_
    try go_wp2
    (try simp only [← hl0_1])
    go_roundg k1
    case measure => have := HK1.out; omega
    case rel => exact ⟨(y372), (wrap64 (x2_1 + 1)), (wrap64 (x3_1 - 1)), fs, fs, H', ⟨by have := HK1.out; omega⟩, ⟨by (try simp only [hl0_1]); (with_reducible repeat (first | apply Kd.R_alloc | apply Kd.R_drewN | apply Kd.R_drew)); exact HQ12.out⟩, ⟨by repeat (first | (with_reducible first | exact HK.out | apply Kept.alloc | apply Kept.drewN | apply Kept.drew | refine Kept.setCell ?_ HMgo8.out _ | refine Kept.setCell ?_ HMgo8.out _) | exact HK.out)⟩, ⟨bz HB.out⟩⟩
   ·rw [if_neg c3] at H
    have c3b0 : decide (x2_1 < x3_1) = false := decide_eq_false c3
    clear c3
    obtain rfl := Option.some.inj H
    go_wp2
    first | go_end0 | ((try simp only [Exit.inBlock, Exit.then]); refine bodyPost_ret (results_none rfl _ _ _) rfl ?_)
    exact ⟨fe, (by first | exact (vs HO_0.out) | (simp only [hl0_1]; exact (vs HO_0.out))), bz HB.out, by repeat (first | (with_reducible first | exact HK.out | apply Kept.alloc | apply Kept.drewN | apply Kept.drew) | exact HK.out)⟩

/-! ### natural_Format: function 74 -/
mutual
def natural_Format.l0 : Nat → List Int → List Int → Option (ByteArray)
 | 0, _, _ => none
 | k + 1, x3, x4 => if (x3.length : Int) > 0 then ((natural_divideSmall.f k x3 1000000000).bind fun bt378 => (natural_Format.l1 k bt378.1 x4 bt378.2 0)) else ((slices_Reverse_byte_byte.f k x4).bind fun t376 => ((strings_TrimLeft.f k (strOfNums t376) (⟨#[48]⟩ : ByteArray)).bind fun t377 => (some t377)))
def natural_Format.l1 : Nat → List Int → List Int → Int → Int → Option (ByteArray)
 | 0, _, _, _, _ => none
 | k + 1, x3, x4, x5, x19 => if x19 < 9 then (if x4.length < 140737488355328 then (natural_Format.l1 k x3 (x4 ++ [(48 + (Int.tmod x5 10)) % 256]) ((Int.tdiv x5 10) % 4294967296) (wrap64 (x19 + 1))) else (none)) else (natural_Format.l0 k x3 x4)
end
def natural_Format.f (k : Nat) (a0 : ByteArray) : Option (ByteArray) := (natural_parse.f k a0).bind fun t373 => (if (t373.length : Int) = 0 then (some (⟨#[48]⟩ : ByteArray)) else (natural_Format.l0 k t373 ([] : List Int)))
set_option maxHeartbeats 8000000 in
set_option maxRecDepth 100000 in
theorem natural_Format.calls (k : Nat) (a0 : ByteArray) (r : ByteArray) (w : World) (h : natural_Format.f k a0 = some r) :
  Calls Tryz.prog 74 #[.string a0] w fun e w' => e = .returned (.string r) ∧ Below w.heap.size w w' := by
 have HB := Aside0.mk (Below.refl w.heap.size w)
 have H := h
 clear h
 unfold natural_Format.f at H
 obtain ⟨t373, A2, H⟩ := bs1 H
 by_cases c3 : (t373.length : Int) = 0
 ·rw [if_pos c3] at H
  have c3b0 := beq_iff_eq.mpr c3
  have c3b1 := bne_eq_false_iff_eq.mpr c3
  clear c3
  obtain rfl := Option.some.inj H
  go_enter Tryz.func74, Tryz.ntmps74
  go_wp2_with (first | ((with_reducible refine gc 109 rfl ?_); refine gl (some 7) Tryz.func109 #[.string a0] ?_; (with_reducible refine (natural_parse.calls k a0 t373 _ A2.out).mono ?_); rintro e w4 ⟨v374, rfl, ho0, hb⟩; refine ⟨_, rfl, ?_⟩; have HO375 := Aside0.mk (Kd.V_lower (Kd.V_mono (ok' := fun k_ => True) ho0 (fun k_ hk_ => trivial)) (sz HB.out)); replace HB := Aside0.mk (bs HB.out hb); (try clear hb ho0); obtain ⟨Ao5, co5, rfl⟩ := Kd.V_slice HO375.out))
  go_ret
  exact ⟨fe, bz HB.out⟩
 ·rw [if_neg c3] at H
  have c3b0 := beq_eq_false_iff_ne.mpr c3
  have c3b1 := bne_iff_ne.mpr c3
  have c3b2 : ¬ (t373 = []) := fun h_ => c3 (by rw [h_]; rfl)
  have H' := Aside0.mk H
  clear H
  go_enter Tryz.func74, Tryz.ntmps74
  go_wp2_with (first | ((with_reducible refine gc 109 rfl ?_); refine gl (some 7) Tryz.func109 #[.string a0] ?_; (with_reducible refine (natural_parse.calls k a0 t373 _ A2.out).mono ?_); rintro e w6 ⟨v374, rfl, ho0, hb⟩; refine ⟨_, rfl, ?_⟩; have HO375 := Aside0.mk (Kd.V_lower (Kd.V_mono (ok' := fun k_ => True) ho0 (fun k_ hk_ => trivial)) (sz HB.out)); replace HB := Aside0.mk (bs HB.out hb); (try clear hb ho0); obtain ⟨Ao7, co7, rfl⟩ := Kd.V_slice HO375.out))
  go_loopg [3, 4] k (fun kq v3 v4 w' => ∃ (x3_1 : List Int) (x4_1 : List Int), Aside0 (natural_Format.l0 kq x3_1 x4_1 = some r) ∧ Aside0 (kq ≤ k) ∧ Aside0 (Kd.V (Kd.int .u32) 52 w' w.heap.size (fun k_ => some k_ ≠ (v4 : Value).ownBlock) v3 x3_1) ∧ Aside0 (Kd.R (Kd.int .u8) 5 w' w.heap.size (fun _ => True) v4 x4_1) ∧ Aside0 (Below w.heap.size w w'))
  case atStart => exact ⟨(t373), (([] : List Int)), H', ⟨Nat.le_refl _⟩, ⟨vm HO375.out (fun _ hk => (by simp [Value.ownBlock]))⟩, ⟨by first | exact Kd.R_nil _ _ _ _ _ | exact Kd.N_nil _ _ _ _ _ | exact Kd.V_nil _ _ _ _ _ | exact Kd.Q_nil _ _ _ _ _ | exact Kd.S_nil _ _ _ _ _⟩, ⟨bz HB.out⟩⟩
  case round =>
   clear H'
   (try clear c3b0); (try clear c3b1); (try clear c3b2)
   obtain ⟨x3_1, x4_1, HA, HK1, HO_3, HO_4, HB⟩ := hrel
   cases gk with
   | zero => exact absurd HA.out (by simp [natural_Format.l0])
   | succ k1 =>
    have H := HA.out
    clear HA
    simp only [natural_Format.l0] at H
    by_cases c8 : (x3_1.length : Int) > 0
    ·rw [if_pos c8] at H
     have c8b0 : decide (0 < (x3_1.length : Int)) = true := decide_eq_true c8
     have c8b1 : decide (0 < x3_1.length) = true := decide_eq_true (by omega)
     clear c8
     obtain ⟨⟨t378, t381⟩, A9, H⟩ := bs1 H; dsimp only at H
     have H' := Aside0.mk H
     clear H
     obtain ⟨Ao10, co10, rfl⟩ := Kd.V_slice HO_3.out
     go_wp2_with (first | ((with_reducible refine gc 116 rfl ?_); refine gl (some 16) Tryz.func116 #[.slice Ao10 x3_1.length co10, .int .u32 1000000000] ?_; (with_reducible refine (natural_divideSmall.calls k1 _ _ x3_1 1000000000 t378 t381 _ ?side1 ?side2 A9.out).mono ?_); (case side1 => exact vs (Kd.V_reads' HO_3.out).2.2); (case side2 => exact (Kd.V_reads' HO_3.out).2.1); rintro e w11 ⟨v379, rfl, ho0, hb⟩; refine ⟨_, rfl, ?_⟩; replace HO_3 := Aside0.mk (vb HO_3.out hb); have HO380 := Aside0.mk (Kd.V_lower (Kd.V_mono (ok' := fun k_ => some k_ ≠ (u4 : Value).ownBlock) ho0 (fun k_ hk_ => (Kd.fresh' (Kd.R_lt (vs HO_4.out)) k_ hk_))) (sz HB.out)); replace HO_4 := Aside0.mk (rb HO_4.out hb); replace HB := Aside0.mk (bs HB.out hb); (try clear hb ho0)))
     go_loopg [4, 5, 19] k1 (fun kq v4 v5 v19 w' => ∃ (x4_2 : List Int) (x5_2 : Int) (x19_2 : Int), v5 = .int .u32 x5_2 ∧ v19 = .int .i64 x19_2 ∧ Aside0 (natural_Format.l1 kq t378 x4_2 x5_2 x19_2 = some r) ∧ Aside0 (kq ≤ k1) ∧ Aside0 (Kd.V (Kd.int .u32) 52 w' w.heap.size (fun k_ => some k_ ≠ (v4 : Value).ownBlock) v379 t378) ∧ Aside0 (Kd.R (Kd.int .u8) 5 w' w.heap.size (fun _ => True) v4 x4_2) ∧ Aside0 (Below w.heap.size w w'))
     case atStart => exact ⟨(x4_1), (t381), (0), fs, fs, H', ⟨Nat.le_refl _⟩, ⟨vs HO380.out⟩, ⟨vs HO_4.out⟩, ⟨bz HB.out⟩⟩
     case round =>
      clear H'
      (try clear c3b0); (try clear c3b1); (try clear c3b2); (try clear c8b0); (try clear c8b1)
      obtain ⟨x4_2, x5_2, x19_2, rfl, rfl, HA, HK2, HO_3, HO_4, HB⟩ := hrel
      cases gk with
      | zero => exact absurd HA.out (by simp [natural_Format.l1])
      | succ k2 =>
       have H := HA.out
       clear HA
       simp only [natural_Format.l1] at H
       by_cases c12 : x19_2 < 9
       ·rw [if_pos c12] at H
        have c12b0 : decide (x19_2 < 9) = true := decide_eq_true c12
        clear c12
        obtain ⟨c13, H⟩ := iN H
        have LMc13 := Aside0.mk c13
        clear c13
        obtain ⟨y382, hy382⟩ : ∃ y_ : List Int, y_ = (x4_2 ++ [(48 + (Int.tmod x5_2 10)) % 256]) := ⟨_, rfl⟩
        (try first | rw [← hy382] at H | (dsimp only at H; rw [← hy382] at H)); (try rw [Option.bind_some] at H)
        have Ny382 := Aside0.mk hy382
        clear hy382
        have H' := Aside0.mk H
        clear H
        go_wp2_with (first | ((with_reducible refine gate_builtin (b := .append) (xs := #[.tmp 21, .tmp 26]) rfl ?_); at_builtin; refine Kd.R_append (Kd.int .u8) (w0 := w) w.heap.size rfl (.tmp 21) (.tmp 26) 57 5 (.int .u8 0) 1 rfl Tryz.underlying57 info5 rfl (by decide) (by omega) u4 x4_2 ((48 + (Int.tmod x5_2 10)) % 256) [.int .u8 ((48 + (Int.tmod x5_2 10)) % 256)] (fun _ => True) (fun _ => False) rfl rfl ?aP (fun _ hk => hk.elim) ?aF ?aO ?aB ?aS ?aL ?_; (case aP => exact rfl); (case aB => exact (bz HB.out)); (case aF => exact (fun _ _ => trivial)); (case aO => exact (vs HO_4.out)); (case aS => exact (sz HB.out)); (case aL => have := LMc13.out; omega); intro v383 w14 ho hb hg hat; rw [← Ny382.out] at ho; replace HO_3 := Aside0.mk (Kd.V_afterv (ok := (fun _ => True)) (vm HO_3.out (fun _ hk => ⟨trivial, hk⟩)) hg hat); replace HB := Aside0.mk (hb); have HO384 := Aside0.mk (ho); clear HO_4; clear ho hb hg hat))
        go_roundg k2
        case measure => have := HK1.out; have := HK2.out; omega
        case rel => exact ⟨(y382), ((Int.tdiv x5_2 10) % 4294967296), (wrap64 (x19_2 + 1)), fs, fs, H', ⟨by have := HK1.out; have := HK2.out; omega⟩, ⟨vm HO_3.out (fun _ hk => hk.2)⟩, ⟨vs HO384.out⟩, ⟨bz HB.out⟩⟩
       ·rw [if_neg c12] at H
        have c12b0 : decide (x19_2 < 9) = false := decide_eq_false c12
        clear c12
        have H' := Aside0.mk H
        clear H
        go_wp2
        go_roundg k2
        case measure => have := HK1.out; have := HK2.out; omega
        case rel => exact ⟨(t378), (x4_2), H', ⟨by have := HK1.out; have := HK2.out; omega⟩, ⟨vs HO_3.out⟩, ⟨vs HO_4.out⟩, ⟨bz HB.out⟩⟩
    ·rw [if_neg c8] at H
     have c8b0 : decide (0 < (x3_1.length : Int)) = false := decide_eq_false c8
     have c8b1 : decide (0 < x3_1.length) = false := decide_eq_false (by omega)
     clear c8
     obtain ⟨t376, A15, H⟩ := bs1 H
     obtain ⟨t377, A16, H⟩ := bs1 H
     obtain rfl := Option.some.inj H
     obtain ⟨Ao17, co17, rfl⟩ := Kd.V_slice HO_3.out
     obtain ⟨Ao18, co18, eo18⟩ := Kd.R_slice HO_4.out
     subst eo18
     go_wp2_with (first | ((with_reducible refine gc 117 rfl ?_); refine gl (some 32) Tryz.func117 #[.slice Ao18 x4_1.length co18] ?_; (with_reducible refine (slices_Reverse_byte_byte.calls k1 (fun k_ => some k_ = (.slice Ao18 x4_1.length co18 : Value).ownBlock) (.slice Ao18 x4_1.length co18) x4_1 t376 w _ ?side1 ?side2 A15.out).mono ?_); (case side1 => repeat (first | (with_reducible first | exact HB.out | apply below_alloc | apply pw_below_drewN | apply below_drew1) | exact HB.out)); (case side2 => exact Kd.R_tight rfl HO_4.out); rintro e w19 ⟨rfl, hy0, hb, hkp⟩; refine ⟨_, rfl, ?_⟩; replace HO_3 := Aside0.mk (Kd.V_mono (ok' := fun k_ => some k_ ≠ (.slice Ao18 x4_1.length co18 : Value).ownBlock) (Kd.V_keptB (HO_3.out) hkp (fun k_ hk_ hs_ => (hk_) hs_)) (fun k_ hk_ => hk_.1)); replace HO_4 := Aside0.mk (Kd.R_reok rfl hy0 (fun k_ e_ => HO_4.out.1 k_ e_)); replace HB := Aside0.mk (hb); (try clear hb hkp hy0); have hcv20 := own_string (P := Tryz.prog) Tryz.underlying57 Tryz.underlying5 Tryz.underlying9 (Kd.own_of_R HO_4.out)) | ((with_reducible refine gc 112 rfl ?_); refine gl (some 35) Tryz.func112 #[.string (strOfNums t376), .string (⟨#[48]⟩ : ByteArray)] ?_; (with_reducible refine (strings_TrimLeft.calls k1 (strOfNums t376) (⟨#[48]⟩ : ByteArray) t377 _ A16.out).mono ?_); rintro e w21 ⟨rfl, hb⟩; refine ⟨_, rfl, ?_⟩; replace HO_3 := Aside0.mk (vb HO_3.out hb); replace HO_4 := Aside0.mk (rb HO_4.out hb); replace HB := Aside0.mk (bs HB.out hb); (try clear hb)))
     go_ret
     exact ⟨fe, bz HB.out⟩

/-! ### rational_Format: function 20 -/
def rational_Format.f (k : Nat) (a0_0 : Bool) (a0_1 : ByteArray) (a0_2 : ByteArray) : Option (ByteArray) := (rational_clean.f k a0_0 a0_1 a0_2).bind fun bt386 => ((natural_Format.f k bt386.2.1).bind fun t389 => (if bt386.1 = true then (if 1 + t389.size ≤ 9223372036854775807 then (if bt386.2.2.toList = ([] : List UInt8) then (some ((⟨#[45]⟩ : ByteArray) ++ t389)) else ((natural_Format.f k bt386.2.2).bind fun t390 => (if 1 + t390.size ≤ 9223372036854775807 then (if ((⟨#[45]⟩ : ByteArray) ++ t389).size + ((⟨#[47]⟩ : ByteArray) ++ t390).size ≤ 9223372036854775807 then (some (((⟨#[45]⟩ : ByteArray) ++ t389) ++ ((⟨#[47]⟩ : ByteArray) ++ t390))) else (none)) else (none)))) else (none)) else (if bt386.2.2.toList = ([] : List UInt8) then (some t389) else ((natural_Format.f k bt386.2.2).bind fun t391 => (if 1 + t391.size ≤ 9223372036854775807 then (if t389.size + ((⟨#[47]⟩ : ByteArray) ++ t391).size ≤ 9223372036854775807 then (some (t389 ++ ((⟨#[47]⟩ : ByteArray) ++ t391))) else (none)) else (none))))))
set_option maxHeartbeats 8000000 in
set_option maxRecDepth 100000 in
theorem rational_Format.calls (k : Nat) (a0_0 : Bool) (a0_1 : ByteArray) (a0_2 : ByteArray) (r : ByteArray) (w : World) (h : rational_Format.f k a0_0 a0_1 a0_2 = some r) :
  Calls Tryz.prog 20 #[.agg #[.bool a0_0, .string a0_1, .string a0_2]] w fun e w' => e = .returned (.string r) ∧ Below w.heap.size w w' := by
 have hu24 := Tryz.underlying24
 have HB := Aside0.mk (Below.refl w.heap.size w)
 have H := h
 clear h
 unfold rational_Format.f at H
 obtain ⟨⟨t386, t387, t388⟩, A2, H⟩ := bs1 H; dsimp only at H
 obtain ⟨t389, A3, H⟩ := bs1 H
 by_cases c4 : t386 = true
 ·subst c4
  have H1 : (if 1 + t389.size ≤ 9223372036854775807 then (if t388.toList = ([] : List UInt8) then (some ((⟨#[45]⟩ : ByteArray) ++ t389)) else ((natural_Format.f k t388).bind fun t390 => (if 1 + t390.size ≤ 9223372036854775807 then (if ((⟨#[45]⟩ : ByteArray) ++ t389).size + ((⟨#[47]⟩ : ByteArray) ++ t390).size ≤ 9223372036854775807 then (some (((⟨#[45]⟩ : ByteArray) ++ t389) ++ ((⟨#[47]⟩ : ByteArray) ++ t390))) else (none)) else (none)))) else (none)) = some r := by rw [if_pos rfl] at H; exact H
  clear H
  have H := H1
  clear H1
  obtain ⟨c5, H⟩ := iN H
  have c5b0 := eq_true c5
  have c5b1 : decide (1 + t389.size ≤ 9223372036854775807) = true := decide_eq_true c5
  try have c5b2 : (9223372036854775807 < 1 + t389.size) = False := eq_false (Nat.not_lt.2 c5)
  by_cases c6 : t388.toList = ([] : List UInt8)
  ·rw [if_pos c6] at H
   have c6b0 := beq_iff_eq.mpr c6
   have c6b1 := bne_eq_false_iff_eq.mpr c6
   clear c6
   obtain rfl := Option.some.inj H
   go_enter Tryz.func20, Tryz.ntmps20
   go_wp2_with (first | ((with_reducible refine gd 1 rfl ?_); refine bx 1 (#[.bool a0_0, .string a0_1, .string a0_2]) 24 ?_; intro gb385 hg w7 hbox hb; have BK385 := Aside0.mk (hbox); have GW385 := sg hg HB.out; have GE385 := sg hg HB.out; replace HB := Aside0.mk (bs HB.out hb); clear hb hbox hg; obtain ⟨hcz8_0, hcz8_1, hcz8_2, hfz8_0, hfz8_1, hfz8_2⟩ := cz BK385.out) | ((with_reducible refine gc 73 rfl ?_); refine gl (some 5) Tryz.func73 #[.agg #[.bool a0_0, .string a0_1, .string a0_2]] ?_; (with_reducible refine (rational_clean.calls k a0_0 a0_1 a0_2 true t387 t388 _ A2.out).mono ?_); rintro e w9 ⟨rfl, hb⟩; refine ⟨_, rfl, ?_⟩; replace BK385 := Aside0.mk (bk0 BK385.out hb); replace HB := Aside0.mk (bs HB.out hb); (try clear hb); obtain ⟨hcz10_0, hcz10_1, hcz10_2, hfz10_0, hfz10_1, hfz10_2⟩ := cz BK385.out) | ((with_reducible refine gc 74 rfl ?_); refine gl (some 8) Tryz.func74 #[.string t387] ?_; (with_reducible refine (natural_Format.calls k t387 t389 _ A3.out).mono ?_); rintro e w11 ⟨rfl, hb⟩; refine ⟨_, rfl, ?_⟩; replace BK385 := Aside0.mk (bk BK385.out hb (.cells #[.bool true, .string t387, .string t388] 24 (0, 0))); replace HB := Aside0.mk (bs HB.out hb); (try clear hb); obtain ⟨hcz12_0, hcz12_1, hcz12_2, hfz12_0, hfz12_1, hfz12_2⟩ := cz BK385.out))
   go_ret
   exact ⟨fe, bz HB.out⟩
  ·rw [if_neg c6] at H
   have c6b0 := beq_eq_false_iff_ne.mpr c6
   have c6b1 := bne_iff_ne.mpr c6
   obtain ⟨t390, A13, H⟩ := bs1 H
   obtain ⟨c14, H⟩ := iN H
   have c14b0 := eq_true c14
   have c14b1 : decide (1 + t390.size ≤ 9223372036854775807) = true := decide_eq_true c14
   try have c14b2 : (9223372036854775807 < 1 + t390.size) = False := eq_false (Nat.not_lt.2 c14)
   obtain ⟨c15, H⟩ := iN H
   have c15b0 := eq_true c15
   have c15b1 : decide (((⟨#[45]⟩ : ByteArray) ++ t389).size + ((⟨#[47]⟩ : ByteArray) ++ t390).size ≤ 9223372036854775807) = true := decide_eq_true c15
   try have c15b2 : (9223372036854775807 < ((⟨#[45]⟩ : ByteArray) ++ t389).size + ((⟨#[47]⟩ : ByteArray) ++ t390).size) = False := eq_false (Nat.not_lt.2 c15)
   obtain rfl := Option.some.inj H
   go_enter Tryz.func20, Tryz.ntmps20
   go_wp2_with (first | ((with_reducible refine gd 1 rfl ?_); refine bx 1 (#[.bool a0_0, .string a0_1, .string a0_2]) 24 ?_; intro gb385 hg w16 hbox hb; have BK385 := Aside0.mk (hbox); have GW385 := sg hg HB.out; have GE385 := sg hg HB.out; replace HB := Aside0.mk (bs HB.out hb); clear hb hbox hg; obtain ⟨hcz17_0, hcz17_1, hcz17_2, hfz17_0, hfz17_1, hfz17_2⟩ := cz BK385.out) | ((with_reducible refine gc 73 rfl ?_); refine gl (some 5) Tryz.func73 #[.agg #[.bool a0_0, .string a0_1, .string a0_2]] ?_; (with_reducible refine (rational_clean.calls k a0_0 a0_1 a0_2 true t387 t388 _ A2.out).mono ?_); rintro e w18 ⟨rfl, hb⟩; refine ⟨_, rfl, ?_⟩; replace BK385 := Aside0.mk (bk0 BK385.out hb); replace HB := Aside0.mk (bs HB.out hb); (try clear hb); obtain ⟨hcz19_0, hcz19_1, hcz19_2, hfz19_0, hfz19_1, hfz19_2⟩ := cz BK385.out) | ((with_reducible refine gc 74 rfl ?_); refine gl (some 8) Tryz.func74 #[.string t387] ?_; (with_reducible refine (natural_Format.calls k t387 t389 _ A3.out).mono ?_); rintro e w20 ⟨rfl, hb⟩; refine ⟨_, rfl, ?_⟩; replace BK385 := Aside0.mk (bk BK385.out hb (.cells #[.bool true, .string t387, .string t388] 24 (0, 0))); replace HB := Aside0.mk (bs HB.out hb); (try clear hb); obtain ⟨hcz21_0, hcz21_1, hcz21_2, hfz21_0, hfz21_1, hfz21_2⟩ := cz BK385.out) | ((with_reducible refine gc 74 rfl ?_); refine gl (some 19) Tryz.func74 #[.string t388] ?_; (with_reducible refine (natural_Format.calls k t388 t390 _ A13.out).mono ?_); rintro e w22 ⟨rfl, hb⟩; refine ⟨_, rfl, ?_⟩; replace BK385 := Aside0.mk (bk0 BK385.out hb); replace HB := Aside0.mk (bs HB.out hb); (try clear hb)))
   go_ret
   exact ⟨fe, bz HB.out⟩
 ·replace c4 := Bool.eq_false_iff.mpr c4
  subst c4
  have H1 : (if t388.toList = ([] : List UInt8) then (some t389) else ((natural_Format.f k t388).bind fun t391 => (if 1 + t391.size ≤ 9223372036854775807 then (if t389.size + ((⟨#[47]⟩ : ByteArray) ++ t391).size ≤ 9223372036854775807 then (some (t389 ++ ((⟨#[47]⟩ : ByteArray) ++ t391))) else (none)) else (none)))) = some r := by rw [if_neg (show ¬ (false = true) by decide)] at H; exact H
  clear H
  have H := H1
  clear H1
  by_cases c23 : t388.toList = ([] : List UInt8)
  ·rw [if_pos c23] at H
   have c23b0 := beq_iff_eq.mpr c23
   have c23b1 := bne_eq_false_iff_eq.mpr c23
   clear c23
   obtain rfl := Option.some.inj H
   go_enter Tryz.func20, Tryz.ntmps20
   go_wp2_with (first | ((with_reducible refine gd 1 rfl ?_); refine bx 1 (#[.bool a0_0, .string a0_1, .string a0_2]) 24 ?_; intro gb385 hg w24 hbox hb; have BK385 := Aside0.mk (hbox); have GW385 := sg hg HB.out; have GE385 := sg hg HB.out; replace HB := Aside0.mk (bs HB.out hb); clear hb hbox hg; obtain ⟨hcz25_0, hcz25_1, hcz25_2, hfz25_0, hfz25_1, hfz25_2⟩ := cz BK385.out) | ((with_reducible refine gc 73 rfl ?_); refine gl (some 5) Tryz.func73 #[.agg #[.bool a0_0, .string a0_1, .string a0_2]] ?_; (with_reducible refine (rational_clean.calls k a0_0 a0_1 a0_2 false t387 t388 _ A2.out).mono ?_); rintro e w26 ⟨rfl, hb⟩; refine ⟨_, rfl, ?_⟩; replace BK385 := Aside0.mk (bk0 BK385.out hb); replace HB := Aside0.mk (bs HB.out hb); (try clear hb); obtain ⟨hcz27_0, hcz27_1, hcz27_2, hfz27_0, hfz27_1, hfz27_2⟩ := cz BK385.out) | ((with_reducible refine gc 74 rfl ?_); refine gl (some 8) Tryz.func74 #[.string t387] ?_; (with_reducible refine (natural_Format.calls k t387 t389 _ A3.out).mono ?_); rintro e w28 ⟨rfl, hb⟩; refine ⟨_, rfl, ?_⟩; replace BK385 := Aside0.mk (bk BK385.out hb (.cells #[.bool false, .string t387, .string t388] 24 (0, 0))); replace HB := Aside0.mk (bs HB.out hb); (try clear hb); obtain ⟨hcz29_0, hcz29_1, hcz29_2, hfz29_0, hfz29_1, hfz29_2⟩ := cz BK385.out))
   go_ret
   exact ⟨fe, bz HB.out⟩
  ·rw [if_neg c23] at H
   have c23b0 := beq_eq_false_iff_ne.mpr c23
   have c23b1 := bne_iff_ne.mpr c23
   obtain ⟨t391, A30, H⟩ := bs1 H
   obtain ⟨c31, H⟩ := iN H
   have c31b0 := eq_true c31
   have c31b1 : decide (1 + t391.size ≤ 9223372036854775807) = true := decide_eq_true c31
   try have c31b2 : (9223372036854775807 < 1 + t391.size) = False := eq_false (Nat.not_lt.2 c31)
   obtain ⟨c32, H⟩ := iN H
   have c32b0 := eq_true c32
   have c32b1 : decide (t389.size + ((⟨#[47]⟩ : ByteArray) ++ t391).size ≤ 9223372036854775807) = true := decide_eq_true c32
   try have c32b2 : (9223372036854775807 < t389.size + ((⟨#[47]⟩ : ByteArray) ++ t391).size) = False := eq_false (Nat.not_lt.2 c32)
   obtain rfl := Option.some.inj H
   go_enter Tryz.func20, Tryz.ntmps20
   go_wp2_with (first | ((with_reducible refine gd 1 rfl ?_); refine bx 1 (#[.bool a0_0, .string a0_1, .string a0_2]) 24 ?_; intro gb385 hg w33 hbox hb; have BK385 := Aside0.mk (hbox); have GW385 := sg hg HB.out; have GE385 := sg hg HB.out; replace HB := Aside0.mk (bs HB.out hb); clear hb hbox hg; obtain ⟨hcz34_0, hcz34_1, hcz34_2, hfz34_0, hfz34_1, hfz34_2⟩ := cz BK385.out) | ((with_reducible refine gc 73 rfl ?_); refine gl (some 5) Tryz.func73 #[.agg #[.bool a0_0, .string a0_1, .string a0_2]] ?_; (with_reducible refine (rational_clean.calls k a0_0 a0_1 a0_2 false t387 t388 _ A2.out).mono ?_); rintro e w35 ⟨rfl, hb⟩; refine ⟨_, rfl, ?_⟩; replace BK385 := Aside0.mk (bk0 BK385.out hb); replace HB := Aside0.mk (bs HB.out hb); (try clear hb); obtain ⟨hcz36_0, hcz36_1, hcz36_2, hfz36_0, hfz36_1, hfz36_2⟩ := cz BK385.out) | ((with_reducible refine gc 74 rfl ?_); refine gl (some 8) Tryz.func74 #[.string t387] ?_; (with_reducible refine (natural_Format.calls k t387 t389 _ A3.out).mono ?_); rintro e w37 ⟨rfl, hb⟩; refine ⟨_, rfl, ?_⟩; replace BK385 := Aside0.mk (bk BK385.out hb (.cells #[.bool false, .string t387, .string t388] 24 (0, 0))); replace HB := Aside0.mk (bs HB.out hb); (try clear hb); obtain ⟨hcz38_0, hcz38_1, hcz38_2, hfz38_0, hfz38_1, hfz38_2⟩ := cz BK385.out) | ((with_reducible refine gc 74 rfl ?_); refine gl (some 19) Tryz.func74 #[.string t388] ?_; (with_reducible refine (natural_Format.calls k t388 t391 _ A30.out).mono ?_); rintro e w39 ⟨rfl, hb⟩; refine ⟨_, rfl, ?_⟩; replace BK385 := Aside0.mk (bk0 BK385.out hb); replace HB := Aside0.mk (bs HB.out hb); (try clear hb)))
   go_ret
   exact ⟨fe, bz HB.out⟩

/-! ### rational_den: function 77 -/
def rational_den.f (a0_0 : Bool) (a0_1 : ByteArray) (a0_2 : ByteArray) : Option (ByteArray) := if a0_2.toList = ([] : List UInt8) then (some (⟨#[1]⟩ : ByteArray)) else (some a0_2)
set_option maxHeartbeats 8000000 in
set_option maxRecDepth 100000 in
theorem rational_den.calls (a0_0 : Bool) (a0_1 : ByteArray) (a0_2 : ByteArray) (r : ByteArray) (w : World) (h : rational_den.f a0_0 a0_1 a0_2 = some r) :
  Calls Tryz.prog 77 #[.agg #[.bool a0_0, .string a0_1, .string a0_2]] w fun e w' => e = .returned (.string r) ∧ Below w.heap.size w w' := by
 have hu24 := Tryz.underlying24
 have HB := Aside0.mk (Below.refl w.heap.size w)
 have H := h
 clear h
 unfold rational_den.f at H
 by_cases c2 : a0_2.toList = ([] : List UInt8)
 ·rw [if_pos c2] at H
  have c2b0 := beq_iff_eq.mpr c2
  have c2b1 := bne_eq_false_iff_eq.mpr c2
  clear c2
  obtain rfl := Option.some.inj H
  go_enter Tryz.func77, Tryz.ntmps77
  go_wp2_with (first | ((with_reducible refine gd 1 rfl ?_); refine bx 1 (#[.bool a0_0, .string a0_1, .string a0_2]) 24 ?_; intro gb392 hg w3 hbox hb; have BK392 := Aside0.mk (hbox); have GW392 := sg hg HB.out; have GE392 := sg hg HB.out; replace HB := Aside0.mk (bs HB.out hb); clear hb hbox hg; obtain ⟨hcz4_0, hcz4_1, hcz4_2, hfz4_0, hfz4_1, hfz4_2⟩ := cz BK392.out))
  go_ret
  exact ⟨fe, bz HB.out⟩
 ·rw [if_neg c2] at H
  have c2b0 := beq_eq_false_iff_ne.mpr c2
  have c2b1 := bne_iff_ne.mpr c2
  obtain rfl := Option.some.inj H
  go_enter Tryz.func77, Tryz.ntmps77
  go_wp2_with (first | ((with_reducible refine gd 1 rfl ?_); refine bx 1 (#[.bool a0_0, .string a0_1, .string a0_2]) 24 ?_; intro gb392 hg w5 hbox hb; have BK392 := Aside0.mk (hbox); have GW392 := sg hg HB.out; have GE392 := sg hg HB.out; replace HB := Aside0.mk (bs HB.out hb); clear hb hbox hg; obtain ⟨hcz6_0, hcz6_1, hcz6_2, hfz6_0, hfz6_1, hfz6_2⟩ := cz BK392.out))
  go_ret
  exact ⟨fe, bz HB.out⟩

-- NOT PRINTED: function 149 (bits_Mul32)

-- NOT PRINTED: function 150 (bits_Mul64)

-- NOT PRINTED: function 121 (bits_Mul)

/-! ### strings_Repeat: function 78 (by hand) -/
def strings_Repeat.f (a0 : ByteArray) (a1 : Int) : Option (ByteArray) := if 0 ≤ a1 ∧ a1 ≤ 9223372036854775807 ∧ a0.size * a1.toNat ≤ 140737488355328 then some ⟨(Lib.repeatL a0.data.toList a1.toNat).toArray⟩ else none
theorem strings_Repeat.calls (a0 : ByteArray) (a1 : Int) (r : ByteArray) (w : World) (h : strings_Repeat.f a0 a1 = some r) :
  Calls Tryz.prog 78 #[.string a0, .int .i64 a1] w fun e w' => e = .returned (.string r) ∧ Below w.heap.size w w' := by
 unfold strings_Repeat.f at h
 split at h
 ·rename_i hc
  obtain rfl := Option.some.inj h
  obtain ⟨c, rfl⟩ := Int.eq_ofNat_of_zero_le hc.1
  simp only [Int.toNat_natCast] at hc ⊢
  exact Tryz.strings_Repeat a0 c w (by omega) hc.2.2
 ·cases h

/-! ### rational_Decimal: function 23 -/
def rational_Decimal.j0 : Nat → Int → ByteArray → ByteArray → Bool → ByteArray → ByteArray → Option (ByteArray)
 | 0, _, _, _, _, _, _ => none
 | k + 1, x1, x5, x8, x395000, x395001, x395002 => if x1 > 0 then (if 0 ≤ (wrap64 ((x8.size : Int) - x1)) then (if (wrap64 ((x8.size : Int) - x1)) ≤ (x8.size : Int) then (if (x8.extract 0 ((wrap64 ((x8.size : Int) - x1)) : Int).toNat).size + 1 ≤ 9223372036854775807 then (if ((x8.extract 0 ((wrap64 ((x8.size : Int) - x1)) : Int).toNat) ++ (⟨#[46]⟩ : ByteArray)).size + (x8.extract ((wrap64 ((x8.size : Int) - x1)) : Int).toNat x8.size).size ≤ 9223372036854775807 then (if x395000 = true then (if x5.toList = ([] : List UInt8) then (some (((x8.extract 0 ((wrap64 ((x8.size : Int) - x1)) : Int).toNat) ++ (⟨#[46]⟩ : ByteArray)) ++ (x8.extract ((wrap64 ((x8.size : Int) - x1)) : Int).toNat x8.size))) else (if 1 + (((x8.extract 0 ((wrap64 ((x8.size : Int) - x1)) : Int).toNat) ++ (⟨#[46]⟩ : ByteArray)) ++ (x8.extract ((wrap64 ((x8.size : Int) - x1)) : Int).toNat x8.size)).size ≤ 9223372036854775807 then (some ((⟨#[45]⟩ : ByteArray) ++ (((x8.extract 0 ((wrap64 ((x8.size : Int) - x1)) : Int).toNat) ++ (⟨#[46]⟩ : ByteArray)) ++ (x8.extract ((wrap64 ((x8.size : Int) - x1)) : Int).toNat x8.size)))) else (none))) else (some (((x8.extract 0 ((wrap64 ((x8.size : Int) - x1)) : Int).toNat) ++ (⟨#[46]⟩ : ByteArray)) ++ (x8.extract ((wrap64 ((x8.size : Int) - x1)) : Int).toNat x8.size)))) else (none)) else (none)) else (none)) else (none)) else (if x395000 = true then (if x5.toList = ([] : List UInt8) then (some x8) else (if 1 + x8.size ≤ 9223372036854775807 then (some ((⟨#[45]⟩ : ByteArray) ++ x8)) else (none))) else (some x8))
def rational_Decimal.f (k : Nat) (a0_0 : Bool) (a0_1 : ByteArray) (a0_2 : ByteArray) (a1 : Int) : Option (ByteArray) := (rational_clean.f k a0_0 a0_1 a0_2).bind fun bt395 => ((rational_tenTo.f k (mn (mx a1 0) 20)).bind fun t398 => ((natural_Multiply.f k bt395.2.1 t398).bind fun t399 => ((rational_den.f bt395.1 bt395.2.1 bt395.2.2).bind fun t400 => ((natural_Divide.f k t399 t400).bind fun bt401 => ((natural_Format.f k bt401.1).bind fun t404 => (if (t404.size : Int) ≤ (mn (mx a1 0) 20) then ((strings_Repeat.f (⟨#[48]⟩ : ByteArray) (wrap64 (((mn (mx a1 0) 20) + 1) - (t404.size : Int)))).bind fun t405 => (if t405.size + t404.size ≤ 9223372036854775807 then (rational_Decimal.j0 k (mn (mx a1 0) 20) bt401.1 (t405 ++ t404) bt395.1 bt395.2.1 bt395.2.2) else (none))) else (rational_Decimal.j0 k (mn (mx a1 0) 20) bt401.1 t404 bt395.1 bt395.2.1 bt395.2.2)))))))
def rational_Decimal.T3 : Bool × List (List Nat × List Nat) := (true, [([], []), ([0], [0]), ([], []), ([2], [2]), ([1, 3, 3], [1, 3]), ([], []), ([5, 4], [5]), ([4, 6, 6], [4, 6]), ([7], [7]), ([8], [8]), ([8], [8]), ([8], [8]), ([9, 7, 0, 1, 2, 3, 4, 5, 6, 7, 8, 9], [9]), ([10, 12, 0, 1, 2, 3, 4, 5, 6, 7, 8, 9, 10, 12], [10]), ([11, 13, 0, 1, 2, 3, 4, 5, 6, 7, 8, 9, 10, 11, 12, 13], [11])])
def rational_Decimal.B3 : List Nat := [0, 1, 0, 4, 15, 0, 63, 127, 255, 511, 511, 511, 1023, 6143, 16383]
theorem rational_Decimal.tab3 : rtab .any (opsOf Tryz.f23 3) = rational_Decimal.T3 := by kernel_rfl
theorem rational_Decimal.bits3 : waitsOk rational_Decimal.T3.2 rational_Decimal.B3 = true := by kernel_rfl
def rational_Decimal.T8 : Bool × List (List Nat × List Nat) := (true, [([], []), ([], []), ([1], [1]), ([], []), ([2, 3], [2, 3]), ([0, 4], [0, 4]), ([5], [5]), ([], []), ([], []), ([8], [8]), ([], []), ([9, 10], [9, 10]), ([7, 11], [7, 11]), ([6, 12], [6, 12]), ([13, 0, 1, 2, 3, 4, 5, 6, 7, 8, 9, 10, 11, 12, 13], [0, 1, 7, 8, 13])])
def rational_Decimal.B8 : List Nat := [0, 0, 2, 0, 14, 31, 63, 0, 0, 256, 0, 1792, 3968, 8191, 16383]
theorem rational_Decimal.tab8 : rtab .any (opsOf Tryz.f23 8) = rational_Decimal.T8 := by kernel_rfl
theorem rational_Decimal.bits8 : waitsOk rational_Decimal.T8.2 rational_Decimal.B8 = true := by kernel_rfl
set_option maxHeartbeats 8000000 in
set_option maxRecDepth 100000 in
theorem rational_Decimal.calls (k : Nat) (a0_0 : Bool) (a0_1 : ByteArray) (a0_2 : ByteArray) (a1 : Int) (r : ByteArray) (w : World) (h : rational_Decimal.f k a0_0 a0_1 a0_2 a1 = some r) :
  Calls Tryz.prog 23 #[.agg #[.bool a0_0, .string a0_1, .string a0_2], .int .i64 a1] w fun e w' => e = .returned (.string r) ∧ Below w.heap.size w w' := by
 have hu24 := Tryz.underlying24
 have HB := Aside0.mk (Below.refl w.heap.size w)
 have H := h
 clear h
 unfold rational_Decimal.f at H
 obtain ⟨⟨t395, t396, t397⟩, A3, H⟩ := bs1 H; dsimp only at H
 obtain ⟨ji4, hji4⟩ : ∃ j_ : Int, (mx a1 0) = j_ := ⟨_, rfl⟩
 first | rw [hji4] at H | simp only [hji4] at H
 (try rw [hji4] at A3)
 (try (have hji4l : 0 ≤ ji4 := by (rw [← hji4]; unfold mx; (repeat' split) <;> omega)))
 (try (have hji4m : 0 ≤ ji4 := by omega))
 have hji4_ : (if a1 < 0 then 0 else a1) = ji4 := hji4
 obtain ⟨ji5, hji5⟩ : ∃ j_ : Int, (mn (ji4) 20) = j_ := ⟨_, rfl⟩
 first | rw [hji5] at H | simp only [hji5] at H
 (try rw [hji5] at A3)
 have hji5_ : (if 20 < (ji4) then 20 else (ji4)) = ji5 := hji5
 obtain ⟨t398, A6, H⟩ := bs1 H
 obtain ⟨t399, A7, H⟩ := bs1 H
 obtain ⟨t400, A8, H⟩ := bs1 H
 obtain ⟨⟨t401, t402, t403⟩, A9, H⟩ := bs1 H; dsimp only at H
 obtain ⟨t404, A10, H⟩ := bs1 H
 have HC11 := Aside0.mk H
 clear H
 go_enter Tryz.func23, Tryz.ntmps23
 try go_wp2_with (first | ((with_reducible refine gd 2 rfl ?_); refine bx 2 (#[.bool a0_0, .string a0_1, .string a0_2]) 24 ?_; intro gb394 hg w12 hbox hb; have BK394 := Aside0.mk (hbox); have GW394 := sg hg HB.out; have GE394 := sg hg HB.out; replace HB := Aside0.mk (bs HB.out hb); clear hb hbox hg; obtain ⟨hcz13_0, hcz13_1, hcz13_2, hfz13_0, hfz13_1, hfz13_2⟩ := cz BK394.out) | ((with_reducible refine gc 73 rfl ?_); refine gl (some 10) Tryz.func73 #[.agg #[.bool a0_0, .string a0_1, .string a0_2]] ?_; (with_reducible refine (rational_clean.calls k a0_0 a0_1 a0_2 t395 t396 t397 _ A3.out).mono ?_); rintro e w14 ⟨rfl, hb⟩; refine ⟨_, rfl, ?_⟩; replace BK394 := Aside0.mk (bk0 BK394.out hb); replace HB := Aside0.mk (bs HB.out hb); (try clear hb); obtain ⟨hcz15_0, hcz15_1, hcz15_2, hfz15_0, hfz15_1, hfz15_2⟩ := cz BK394.out))
 have n0_ : Aside0 ((((w14.setCell ⟨gb394, 0, none⟩ (.bool t395)).setCell ⟨gb394, 1, none⟩ (.string t396)).setCell ⟨gb394, 2, none⟩ (.string t397)).heap[gb394]? = some (.cells #[.bool t395, .string t396, .string t397] 24 (0, 0))) := ⟨bq BK394.out⟩
 have n1_ : Aside0 (Below w.heap.size w (((w14.setCell ⟨gb394, 0, none⟩ (.bool t395)).setCell ⟨gb394, 1, none⟩ (.string t396)).setCell ⟨gb394, 2, none⟩ (.string t397))) := ⟨bz HB.out⟩
 (try clear BK394); (try clear HB)
 generalize (((w14.setCell ⟨gb394, 0, none⟩ (.bool t395)).setCell ⟨gb394, 1, none⟩ (.string t396)).setCell ⟨gb394, 2, none⟩ (.string t397)) = w16 at n0_ n1_ ⊢
 have BK394 := n0_
 have HB := n1_
 clear n0_ n1_
 replace BK394 := Aside0.mk (blk_drew BK394.out)
 replace HB := Aside0.mk (below_drew1 HB.out)
 refine start_ (n := 15) (S := fun w' => w'.cell? ⟨gb394, 0, none⟩ = some (.bool t395) ∧ w'.cell? ⟨gb394, 1, none⟩ = some (.string t396) ∧ w'.cell? ⟨gb394, 2, none⟩ = some (.string t397)) (ds := []) #[false, false, false, false, false, false, false, false, false, false, false, false, false, false, false] (by kernel_rfl) rfl rfl ⟨(blk_cell BK394.out 0).trans rfl, (blk_cell BK394.out 1).trans rfl, (blk_cell BK394.out 2).trans rfl⟩ (fun hHeld => ?_); refine with_tabW rational_Decimal.tab3 rational_Decimal.bits3 (fun HT_ HW_ => ?_)
 generalize w16.drew = w17 at BK394 HB hHeld ⊢
 refine py 0 (some 15) #[true, false, false, false, false, false, false, false, false, false, false, false, false, false, false] HT_ ?_
 refine py 2 (some 17) #[true, false, true, false, false, false, false, false, false, false, false, false, false, false, false] HT_ ?_
 refine take_ (i := 1) (N := some 16) (v := ?_) (a' := ?_) #[true, true, true, false, false, false, false, false, false, false, false, false, false, false, false] rfl rfl (take_ofW HT_.out HW_.out (by kernel_rfl)) (fun _ _ _ h => h) (Or.inl ⟨by rfl, ?_⟩) hHeld ?_ ?_
 rotate_left
 ·rintro w' ⟨s0, s1, s2⟩
  go_simp
  with_reducible rfl
 rotate_left
 ·simp only [Act.put, List.setIfInBounds_toArray, List.set_cons_zero, List.set_cons_succ, i64_w, i32_w]
  rfl
 refine take_ (i := 5) (N := some 20) (v := ?_) (a' := ?_) #[true, true, true, false, false, true, false, false, false, false, false, false, false, false, false] rfl rfl (take_ofW HT_.out HW_.out (by kernel_rfl)) (fun _ _ _ h => h) (Or.inl ⟨by rfl, ?_⟩) hHeld ?_ ?_
 rotate_left
 ·rintro w' ⟨s0, s1, s2⟩
  go_simp
  with_reducible rfl
 rotate_left
 ·simp only [Act.put, List.setIfInBounds_toArray, List.set_cons_zero, List.set_cons_succ, i64_w, i32_w]
  rfl
 refine one_ (i := 3) (N := some 18) #[true, true, true, true, false, true, false, false, false, false, false, false, false, false, false] rfl rfl (one_of HT_.out (by kernel_rfl)) (by decide) (fun K hK => ?_)
 refine goes_ Tryz.func61 (by kernel_rfl) rfl #[.int .i64 ji5] (by rfl) rfl rfl (by (try simp only [List.map_toArray, List.map_cons, List.map_nil]); first | done | (simp only [hji5]; rfl) | rfl | (simp only [List.length_drop, List.length_take]; rfl)) ?_
 with_reducible refine (rational_tenTo.calls k ji5 t398 _ A6.out).mono ?_
 rintro e w18 ⟨rfl, hb⟩
 refine ⟨_, rfl, ?_⟩
 replace BK394 := Aside0.mk (bk0 BK394.out hb)
 replace HB := Aside0.mk (bs HB.out hb)
 (try clear hb); (try clear hb2); (try clear hk); (try clear hi)
 refine hK.out _ _ ⟨(blk_cell BK394.out 0).trans rfl, (blk_cell BK394.out 1).trans rfl, (blk_cell BK394.out 2).trans rfl⟩ (fun hHeld => ?_)
 clear hK K
 refine nm ?_
 refine one_ (i := 4) (N := some 19) #[true, true, true, true, true, true, false, false, false, false, false, false, false, false, false] rfl rfl (one_of HT_.out (by kernel_rfl)) (by decide) (fun K hK => ?_)
 refine gs Tryz.func64 #[.string t396, .string t398] ?_
 with_reducible refine (natural_Multiply.calls k t396 t398 t399 _ A7.out).mono ?_
 rintro e w19 ⟨rfl, hb⟩
 refine ⟨_, rfl, ?_⟩
 replace BK394 := Aside0.mk (bk0 BK394.out hb)
 replace HB := Aside0.mk (bs HB.out hb)
 (try clear hb); (try clear hb2); (try clear hk); (try clear hi)
 refine hK.out _ _ ⟨(blk_cell BK394.out 0).trans rfl, (blk_cell BK394.out 1).trans rfl, (blk_cell BK394.out 2).trans rfl⟩ (fun hHeld => ?_)
 clear hK K
 refine nm ?_
 refine one_ (i := 6) (N := some 21) #[true, true, true, true, true, true, true, false, false, false, false, false, false, false, false] rfl rfl (one_of HT_.out (by kernel_rfl)) (by decide) (fun K hK => ?_)
 refine gs Tryz.func77 #[.agg #[.bool t395, .string t396, .string t397]] ?_
 with_reducible refine (rational_den.calls t395 t396 t397 t400 _ A8.out).mono ?_
 rintro e w20 ⟨rfl, hb⟩
 refine ⟨_, rfl, ?_⟩
 replace BK394 := Aside0.mk (bk0 BK394.out hb)
 replace HB := Aside0.mk (bs HB.out hb)
 (try clear hb); (try clear hb2); (try clear hk); (try clear hi)
 refine hK.out _ _ ⟨(blk_cell BK394.out 0).trans rfl, (blk_cell BK394.out 1).trans rfl, (blk_cell BK394.out 2).trans rfl⟩ (fun hHeld => ?_)
 clear hK K
 refine nm ?_
 refine one_ (i := 7) (N := some 22) #[true, true, true, true, true, true, true, true, false, false, false, false, false, false, false] rfl rfl (one_of HT_.out (by kernel_rfl)) (by decide) (fun K hK => ?_)
 refine gs Tryz.func76 #[.string t399, .string t400] ?_
 with_reducible refine (natural_Divide.calls k t399 t400 t401 t402 t403 _ A9.out).mono ?_
 rintro e w21 ⟨rfl, hb⟩
 refine ⟨_, rfl, ?_⟩
 replace BK394 := Aside0.mk (bk0 BK394.out hb)
 replace HB := Aside0.mk (bs HB.out hb)
 (try clear hb); (try clear hb2); (try clear hk); (try clear hi)
 refine hK.out _ _ ⟨(blk_cell BK394.out 0).trans rfl, (blk_cell BK394.out 1).trans rfl, (blk_cell BK394.out 2).trans rfl⟩ (fun hHeld => ?_)
 clear hK K
 refine nm ?_
 refine py 8 (some 14) #[true, true, true, true, true, true, true, true, true, false, false, false, false, false, false] HT_ ?_
 refine py 9 (some 23) #[true, true, true, true, true, true, true, true, true, true, false, false, false, false, false] HT_ ?_
 refine py 10 (some 24) #[true, true, true, true, true, true, true, true, true, true, true, false, false, false, false] HT_ ?_
 refine py 11 (some 25) #[true, true, true, true, true, true, true, true, true, true, true, true, false, false, false] HT_ ?_
 refine py 12 (some 5) #[true, true, true, true, true, true, true, true, true, true, true, true, true, false, false] HT_ ?_
 refine py 13 (some 6) #[true, true, true, true, true, true, true, true, true, true, true, true, true, true, false] HT_ ?_
 refine py 14 (some 7) #[true, true, true, true, true, true, true, true, true, true, true, true, true, true, true] HT_ ?_
 refine done_ (done_of HT_.out (by kernel_rfl)) ?_
 (try (simp only [Exit.then]; refine (by assumption : ∀ (a : Act) (w : World), Code.wp _ _ _ a w → _) _ _ ?_))
 go_upto_if 31 with (first | ((with_reducible refine gc 74 rfl ?_); refine gl (some 27) Tryz.func74 #[.string t401] ?_; (with_reducible refine (natural_Format.calls k t401 t404 _ A10.out).mono ?_); rintro e w22 ⟨rfl, hb⟩; refine ⟨_, rfl, ?_⟩; replace BK394 := Aside0.mk (bk0 BK394.out hb); replace HB := Aside0.mk (bs HB.out hb); (try clear hb)))
 (try simp only [Act.put, List.setIfInBounds_toArray, List.set_cons_zero, List.set_cons_succ])
 go_cut [8] (fun v8 wc => ∃ (kq : Nat) (x8_10 : ByteArray), v8 = .string x8_10 ∧ Aside0 (rational_Decimal.j0 kq ji5 t401 x8_10 t395 t396 t397 = some r) ∧ Aside0 (kq ≤ k) ∧ Aside0 (wc.heap[gb394]? = some (.cells #[.bool t395, .string t396, .string t397] 24 (0, 0))) ∧ Aside0 (Below w.heap.size w wc))
 case first =>
  have H := HC11.out
  clear HC11
  by_cases c23 : (t404.size : Int) ≤ (ji5)
  ·rw [if_pos c23] at H
   have c23b0 : decide ((t404.size : Int) ≤ (ji5)) = true := decide_eq_true c23
   clear c23
   (first | rw [c23b0] | (simp only [i64_w, i32_w]; rw [c23b0]) | skip)
   obtain ⟨t405, A24, H⟩ := bs1 H
   obtain ⟨c25, H⟩ := iN H
   have c25b0 := eq_true c25
   have c25b1 : decide (t405.size + t404.size ≤ 9223372036854775807) = true := decide_eq_true c25
   try have c25b2 : (9223372036854775807 < t405.size + t404.size) = False := eq_false (Nat.not_lt.2 c25)
   have H' := Aside0.mk H
   clear H
   go_wp2_with (first | ((with_reducible refine gc 78 rfl ?_); refine goesL_ (some 37) rfl rfl Tryz.func78 (by kernel_rfl) rfl #[.string (⟨#[48]⟩ : ByteArray), .int .i64 (wrap64 (((ji5) + 1) - (t404.size : Int)))] rfl (by (try simp only [List.map_toArray, List.map_cons, List.map_nil]); first | done | (rw [show wrap64 (((ji5) + 1) - (t404.size : Int)) = ji5 + 1 - (t404.size : Int) from by (have h1_ := of_decide_eq_true c23b0; unfold wrap64; omega)]; rfl) | (simp only [hji5]; rfl) | rfl | (simp only [List.length_drop, List.length_take]; rfl)) ?_; (with_reducible refine (strings_Repeat.calls (⟨#[48]⟩ : ByteArray) (wrap64 (((ji5) + 1) - (t404.size : Int))) t405 _ A24.out).mono ?_); rintro e w26 ⟨rfl, hb⟩; refine ⟨_, rfl, ?_⟩; replace BK394 := Aside0.mk (bk0 BK394.out hb); replace HB := Aside0.mk (bs HB.out hb); (try clear hb)))
   go_meet
   case rel => exact ⟨_, (t405 ++ t404), fs, H', ⟨by first | omega | exact Nat.le_refl _⟩, ⟨bq BK394.out⟩, ⟨bz HB.out⟩⟩
  ·rw [if_neg c23] at H
   have c23b0 : decide ((t404.size : Int) ≤ (ji5)) = false := decide_eq_false c23
   clear c23
   (first | rw [c23b0] | (simp only [i64_w, i32_w]; rw [c23b0]) | skip)
   have H' := Aside0.mk H
   clear H
   go_wp2
   go_meet
   case rel => exact ⟨_, (t404), fs, H', ⟨by first | omega | exact Nat.le_refl _⟩, ⟨bq BK394.out⟩, ⟨bz HB.out⟩⟩
 case rest =>
  clear HC11
  (try clear c23b0); (try clear c25); (try clear c25b0); (try clear c25b1); (try clear c25b2); (try clear hcz13_0); (try clear hcz13_1); (try clear hcz13_2); (try clear hcz15_0); (try clear hcz15_1); (try clear hcz15_2); (try clear hfz13_0); (try clear hfz13_1); (try clear hfz13_2); (try clear hfz15_0); (try clear hfz15_1); (try clear hfz15_2)
  obtain ⟨kq, x8_10, rfl, HA, HJ10, BK394, HB⟩ := hcut
  cases kq with
  | zero => exact absurd HA.out (by simp [rational_Decimal.j0])
  | succ kj10 =>
   have H := HA.out
   clear HA
   simp only [rational_Decimal.j0] at H
   by_cases c27 : ji5 > 0
   ·rw [if_pos c27] at H
    have c27b0 : decide (0 < ji5) = true := decide_eq_true c27
    clear c27
    obtain ⟨ji28, hji28⟩ : ∃ j_ : Int, (wrap64 ((x8_10.size : Int) - ji5)) = j_ := ⟨_, rfl⟩
    first | rw [hji28] at H | simp only [hji28] at H
    have hji28w : (IntKind.i64.wrap ((x8_10.size : Int) - ji5)) = ji28 := (i64_w _).trans hji28
    obtain ⟨c29, H⟩ := iN H
    have c29b0 := eq_true c29
    have c29b1 : decide (0 ≤ (ji28)) = true := decide_eq_true c29
    clear c29
    obtain ⟨c30, H⟩ := iN H
    have c30b0 := eq_true c30
    have c30b1 : decide ((ji28) ≤ (x8_10.size : Int)) = true := decide_eq_true c30
    clear c30
    obtain ⟨c31, H⟩ := iN H
    have c31b0 := eq_true c31
    have c31b1 : decide ((x8_10.extract 0 ((ji28) : Int).toNat).size + 1 ≤ 9223372036854775807) = true := decide_eq_true c31
    try have c31b2 : (9223372036854775807 < (x8_10.extract 0 ((ji28) : Int).toNat).size + 1) = False := eq_false (Nat.not_lt.2 c31)
    have c32b0 := eq_true (oa : 0 ≤ (ji28))
    have c33b0 := eq_true (oa : (ji28) ≤ (x8_10.size : Int))
    have hE1_ : (x8_10.extract 0 ((ji28) : Int).toNat).size = ji28.toNat := by (have h33 := of_eq_true c33b0; rw [ByteArray.size_extract]; omega)
    have hE2_ : (x8_10.extract ((ji28) : Int).toNat x8_10.size).size = x8_10.size - ji28.toNat := by (rw [ByteArray.size_extract]; omega)
    have d1_ := c31b2
    rw [hE1_] at d1_
    obtain ⟨c34, H⟩ := iN H
    have c34b0 := eq_true c34
    have c34b1 : decide (((x8_10.extract 0 ((ji28) : Int).toNat) ++ (⟨#[46]⟩ : ByteArray)).size + (x8_10.extract ((ji28) : Int).toNat x8_10.size).size ≤ 9223372036854775807) = true := decide_eq_true c34
    try have c34b2 : (9223372036854775807 < ((x8_10.extract 0 ((ji28) : Int).toNat) ++ (⟨#[46]⟩ : ByteArray)).size + (x8_10.extract ((ji28) : Int).toNat x8_10.size).size) = False := eq_false (Nat.not_lt.2 c34)
    have c34b2d := c34b2
    simp only [ByteArray.size_append, hE1_, hE2_, show (⟨#[46]⟩ : ByteArray).size = 1 from rfl] at c34b2d
    by_cases c35 : t395 = true
    ·subst c35
     have H1 : (if t401.toList = ([] : List UInt8) then (some (((x8_10.extract 0 ((ji28) : Int).toNat) ++ (⟨#[46]⟩ : ByteArray)) ++ (x8_10.extract ((ji28) : Int).toNat x8_10.size))) else (if 1 + (((x8_10.extract 0 ((ji28) : Int).toNat) ++ (⟨#[46]⟩ : ByteArray)) ++ (x8_10.extract ((ji28) : Int).toNat x8_10.size)).size ≤ 9223372036854775807 then (some ((⟨#[45]⟩ : ByteArray) ++ (((x8_10.extract 0 ((ji28) : Int).toNat) ++ (⟨#[46]⟩ : ByteArray)) ++ (x8_10.extract ((ji28) : Int).toNat x8_10.size)))) else (none))) = some r := by rw [if_pos rfl] at H; exact H
     clear H
     have H := H1
     clear H1
     by_cases c36 : t401.toList = ([] : List UInt8)
     ·rw [if_pos c36] at H
      have c36b0 := beq_iff_eq.mpr c36
      have c36b1 := bne_eq_false_iff_eq.mpr c36
      clear c36
      obtain rfl := Option.some.inj H
      try go_wp2
      replace BK394 := Aside0.mk (blk_drew BK394.out)
      replace HB := Aside0.mk (below_drew1 HB.out)
      refine start_ (n := 15) (S := fun w' => True) (ds := []) #[false, false, false, false, false, false, false, false, false, false, false, false, false, false, false] (by kernel_rfl) rfl rfl trivial (fun hHeld => ?_); refine with_tabW rational_Decimal.tab8 rational_Decimal.bits8 (fun HT_ HW_ => ?_)
      generalize wc.drew = w37 at BK394 HB hHeld ⊢
      refine py 0 (some 42) #[true, false, false, false, false, false, false, false, false, false, false, false, false, false, false] HT_ ?_
      refine py 1 (some 43) #[true, true, false, false, false, false, false, false, false, false, false, false, false, false, false] HT_ ?_
      refine py 2 (some 44) #[true, true, true, false, false, false, false, false, false, false, false, false, false, false, false] HT_ ?_
      refine py 3 (some 45) #[true, true, true, true, false, false, false, false, false, false, false, false, false, false, false] HT_ ?_
      refine py 4 (some 46) #[true, true, true, true, true, false, false, false, false, false, false, false, false, false, false] HT_ ?_
      refine py 5 (some 47) #[true, true, true, true, true, true, false, false, false, false, false, false, false, false, false] HT_ ?_
      refine py 6 (some 48) #[true, true, true, true, true, true, true, false, false, false, false, false, false, false, false] HT_ ?_
      refine py 7 (some 49) #[true, true, true, true, true, true, true, true, false, false, false, false, false, false, false] HT_ ?_
      refine py 8 (some 50) #[true, true, true, true, true, true, true, true, true, false, false, false, false, false, false] HT_ ?_
      refine py 9 (some 51) #[true, true, true, true, true, true, true, true, true, true, false, false, false, false, false] HT_ ?_
      refine py 10 (some 52) #[true, true, true, true, true, true, true, true, true, true, true, false, false, false, false] HT_ ?_
      refine py 11 (some 53) #[true, true, true, true, true, true, true, true, true, true, true, true, false, false, false] HT_ ?_
      refine py 12 (some 54) #[true, true, true, true, true, true, true, true, true, true, true, true, true, false, false] HT_ ?_
      refine py 13 (some 55) #[true, true, true, true, true, true, true, true, true, true, true, true, true, true, false] HT_ ?_
      refine py 14 (some 8) #[true, true, true, true, true, true, true, true, true, true, true, true, true, true, true] HT_ ?_
      refine done_ (done_of HT_.out (by kernel_rfl)) ?_
      obtain ⟨hcz38_0, hcz38_1, hcz38_2, hfz38_0, hfz38_1, hfz38_2⟩ := cz BK394.out
      try go_wp2
      go_ret
      exact ⟨by first | rfl | (simp [errW_none, errW_some] <;> rfl) | (simp only [← hji4, ← hji5, ← hji28]; first | rfl | (simp [errW_none, errW_some] <;> rfl)) | (simp [*, errW_none, errW_some] <;> rfl), bz HB.out⟩
     ·rw [if_neg c36] at H
      have c36b0 := beq_eq_false_iff_ne.mpr c36
      have c36b1 := bne_iff_ne.mpr c36
      obtain ⟨c39, H⟩ := iN H
      have c39b0 := eq_true c39
      have c39b1 : decide (1 + (((x8_10.extract 0 ((ji28) : Int).toNat) ++ (⟨#[46]⟩ : ByteArray)) ++ (x8_10.extract ((ji28) : Int).toNat x8_10.size)).size ≤ 9223372036854775807) = true := decide_eq_true c39
      try have c39b2 : (9223372036854775807 < 1 + (((x8_10.extract 0 ((ji28) : Int).toNat) ++ (⟨#[46]⟩ : ByteArray)) ++ (x8_10.extract ((ji28) : Int).toNat x8_10.size)).size) = False := eq_false (Nat.not_lt.2 c39)
      have c39b2d := c39b2
      simp only [ByteArray.size_append, hE1_, hE2_, show (⟨#[46]⟩ : ByteArray).size = 1 from rfl] at c39b2d
      obtain rfl := Option.some.inj H
      try go_wp2
      replace BK394 := Aside0.mk (blk_drew BK394.out)
      replace HB := Aside0.mk (below_drew1 HB.out)
      refine start_ (n := 15) (S := fun w' => True) (ds := []) #[false, false, false, false, false, false, false, false, false, false, false, false, false, false, false] (by kernel_rfl) rfl rfl trivial (fun hHeld => ?_); refine with_tabW rational_Decimal.tab8 rational_Decimal.bits8 (fun HT_ HW_ => ?_)
      generalize wc.drew = w40 at BK394 HB hHeld ⊢
      refine py 0 (some 42) #[true, false, false, false, false, false, false, false, false, false, false, false, false, false, false] HT_ ?_
      refine py 1 (some 43) #[true, true, false, false, false, false, false, false, false, false, false, false, false, false, false] HT_ ?_
      refine py 2 (some 44) #[true, true, true, false, false, false, false, false, false, false, false, false, false, false, false] HT_ ?_
      refine py 3 (some 45) #[true, true, true, true, false, false, false, false, false, false, false, false, false, false, false] HT_ ?_
      refine py 4 (some 46) #[true, true, true, true, true, false, false, false, false, false, false, false, false, false, false] HT_ ?_
      refine py 5 (some 47) #[true, true, true, true, true, true, false, false, false, false, false, false, false, false, false] HT_ ?_
      refine py 6 (some 48) #[true, true, true, true, true, true, true, false, false, false, false, false, false, false, false] HT_ ?_
      refine py 7 (some 49) #[true, true, true, true, true, true, true, true, false, false, false, false, false, false, false] HT_ ?_
      refine py 8 (some 50) #[true, true, true, true, true, true, true, true, true, false, false, false, false, false, false] HT_ ?_
      refine py 9 (some 51) #[true, true, true, true, true, true, true, true, true, true, false, false, false, false, false] HT_ ?_
      refine py 10 (some 52) #[true, true, true, true, true, true, true, true, true, true, true, false, false, false, false] HT_ ?_
      refine py 11 (some 53) #[true, true, true, true, true, true, true, true, true, true, true, true, false, false, false] HT_ ?_
      refine py 12 (some 54) #[true, true, true, true, true, true, true, true, true, true, true, true, true, false, false] HT_ ?_
      refine py 13 (some 55) #[true, true, true, true, true, true, true, true, true, true, true, true, true, true, false] HT_ ?_
      refine py 14 (some 8) #[true, true, true, true, true, true, true, true, true, true, true, true, true, true, true] HT_ ?_
      refine done_ (done_of HT_.out (by kernel_rfl)) ?_
      obtain ⟨hcz41_0, hcz41_1, hcz41_2, hfz41_0, hfz41_1, hfz41_2⟩ := cz BK394.out
      try go_wp2
      go_ret
      exact ⟨by first | rfl | (simp [errW_none, errW_some] <;> rfl) | (simp only [← hji4, ← hji5, ← hji28]; first | rfl | (simp [errW_none, errW_some] <;> rfl)) | (simp [*, errW_none, errW_some] <;> rfl), bz HB.out⟩
    ·replace c35 := Bool.eq_false_iff.mpr c35
     subst c35
     have H1 : (some (((x8_10.extract 0 ((ji28) : Int).toNat) ++ (⟨#[46]⟩ : ByteArray)) ++ (x8_10.extract ((ji28) : Int).toNat x8_10.size))) = some r := by rw [if_neg (show ¬ (false = true) by decide)] at H; exact H
     clear H
     have H := H1
     clear H1
     obtain rfl := Option.some.inj H
     try go_wp2
     replace BK394 := Aside0.mk (blk_drew BK394.out)
     replace HB := Aside0.mk (below_drew1 HB.out)
     refine start_ (n := 15) (S := fun w' => True) (ds := []) #[false, false, false, false, false, false, false, false, false, false, false, false, false, false, false] (by kernel_rfl) rfl rfl trivial (fun hHeld => ?_); refine with_tabW rational_Decimal.tab8 rational_Decimal.bits8 (fun HT_ HW_ => ?_)
     generalize wc.drew = w42 at BK394 HB hHeld ⊢
     refine py 0 (some 42) #[true, false, false, false, false, false, false, false, false, false, false, false, false, false, false] HT_ ?_
     refine py 1 (some 43) #[true, true, false, false, false, false, false, false, false, false, false, false, false, false, false] HT_ ?_
     refine py 2 (some 44) #[true, true, true, false, false, false, false, false, false, false, false, false, false, false, false] HT_ ?_
     refine py 3 (some 45) #[true, true, true, true, false, false, false, false, false, false, false, false, false, false, false] HT_ ?_
     refine py 4 (some 46) #[true, true, true, true, true, false, false, false, false, false, false, false, false, false, false] HT_ ?_
     refine py 5 (some 47) #[true, true, true, true, true, true, false, false, false, false, false, false, false, false, false] HT_ ?_
     refine py 6 (some 48) #[true, true, true, true, true, true, true, false, false, false, false, false, false, false, false] HT_ ?_
     refine py 7 (some 49) #[true, true, true, true, true, true, true, true, false, false, false, false, false, false, false] HT_ ?_
     refine py 8 (some 50) #[true, true, true, true, true, true, true, true, true, false, false, false, false, false, false] HT_ ?_
     refine py 9 (some 51) #[true, true, true, true, true, true, true, true, true, true, false, false, false, false, false] HT_ ?_
     refine py 10 (some 52) #[true, true, true, true, true, true, true, true, true, true, true, false, false, false, false] HT_ ?_
     refine py 11 (some 53) #[true, true, true, true, true, true, true, true, true, true, true, true, false, false, false] HT_ ?_
     refine py 12 (some 54) #[true, true, true, true, true, true, true, true, true, true, true, true, true, false, false] HT_ ?_
     refine py 13 (some 55) #[true, true, true, true, true, true, true, true, true, true, true, true, true, true, false] HT_ ?_
     refine py 14 (some 8) #[true, true, true, true, true, true, true, true, true, true, true, true, true, true, true] HT_ ?_
     refine done_ (done_of HT_.out (by kernel_rfl)) ?_
     obtain ⟨hcz43_0, hcz43_1, hcz43_2, hfz43_0, hfz43_1, hfz43_2⟩ := cz BK394.out
     try go_wp2
     go_ret
     exact ⟨by first | rfl | (simp [errW_none, errW_some] <;> rfl) | (simp only [← hji4, ← hji5, ← hji28]; first | rfl | (simp [errW_none, errW_some] <;> rfl)) | (simp [*, errW_none, errW_some] <;> rfl), bz HB.out⟩
   ·rw [if_neg c27] at H
    have c27b0 : decide (0 < ji5) = false := decide_eq_false c27
    clear c27
    by_cases c44 : t395 = true
    ·subst c44
     have H1 : (if t401.toList = ([] : List UInt8) then (some x8_10) else (if 1 + x8_10.size ≤ 9223372036854775807 then (some ((⟨#[45]⟩ : ByteArray) ++ x8_10)) else (none))) = some r := by rw [if_pos rfl] at H; exact H
     clear H
     have H := H1
     clear H1
     by_cases c45 : t401.toList = ([] : List UInt8)
     ·rw [if_pos c45] at H
      have c45b0 := beq_iff_eq.mpr c45
      have c45b1 := bne_eq_false_iff_eq.mpr c45
      clear c45
      obtain rfl := Option.some.inj H
      obtain ⟨hcz46_0, hcz46_1, hcz46_2, hfz46_0, hfz46_1, hfz46_2⟩ := cz BK394.out
      go_wp2
      go_ret
      exact ⟨by first | rfl | (simp [errW_none, errW_some] <;> rfl) | (simp only [← hji4, ← hji5]; first | rfl | (simp [errW_none, errW_some] <;> rfl)) | (simp [*, errW_none, errW_some] <;> rfl), bz HB.out⟩
     ·rw [if_neg c45] at H
      have c45b0 := beq_eq_false_iff_ne.mpr c45
      have c45b1 := bne_iff_ne.mpr c45
      obtain ⟨c47, H⟩ := iN H
      have c47b0 := eq_true c47
      have c47b1 : decide (1 + x8_10.size ≤ 9223372036854775807) = true := decide_eq_true c47
      try have c47b2 : (9223372036854775807 < 1 + x8_10.size) = False := eq_false (Nat.not_lt.2 c47)
      obtain rfl := Option.some.inj H
      obtain ⟨hcz48_0, hcz48_1, hcz48_2, hfz48_0, hfz48_1, hfz48_2⟩ := cz BK394.out
      go_wp2
      go_ret
      exact ⟨by first | rfl | (simp [errW_none, errW_some] <;> rfl) | (simp only [← hji4, ← hji5]; first | rfl | (simp [errW_none, errW_some] <;> rfl)) | (simp [*, errW_none, errW_some] <;> rfl), bz HB.out⟩
    ·replace c44 := Bool.eq_false_iff.mpr c44
     subst c44
     have H1 : (some x8_10) = some r := by rw [if_neg (show ¬ (false = true) by decide)] at H; exact H
     clear H
     have H := H1
     clear H1
     obtain rfl := Option.some.inj H
     obtain ⟨hcz49_0, hcz49_1, hcz49_2, hfz49_0, hfz49_1, hfz49_2⟩ := cz BK394.out
     go_wp2
     go_ret
     exact ⟨by first | rfl | (simp [errW_none, errW_some] <;> rfl) | (simp only [← hji4, ← hji5]; first | rfl | (simp [errW_none, errW_some] <;> rfl)) | (simp [*, errW_none, errW_some] <;> rfl), bz HB.out⟩

/-! ### rational_Make: function 83 -/
def rational_Make.f (k : Nat) (a0 : Bool) (a1 : ByteArray) (a2 : ByteArray) : Option (Bool × ByteArray × ByteArray × Bool) := (natural_Normalize.f k a2).bind fun t407 => (if t407.toList = ([] : List UInt8) then (some (false, (⟨#[]⟩ : ByteArray), (⟨#[]⟩ : ByteArray), false)) else ((rational_reduced.f k a0 a1 a2).bind fun bt408 => (some (bt408.1, bt408.2.1, bt408.2.2, true))))
set_option maxHeartbeats 8000000 in
set_option maxRecDepth 100000 in
theorem rational_Make.calls (k : Nat) (a0 : Bool) (a1 : ByteArray) (a2 : ByteArray) (r1 : Bool) (r2 : ByteArray) (r3 : ByteArray) (r4 : Bool) (w : World) (h : rational_Make.f k a0 a1 a2 = some (r1, r2, r3, r4)) :
  Calls Tryz.prog 83 #[.bool a0, .string a1, .string a2] w fun e w' => e = .returned (.tuple #[.agg #[.bool r1, .string r2, .string r3], .bool r4]) ∧ Below w.heap.size w w' := by
 have hu24 := Tryz.underlying24
 have HB := Aside0.mk (Below.refl w.heap.size w)
 have H := h
 clear h
 unfold rational_Make.f at H
 obtain ⟨t407, A4, H⟩ := bs1 H
 by_cases c5 : t407.toList = ([] : List UInt8)
 ·rw [if_pos c5] at H
  have c5b0 := beq_iff_eq.mpr c5
  have c5b1 := bne_eq_false_iff_eq.mpr c5
  clear c5
  simp only [Option.some.injEq, Prod.mk.injEq] at H
  obtain ⟨rfl, rfl, rfl, rfl⟩ := H
  go_enter Tryz.func83, Tryz.ntmps83
  go_wp2_with (first | ((with_reducible refine gd 6 rfl ?_); refine bx 6 (#[.bool false, .string (⟨#[]⟩ : ByteArray), .string (⟨#[]⟩ : ByteArray)]) 24 ?_; intro gb406 hg w6 hbox hb; have BK406 := Aside0.mk (hbox); have GW406 := sg hg HB.out; have GE406 := sg hg HB.out; replace HB := Aside0.mk (bs HB.out hb); clear hb hbox hg) | ((with_reducible refine gc 107 rfl ?_); refine gl (some 9) Tryz.func107 #[.string a2] ?_; (with_reducible refine (natural_Normalize.calls k a2 t407 _ A4.out).mono ?_); rintro e w7 ⟨rfl, hb⟩; refine ⟨_, rfl, ?_⟩; replace BK406 := Aside0.mk (bk0 BK406.out hb); replace HB := Aside0.mk (bs HB.out hb); (try clear hb); obtain ⟨hcz8_0, hcz8_1, hcz8_2, hfz8_0, hfz8_1, hfz8_2⟩ := cz BK406.out))
  refine bodyPost_ret (results_ct rfl _ _ gb406 24 #[.bool false, .string (⟨#[]⟩ : ByteArray), .string (⟨#[]⟩ : ByteArray)] (0, 0) _ rfl (bq BK406.out) Tryz.underlying24 rfl (by kernel_rfl)) rfl ?_
  exact ⟨fe, bz HB.out⟩
 ·rw [if_neg c5] at H
  have c5b0 := beq_eq_false_iff_ne.mpr c5
  have c5b1 := bne_iff_ne.mpr c5
  obtain ⟨⟨t408, t409, t410⟩, A9, H⟩ := bs1 H; dsimp only at H
  simp only [Option.some.injEq, Prod.mk.injEq] at H
  obtain ⟨rfl, rfl, rfl, rfl⟩ := H
  go_enter Tryz.func83, Tryz.ntmps83
  go_wp2_with (first | ((with_reducible refine gd 6 rfl ?_); refine bx 6 (#[.bool false, .string (⟨#[]⟩ : ByteArray), .string (⟨#[]⟩ : ByteArray)]) 24 ?_; intro gb406 hg w10 hbox hb; have BK406 := Aside0.mk (hbox); have GW406 := sg hg HB.out; have GE406 := sg hg HB.out; replace HB := Aside0.mk (bs HB.out hb); clear hb hbox hg) | ((with_reducible refine gc 107 rfl ?_); refine gl (some 9) Tryz.func107 #[.string a2] ?_; (with_reducible refine (natural_Normalize.calls k a2 t407 _ A4.out).mono ?_); rintro e w11 ⟨rfl, hb⟩; refine ⟨_, rfl, ?_⟩; replace BK406 := Aside0.mk (bk0 BK406.out hb); replace HB := Aside0.mk (bs HB.out hb); (try clear hb)) | ((with_reducible refine gc 62 rfl ?_); refine gl (some 15) Tryz.func62 #[.bool a0, .string a1, .string a2] ?_; (with_reducible refine (rational_reduced.calls k a0 a1 a2 t408 t409 t410 _ A9.out).mono ?_); rintro e w12 ⟨rfl, hb⟩; refine ⟨_, rfl, ?_⟩; replace BK406 := Aside0.mk (bk0 BK406.out hb); replace HB := Aside0.mk (bs HB.out hb); (try clear hb); obtain ⟨hcz13_0, hcz13_1, hcz13_2, hfz13_0, hfz13_1, hfz13_2⟩ := cz BK406.out))
  refine bodyPost_ret (results_ct rfl _ _ gb406 24 #[.bool t408, .string t409, .string t410] (0, 0) _ rfl (bq BK406.out) Tryz.underlying24 rfl (by kernel_rfl)) rfl ?_
  exact ⟨fe, bz HB.out⟩

/-! ### rational_magnitude: function 84 -/
def rational_magnitude.f (k : Nat) (a0 : Int) : Option (ByteArray) := if a0 < 0 then ((natural_FromUint.f k (IntKind.u64.wrap (-(IntKind.u64.wrap (a0))))).bind fun t411 => (some t411)) else ((natural_FromUint.f k (IntKind.u64.wrap (a0))).bind fun t412 => (some t412))
set_option maxHeartbeats 8000000 in
set_option maxRecDepth 100000 in
theorem rational_magnitude.calls (k : Nat) (a0 : Int) (r : ByteArray) (w : World) (h : rational_magnitude.f k a0 = some r) :
  Calls Tryz.prog 84 #[.int .i64 a0] w fun e w' => e = .returned (.string r) ∧ Below w.heap.size w w' := by
 have HB := Aside0.mk (Below.refl w.heap.size w)
 have H := h
 clear h
 unfold rational_magnitude.f at H
 by_cases c2 : a0 < 0
 ·rw [if_pos c2] at H
  have c2b0 : decide (a0 < 0) = true := decide_eq_true c2
  clear c2
  obtain ⟨t411, A3, H⟩ := bs1 H
  obtain rfl := Option.some.inj H
  go_enter Tryz.func84, Tryz.ntmps84
  go_wp2_with (first | ((with_reducible refine gc 106 rfl ?_); refine gl (some 8) Tryz.func106 #[.int .u64 (IntKind.u64.wrap (-(IntKind.u64.wrap (a0))))] ?_; (with_reducible refine (natural_FromUint.calls k (IntKind.u64.wrap (-(IntKind.u64.wrap (a0)))) t411 _ A3.out).mono ?_); rintro e w4 ⟨rfl, hb⟩; refine ⟨_, rfl, ?_⟩; replace HB := Aside0.mk (bs HB.out hb); (try clear hb)))
  go_ret
  exact ⟨fe, bz HB.out⟩
 ·rw [if_neg c2] at H
  have c2b0 : decide (a0 < 0) = false := decide_eq_false c2
  clear c2
  obtain ⟨t412, A5, H⟩ := bs1 H
  obtain rfl := Option.some.inj H
  go_enter Tryz.func84, Tryz.ntmps84
  go_wp2_with (first | ((with_reducible refine gc 106 rfl ?_); refine gl (some 11) Tryz.func106 #[.int .u64 (IntKind.u64.wrap (a0))] ?_; (with_reducible refine (natural_FromUint.calls k (IntKind.u64.wrap (a0)) t412 _ A5.out).mono ?_); rintro e w6 ⟨rfl, hb⟩; refine ⟨_, rfl, ?_⟩; replace HB := Aside0.mk (bs HB.out hb); (try clear hb)))
  go_ret
  exact ⟨fe, bz HB.out⟩

/-! ### rational_Fraction: function 25 -/
def rational_Fraction.f (k : Nat) (a0 : Int) (a1 : Int) : Option (Bool × ByteArray × ByteArray × Bool) := (rational_magnitude.f k a0).bind fun t414 => ((rational_magnitude.f k a1).bind fun t415 => ((rational_Make.f k ((decide (a0 < 0)) != (decide (a1 < 0))) t414 t415).bind fun bt416 => (some (bt416.1, bt416.2.1, bt416.2.2.1, bt416.2.2.2))))
set_option maxHeartbeats 8000000 in
set_option maxRecDepth 100000 in
theorem rational_Fraction.calls (k : Nat) (a0 : Int) (a1 : Int) (r1 : Bool) (r2 : ByteArray) (r3 : ByteArray) (r4 : Bool) (w : World) (h : rational_Fraction.f k a0 a1 = some (r1, r2, r3, r4)) :
  Calls Tryz.prog 25 #[.int .i64 a0, .int .i64 a1] w fun e w' => e = .returned (.tuple #[.agg #[.bool r1, .string r2, .string r3], .bool r4]) ∧ Below w.heap.size w w' := by
 have hu24 := Tryz.underlying24
 have HB := Aside0.mk (Below.refl w.heap.size w)
 have H := h
 clear h
 unfold rational_Fraction.f at H
 obtain ⟨t414, A3, H⟩ := bs1 H
 obtain ⟨t415, A4, H⟩ := bs1 H
 obtain ⟨⟨t416, t417, t418, t419⟩, A5, H⟩ := bs1 H; dsimp only at H
 simp only [Option.some.injEq, Prod.mk.injEq] at H
 obtain ⟨rfl, rfl, rfl, rfl⟩ := H
 go_enter Tryz.func25, Tryz.ntmps25
 go_wp2_with (first | ((with_reducible refine gd 4 rfl ?_); refine bx 4 (#[.bool false, .string (⟨#[]⟩ : ByteArray), .string (⟨#[]⟩ : ByteArray)]) 24 ?_; intro gb413 hg w6 hbox hb; have BK413 := Aside0.mk (hbox); have GW413 := sg hg HB.out; have GE413 := sg hg HB.out; replace HB := Aside0.mk (bs HB.out hb); clear hb hbox hg) | ((with_reducible refine gc 84 rfl ?_); refine gl (some 12) Tryz.func84 #[.int .i64 a0] ?_; (with_reducible refine (rational_magnitude.calls k a0 t414 _ A3.out).mono ?_); rintro e w7 ⟨rfl, hb⟩; refine ⟨_, rfl, ?_⟩; replace BK413 := Aside0.mk (bk0 BK413.out hb); replace HB := Aside0.mk (bs HB.out hb); (try clear hb)) | ((with_reducible refine gc 84 rfl ?_); refine gl (some 14) Tryz.func84 #[.int .i64 a1] ?_; (with_reducible refine (rational_magnitude.calls k a1 t415 _ A4.out).mono ?_); rintro e w8 ⟨rfl, hb⟩; refine ⟨_, rfl, ?_⟩; replace BK413 := Aside0.mk (bk0 BK413.out hb); replace HB := Aside0.mk (bs HB.out hb); (try clear hb)) | ((with_reducible refine gc 83 rfl ?_); refine gl (some 15) Tryz.func83 #[.bool ((decide (a0 < 0)) != (decide (a1 < 0))), .string t414, .string t415] ?_; (with_reducible refine (rational_Make.calls k ((decide (a0 < 0)) != (decide (a1 < 0))) t414 t415 t416 t417 t418 t419 _ A5.out).mono ?_); rintro e w9 ⟨rfl, hb⟩; refine ⟨_, rfl, ?_⟩; replace BK413 := Aside0.mk (bk0 BK413.out hb); replace HB := Aside0.mk (bs HB.out hb); (try clear hb); obtain ⟨hcz10_0, hcz10_1, hcz10_2, hfz10_0, hfz10_1, hfz10_2⟩ := cz BK413.out))
 refine bodyPost_ret (results_ct rfl _ _ gb413 24 #[.bool t416, .string t417, .string t418] (0, 0) _ rfl (bq BK413.out) Tryz.underlying24 rfl (by kernel_rfl)) rfl ?_
 exact ⟨fe, bz HB.out⟩

/-! ### rational_Floor: function 55 -/
def rational_Floor.j0 : Nat → ByteArray → Bool → Bool → ByteArray → ByteArray → Option (Bool × ByteArray × ByteArray)
 | 0, _, _, _, _, _ => none
 | k + 1, x3, x22, x421000, x421001, x421002 => if x22 = true then ((natural_Add.f k x3 (⟨#[1]⟩ : ByteArray)).bind fun t429 => ((rational_reduced.f k x421000 t429 (⟨#[1]⟩ : ByteArray)).bind fun bt430 => (some (bt430.1, bt430.2.1, bt430.2.2)))) else ((rational_reduced.f k x421000 x3 (⟨#[1]⟩ : ByteArray)).bind fun bt433 => (some (bt433.1, bt433.2.1, bt433.2.2)))
def rational_Floor.f (k : Nat) (a0_0 : Bool) (a0_1 : ByteArray) (a0_2 : ByteArray) : Option (Bool × ByteArray × ByteArray) := (rational_clean.f k a0_0 a0_1 a0_2).bind fun bt422 => ((rational_den.f bt422.1 bt422.2.1 bt422.2.2).bind fun t425 => ((natural_Divide.f k bt422.2.1 t425).bind fun bt426 => (if bt422.1 = true then (rational_Floor.j0 k bt426.1 (bt426.2.1.toList != ([] : List UInt8)) bt422.1 bt422.2.1 bt422.2.2) else (rational_Floor.j0 k bt426.1 false bt422.1 bt422.2.1 bt422.2.2))))
def rational_Floor.T2 : Bool × List (List Nat × List Nat) := (true, [([], []), ([0], [0]), ([], []), ([2], [2]), ([1, 3, 3], [1, 3]), ([4], [4]), ([5], [5]), ([5], [5]), ([5], [5]), ([6, 4, 0, 1, 2, 3, 4, 5, 6], [6]), ([7, 9, 0, 1, 2, 3, 4, 5, 6, 7, 9], [7]), ([8, 10, 0, 1, 2, 3, 4, 5, 6, 7, 8, 9, 10], [8])])
def rational_Floor.B2 : List Nat := [0, 1, 0, 4, 15, 31, 63, 63, 63, 127, 767, 2047]
theorem rational_Floor.tab2 : rtab .any (opsOf Tryz.f55 2) = rational_Floor.T2 := by kernel_rfl
theorem rational_Floor.bits2 : waitsOk rational_Floor.T2.2 rational_Floor.B2 = true := by kernel_rfl
set_option maxHeartbeats 8000000 in
set_option maxRecDepth 100000 in
theorem rational_Floor.calls (k : Nat) (a0_0 : Bool) (a0_1 : ByteArray) (a0_2 : ByteArray) (r1 : Bool) (r2 : ByteArray) (r3 : ByteArray) (w : World) (h : rational_Floor.f k a0_0 a0_1 a0_2 = some (r1, r2, r3)) :
  Calls Tryz.prog 55 #[.agg #[.bool a0_0, .string a0_1, .string a0_2]] w fun e w' => e = .returned (.agg #[.bool r1, .string r2, .string r3]) ∧ Below w.heap.size w w' := by
 have hu24 := Tryz.underlying24
 have HB := Aside0.mk (Below.refl w.heap.size w)
 have H := h
 clear h
 unfold rational_Floor.f at H
 obtain ⟨⟨t422, t423, t424⟩, A2, H⟩ := bs1 H; dsimp only at H
 obtain ⟨t425, A3, H⟩ := bs1 H
 obtain ⟨⟨t426, t427, t428⟩, A4, H⟩ := bs1 H; dsimp only at H
 have HC5 := Aside0.mk H
 clear H
 go_enter Tryz.func55, Tryz.ntmps55
 try go_wp2_with (first | ((with_reducible refine gd 1 rfl ?_); refine bx 1 (#[.bool a0_0, .string a0_1, .string a0_2]) 24 ?_; intro gb420 hg w6 hbox hb; have BK420 := Aside0.mk (hbox); have GW420 := sg hg HB.out; have GE420 := sg hg HB.out; replace HB := Aside0.mk (bs HB.out hb); clear hb hbox hg) | ((with_reducible refine gd 2 rfl ?_); refine bx 2 (#[.bool false, .string (⟨#[]⟩ : ByteArray), .string (⟨#[]⟩ : ByteArray)]) 24 ?_; intro gb421 hg w7 hbox hb; have BK421 := Aside0.mk (hbox); have GW421 := sg hg HB.out; have GE421 := sg hg HB.out; replace HB := Aside0.mk (bs HB.out hb); have NB420_421 := nl hg BK420.out; have NB421_420 := nr hg BK420.out; replace BK420 := Aside0.mk (bk0 BK420.out hb); clear hb hbox hg; have hnb8 := NB420_421.out; have hnc8 := NB421_420.out; obtain ⟨hcz9_0, hcz9_1, hcz9_2, hfz9_0, hfz9_1, hfz9_2⟩ := cz BK420.out) | ((with_reducible refine gc 73 rfl ?_); refine gl (some 7) Tryz.func73 #[.agg #[.bool a0_0, .string a0_1, .string a0_2]] ?_; (with_reducible refine (rational_clean.calls k a0_0 a0_1 a0_2 t422 t423 t424 _ A2.out).mono ?_); rintro e w10 ⟨rfl, hb⟩; refine ⟨_, rfl, ?_⟩; replace BK420 := Aside0.mk (bk0 BK420.out hb); replace BK421 := Aside0.mk (bk0 BK421.out hb); replace HB := Aside0.mk (bs HB.out hb); (try clear hb); obtain ⟨hcz11_0, hcz11_1, hcz11_2, hfz11_0, hfz11_1, hfz11_2⟩ := cz BK420.out))
 have n0_ : Aside0 ((((w10.setCell ⟨gb420, 0, none⟩ (.bool t422)).setCell ⟨gb420, 1, none⟩ (.string t423)).setCell ⟨gb420, 2, none⟩ (.string t424)).heap[gb420]? = some (.cells #[.bool t422, .string t423, .string t424] 24 (0, 0))) := ⟨bq BK420.out⟩
 have n1_ : Aside0 ((((w10.setCell ⟨gb420, 0, none⟩ (.bool t422)).setCell ⟨gb420, 1, none⟩ (.string t423)).setCell ⟨gb420, 2, none⟩ (.string t424)).heap[gb421]? = some (.cells #[.bool false, .string (⟨#[]⟩ : ByteArray), .string (⟨#[]⟩ : ByteArray)] 24 (0, 0))) := ⟨bq BK421.out⟩
 have n2_ : Aside0 (Below w.heap.size w (((w10.setCell ⟨gb420, 0, none⟩ (.bool t422)).setCell ⟨gb420, 1, none⟩ (.string t423)).setCell ⟨gb420, 2, none⟩ (.string t424))) := ⟨bz HB.out⟩
 (try clear BK420); (try clear BK421); (try clear HB)
 generalize (((w10.setCell ⟨gb420, 0, none⟩ (.bool t422)).setCell ⟨gb420, 1, none⟩ (.string t423)).setCell ⟨gb420, 2, none⟩ (.string t424)) = w12 at n0_ n1_ n2_ ⊢
 have BK420 := n0_
 have BK421 := n1_
 have HB := n2_
 clear n0_ n1_ n2_
 replace BK420 := Aside0.mk (blk_drew BK420.out)
 replace BK421 := Aside0.mk (blk_drew BK421.out)
 replace HB := Aside0.mk (below_drew1 HB.out)
 refine start_ (n := 12) (S := fun w' => w'.cell? ⟨gb420, 0, none⟩ = some (.bool t422) ∧ w'.cell? ⟨gb420, 1, none⟩ = some (.string t423) ∧ w'.cell? ⟨gb420, 2, none⟩ = some (.string t424)) (ds := []) #[false, false, false, false, false, false, false, false, false, false, false, false] (by kernel_rfl) rfl rfl ⟨(blk_cell BK420.out 0).trans rfl, (blk_cell BK420.out 1).trans rfl, (blk_cell BK420.out 2).trans rfl⟩ (fun hHeld => ?_); refine with_tabW rational_Floor.tab2 rational_Floor.bits2 (fun HT_ HW_ => ?_)
 generalize w12.drew = w13 at BK420 BK421 HB hHeld ⊢
 refine py 0 (some 9) #[true, false, false, false, false, false, false, false, false, false, false, false] HT_ ?_
 refine take_ (i := 1) (N := some 10) (v := ?_) (a' := ?_) #[true, true, false, false, false, false, false, false, false, false, false, false] rfl rfl (take_ofW HT_.out HW_.out (by kernel_rfl)) (fun _ _ _ h => h) (Or.inl ⟨by rfl, ?_⟩) hHeld ?_ ?_
 rotate_left
 ·rintro w' ⟨s0, s1, s2⟩
  go_simp
  with_reducible rfl
 rotate_left
 ·simp only [Act.put, List.setIfInBounds_toArray, List.set_cons_zero, List.set_cons_succ, i64_w, i32_w]
  rfl
 refine take_ (i := 2) (N := some 11) (v := ?_) (a' := ?_) #[true, true, true, false, false, false, false, false, false, false, false, false] rfl rfl (take_ofW HT_.out HW_.out (by kernel_rfl)) (fun _ _ _ h => h) (Or.inl ⟨by rfl, ?_⟩) hHeld ?_ ?_
 rotate_left
 ·rintro w' ⟨s0, s1, s2⟩
  go_simp
  with_reducible rfl
 rotate_left
 ·simp only [Act.put, List.setIfInBounds_toArray, List.set_cons_zero, List.set_cons_succ, i64_w, i32_w]
  rfl
 refine one_ (i := 3) (N := some 12) #[true, true, true, true, false, false, false, false, false, false, false, false] rfl rfl (one_of HT_.out (by kernel_rfl)) (by decide) (fun K hK => ?_)
 refine gs Tryz.func77 #[.agg #[.bool t422, .string t423, .string t424]] ?_
 with_reducible refine (rational_den.calls t422 t423 t424 t425 _ A3.out).mono ?_
 rintro e w14 ⟨rfl, hb⟩
 refine ⟨_, rfl, ?_⟩
 replace BK420 := Aside0.mk (bk0 BK420.out hb)
 replace BK421 := Aside0.mk (bk0 BK421.out hb)
 replace HB := Aside0.mk (bs HB.out hb)
 (try clear hb); (try clear hb2); (try clear hk); (try clear hi)
 refine hK.out _ _ ⟨(blk_cell BK420.out 0).trans rfl, (blk_cell BK420.out 1).trans rfl, (blk_cell BK420.out 2).trans rfl⟩ (fun hHeld => ?_)
 clear hK K
 refine nm ?_
 refine one_ (i := 4) (N := some 13) #[true, true, true, true, true, false, false, false, false, false, false, false] rfl rfl (one_of HT_.out (by kernel_rfl)) (by decide) (fun K hK => ?_)
 refine gs Tryz.func76 #[.string t423, .string t425] ?_
 with_reducible refine (natural_Divide.calls k t423 t425 t426 t427 t428 _ A4.out).mono ?_
 rintro e w15 ⟨rfl, hb⟩
 refine ⟨_, rfl, ?_⟩
 replace BK420 := Aside0.mk (bk0 BK420.out hb)
 replace BK421 := Aside0.mk (bk0 BK421.out hb)
 replace HB := Aside0.mk (bs HB.out hb)
 (try clear hb); (try clear hb2); (try clear hk); (try clear hi)
 refine hK.out _ _ ⟨(blk_cell BK420.out 0).trans rfl, (blk_cell BK420.out 1).trans rfl, (blk_cell BK420.out 2).trans rfl⟩ (fun hHeld => ?_)
 clear hK K
 refine nm ?_
 refine py 5 (some 8) #[true, true, true, true, true, true, false, false, false, false, false, false] HT_ ?_
 refine py 6 (some 14) #[true, true, true, true, true, true, true, false, false, false, false, false] HT_ ?_
 refine py 7 (some 15) #[true, true, true, true, true, true, true, true, false, false, false, false] HT_ ?_
 refine py 8 (some 16) #[true, true, true, true, true, true, true, true, true, false, false, false] HT_ ?_
 refine py 9 (some 3) #[true, true, true, true, true, true, true, true, true, true, false, false] HT_ ?_
 refine py 10 (some 4) #[true, true, true, true, true, true, true, true, true, true, true, false] HT_ ?_
 refine py 11 (some 5) #[true, true, true, true, true, true, true, true, true, true, true, true] HT_ ?_
 refine done_ (done_of HT_.out (by kernel_rfl)) ?_
 (try (simp only [Exit.then]; refine (by assumption : ∀ (a : Act) (w : World), Code.wp _ _ _ a w → _) _ _ ?_))
 go_upto_region 3 with (fail)
 go_cut [22] (fun v22 wc => ∃ (kq : Nat) (x22_4 : Bool), v22 = .bool x22_4 ∧ Aside0 (rational_Floor.j0 kq t426 x22_4 t422 t423 t424 = some (r1, r2, r3)) ∧ Aside0 (kq ≤ k) ∧ Aside0 (wc.heap[gb420]? = some (.cells #[.bool t422, .string t423, .string t424] 24 (0, 0))) ∧ Aside0 (wc.heap[gb421]? = some (.cells #[.bool false, .string (⟨#[]⟩ : ByteArray), .string (⟨#[]⟩ : ByteArray)] 24 (0, 0))) ∧ Aside0 (Below w.heap.size w wc))
 case first =>
  have H := HC5.out
  clear HC5
  by_cases c16 : t422 = true
  ·subst c16
   have H1 : (rational_Floor.j0 k t426 (t427.toList != ([] : List UInt8)) true t423 t424) = some (r1, r2, r3) := by rw [if_pos rfl] at H; exact H
   clear H
   have H := H1
   clear H1
   have H' := Aside0.mk H
   clear H
   have hnb17 := NB420_421.out
   have hnc17 := NB421_420.out
   obtain ⟨hcz18_0, hcz18_1, hcz18_2, hfz18_0, hfz18_1, hfz18_2⟩ := cz BK420.out
   go_wp2
   go_meet
   case rel => exact ⟨_, ((t427.toList != ([] : List UInt8))), fs, H', ⟨by first | omega | exact Nat.le_refl _⟩, ⟨bq BK420.out⟩, ⟨bq BK421.out⟩, ⟨bz HB.out⟩⟩
  ·replace c16 := Bool.eq_false_iff.mpr c16
   subst c16
   have H1 : (rational_Floor.j0 k t426 false false t423 t424) = some (r1, r2, r3) := by rw [if_neg (show ¬ (false = true) by decide)] at H; exact H
   clear H
   have H := H1
   clear H1
   have H' := Aside0.mk H
   clear H
   have hnb19 := NB420_421.out
   have hnc19 := NB421_420.out
   obtain ⟨hcz20_0, hcz20_1, hcz20_2, hfz20_0, hfz20_1, hfz20_2⟩ := cz BK420.out
   go_wp2
   go_meet
   case rel => exact ⟨_, (false), fs, H', ⟨by first | omega | exact Nat.le_refl _⟩, ⟨bq BK420.out⟩, ⟨bq BK421.out⟩, ⟨bz HB.out⟩⟩
 case rest =>
  clear HC5
  (try clear c16); (try clear hcz11_0); (try clear hcz11_1); (try clear hcz11_2); (try clear hcz18_0); (try clear hcz18_1); (try clear hcz18_2); (try clear hcz20_0); (try clear hcz20_1); (try clear hcz20_2); (try clear hcz9_0); (try clear hcz9_1); (try clear hcz9_2); (try clear hfz11_0); (try clear hfz11_1); (try clear hfz11_2); (try clear hfz18_0); (try clear hfz18_1); (try clear hfz18_2); (try clear hfz20_0); (try clear hfz20_1); (try clear hfz20_2); (try clear hfz9_0); (try clear hfz9_1); (try clear hfz9_2)
  obtain ⟨kq, x22_4, rfl, HA, HJ4, BK420, BK421, HB⟩ := hcut
  cases kq with
  | zero => exact absurd HA.out (by simp [rational_Floor.j0])
  | succ kj4 =>
   have H := HA.out
   clear HA
   simp only [rational_Floor.j0] at H
   by_cases c21 : x22_4 = true
   ·subst c21
    have H1 : ((natural_Add.f kj4 t426 (⟨#[1]⟩ : ByteArray)).bind fun t429 => ((rational_reduced.f kj4 t422 t429 (⟨#[1]⟩ : ByteArray)).bind fun bt430 => (some (bt430.1, bt430.2.1, bt430.2.2)))) = some (r1, r2, r3) := by rw [if_pos rfl] at H; exact H
    clear H
    have H := H1
    clear H1
    obtain ⟨t429, A22, H⟩ := bs1 H
    obtain ⟨⟨t430, t431, t432⟩, A23, H⟩ := bs1 H; dsimp only at H
    simp only [Option.some.injEq, Prod.mk.injEq] at H
    obtain ⟨rfl, rfl, rfl⟩ := H
    go_wp2_with (first | ((with_reducible refine gc 63 rfl ?_); refine gl (some 24) Tryz.func63 #[.string t426, .string (⟨#[1]⟩ : ByteArray)] ?_; (with_reducible refine (natural_Add.calls kj4 t426 (⟨#[1]⟩ : ByteArray) t429 _ A22.out).mono ?_); rintro e w24 ⟨rfl, hb⟩; refine ⟨_, rfl, ?_⟩; replace BK420 := Aside0.mk (bk0 BK420.out hb); replace BK421 := Aside0.mk (bk0 BK421.out hb); replace HB := Aside0.mk (bs HB.out hb); (try clear hb); have hnb25 := NB420_421.out; have hnc25 := NB421_420.out; obtain ⟨hcz26_0, hcz26_1, hcz26_2, hfz26_0, hfz26_1, hfz26_2⟩ := cz BK420.out) | ((with_reducible refine gc 62 rfl ?_); refine gl (some 28) Tryz.func62 #[.bool t422, .string t429, .string (⟨#[1]⟩ : ByteArray)] ?_; (with_reducible refine (rational_reduced.calls kj4 t422 t429 (⟨#[1]⟩ : ByteArray) t430 t431 t432 _ A23.out).mono ?_); rintro e w27 ⟨rfl, hb⟩; refine ⟨_, rfl, ?_⟩; replace BK420 := Aside0.mk (bk0 BK420.out hb); replace BK421 := Aside0.mk (bk0 BK421.out hb); replace HB := Aside0.mk (bs HB.out hb); (try clear hb); obtain ⟨hcz28_0, hcz28_1, hcz28_2, hfz28_0, hfz28_1, hfz28_2⟩ := cz BK421.out))
    refine bodyPost_ret (results_cell_row rfl _ _ gb421 24 #[.bool t430, .string t431, .string t432] (0, 0) _ rfl (bq BK421.out) Tryz.underlying24 rfl (by kernel_rfl)) rfl ?_
    exact ⟨fe, bz HB.out⟩
   ·replace c21 := Bool.eq_false_iff.mpr c21
    subst c21
    have H1 : ((rational_reduced.f kj4 t422 t426 (⟨#[1]⟩ : ByteArray)).bind fun bt433 => (some (bt433.1, bt433.2.1, bt433.2.2))) = some (r1, r2, r3) := by rw [if_neg (show ¬ (false = true) by decide)] at H; exact H
    clear H
    have H := H1
    clear H1
    obtain ⟨⟨t433, t434, t435⟩, A29, H⟩ := bs1 H; dsimp only at H
    simp only [Option.some.injEq, Prod.mk.injEq] at H
    obtain ⟨rfl, rfl, rfl⟩ := H
    have hnb30 := NB420_421.out
    have hnc30 := NB421_420.out
    obtain ⟨hcz31_0, hcz31_1, hcz31_2, hfz31_0, hfz31_1, hfz31_2⟩ := cz BK420.out
    go_wp2_with (first | ((with_reducible refine gc 62 rfl ?_); refine gl (some 28) Tryz.func62 #[.bool t422, .string t426, .string (⟨#[1]⟩ : ByteArray)] ?_; (with_reducible refine (rational_reduced.calls kj4 t422 t426 (⟨#[1]⟩ : ByteArray) t433 t434 t435 _ A29.out).mono ?_); rintro e w32 ⟨rfl, hb⟩; refine ⟨_, rfl, ?_⟩; replace BK420 := Aside0.mk (bk0 BK420.out hb); replace BK421 := Aside0.mk (bk0 BK421.out hb); replace HB := Aside0.mk (bs HB.out hb); (try clear hb); obtain ⟨hcz33_0, hcz33_1, hcz33_2, hfz33_0, hfz33_1, hfz33_2⟩ := cz BK421.out))
    refine bodyPost_ret (results_cell_row rfl _ _ gb421 24 #[.bool t433, .string t434, .string t435] (0, 0) _ rfl (bq BK421.out) Tryz.underlying24 rfl (by kernel_rfl)) rfl ?_
    exact ⟨fe, bz HB.out⟩

/-! ### insolvencylaw2_awake: function 16 -/
def insolvencylaw2_awake.f (k : Nat)  : Option (Bool) := (rational_Fraction.f k 6 (-4)).bind fun bt436 => ((rational_Parse.f k (⟨#[51, 46, 50, 53, 48]⟩ : ByteArray)).bind fun bt441 => ((rational_Fraction.f k (-2) 3).bind fun bt446 => (if bt436.2.2.2 = true then ((rational_Format.f k bt436.1 bt436.2.1 bt436.2.2.1).bind fun t451 => (if t451.toList = ([45, 51, 47, 50] : List UInt8) then ((rational_Floor.f k bt436.1 bt436.2.1 bt436.2.2.1).bind fun bt452 => ((rational_Format.f k bt452.1 bt452.2.1 bt452.2.2).bind fun t455 => (if t455.toList = ([45, 50] : List UInt8) then (if bt441.2.2.2 = 0 then ((rational_Format.f k bt441.1 bt441.2.1 bt441.2.2.1).bind fun t456 => (if t456.toList = ([49, 51, 47, 52] : List UInt8) then ((rational_Decimal.f k bt446.1 bt446.2.1 bt446.2.2.1 2).bind fun t457 => (some (t457.toList == ([45, 48, 46, 54, 54] : List UInt8)))) else (some false))) else (some false)) else (some false)))) else (some false))) else (some false))))
set_option maxHeartbeats 8000000 in
set_option maxRecDepth 100000 in
theorem insolvencylaw2_awake.calls (k : Nat)  (r : Bool) (w : World) (h : insolvencylaw2_awake.f k  = some r) (hr : r = true := by first | rfl | assumption) :
  Calls Tryz.prog 16 #[] w fun e w' => e = .returned (.bool r) ∧ Below w.heap.size w w' := by
 have hu24 := Tryz.underlying24
 have HB := Aside0.mk (Below.refl w.heap.size w)
 have H := h
 clear h
 unfold insolvencylaw2_awake.f at H
 obtain ⟨⟨t436, t437, t438, t439⟩, A1, H⟩ := bs1 H; dsimp only at H
 obtain ⟨⟨t441, t442, t443, t444⟩, A2, H⟩ := bs1 H; dsimp only at H
 obtain ⟨⟨t446, t447, t448, t449⟩, A3, H⟩ := bs1 H; dsimp only at H
 by_cases c4 : t439 = true
 ·subst c4
  have H1 : ((rational_Format.f k t436 t437 t438).bind fun t451 => (if t451.toList = ([45, 51, 47, 50] : List UInt8) then ((rational_Floor.f k t436 t437 t438).bind fun bt452 => ((rational_Format.f k bt452.1 bt452.2.1 bt452.2.2).bind fun t455 => (if t455.toList = ([45, 50] : List UInt8) then (if t444 = 0 then ((rational_Format.f k t441 t442 t443).bind fun t456 => (if t456.toList = ([49, 51, 47, 52] : List UInt8) then ((rational_Decimal.f k t446 t447 t448 2).bind fun t457 => (some (t457.toList == ([45, 48, 46, 54, 54] : List UInt8)))) else (some false))) else (some false)) else (some false)))) else (some false))) = some r := by rw [if_pos rfl] at H; exact H
  clear H
  have H := H1
  clear H1
  obtain ⟨t451, A5, H⟩ := bs1 H
  by_cases c6 : t451.toList = ([45, 51, 47, 50] : List UInt8)
  ·rw [if_pos c6] at H
   have c6b0 := beq_iff_eq.mpr c6
   have c6b1 := bne_eq_false_iff_eq.mpr c6
   clear c6
   obtain ⟨⟨t452, t453, t454⟩, A7, H⟩ := bs1 H; dsimp only at H
   obtain ⟨t455, A8, H⟩ := bs1 H
   by_cases c9 : t455.toList = ([45, 50] : List UInt8)
   ·rw [if_pos c9] at H
    have c9b0 := beq_iff_eq.mpr c9
    have c9b1 := bne_eq_false_iff_eq.mpr c9
    clear c9
    by_cases c10 : t444 = 0
    ·rw [if_pos c10] at H
     have c10b0 := beq_iff_eq.mpr c10
     have c10b1 := bne_eq_false_iff_eq.mpr c10
     clear c10
     obtain ⟨t456, A11, H⟩ := bs1 H
     by_cases c12 : t456.toList = ([49, 51, 47, 52] : List UInt8)
     ·rw [if_pos c12] at H
      have c12b0 := beq_iff_eq.mpr c12
      have c12b1 := bne_eq_false_iff_eq.mpr c12
      clear c12
      obtain ⟨t457, A13, H⟩ := bs1 H
      obtain rfl := Option.some.inj H
      go_enter Tryz.func16, Tryz.ntmps16
      go_wp2_with (first | ((with_reducible refine gc 25 rfl ?_); refine gl (some 8) Tryz.func25 #[.int .i64 6, .int .i64 (-4)] ?_; (with_reducible refine (rational_Fraction.calls k 6 (-4) t436 t437 t438 true _ A1.out).mono ?_); rintro e w14 ⟨rfl, hb⟩; refine ⟨_, rfl, ?_⟩; replace HB := Aside0.mk (bs HB.out hb); (try clear hb)) | ((with_reducible refine gd 1 rfl ?_); refine bx 1 (#[.bool false, .string (⟨#[]⟩ : ByteArray), .string (⟨#[]⟩ : ByteArray)]) 24 ?_; intro gb440 hg w15 hbox hb; have BK440 := Aside0.mk (hbox); have GW440 := sg hg HB.out; have GE440 := sg hg HB.out; replace HB := Aside0.mk (bs HB.out hb); clear hb hbox hg; obtain ⟨hcz16_0, hcz16_1, hcz16_2, hfz16_0, hfz16_1, hfz16_2⟩ := cz BK440.out) | ((with_reducible refine gc 17 rfl ?_); refine gl (some 12) Tryz.func17 #[.string (⟨#[51, 46, 50, 53, 48]⟩ : ByteArray)] ?_; (with_reducible refine (rational_Parse.calls k (⟨#[51, 46, 50, 53, 48]⟩ : ByteArray) t441 t442 t443 t444 _ A2.out).mono ?_); rintro e w17 ⟨rfl, hb⟩; refine ⟨_, rfl, ?_⟩; replace BK440 := Aside0.mk (bk BK440.out hb (.cells #[.bool t436, .string t437, .string t438] 24 (0, 0))); replace HB := Aside0.mk (bs HB.out hb); (try clear hb)) | ((with_reducible refine gd 3 rfl ?_); refine bx 3 (#[.bool false, .string (⟨#[]⟩ : ByteArray), .string (⟨#[]⟩ : ByteArray)]) 24 ?_; intro gb445 hg w18 hbox hb; have BK445 := Aside0.mk (hbox); have GW445 := sg hg HB.out; have GE445 := sg hg HB.out; replace HB := Aside0.mk (bs HB.out hb); have NB440_445 := nl hg BK440.out; have NB445_440 := nr hg BK440.out; replace BK440 := Aside0.mk (bk0 BK440.out hb); clear hb hbox hg; have hnb19 := NB445_440.out; have hnc19 := NB440_445.out; obtain ⟨hcz20_0, hcz20_1, hcz20_2, hfz20_0, hfz20_1, hfz20_2⟩ := cz BK445.out) | ((with_reducible refine gc 25 rfl ?_); refine gl (some 16) Tryz.func25 #[.int .i64 (-2), .int .i64 3] ?_; (with_reducible refine (rational_Fraction.calls k (-2) 3 t446 t447 t448 t449 _ A3.out).mono ?_); rintro e w21 ⟨rfl, hb⟩; refine ⟨_, rfl, ?_⟩; replace BK440 := Aside0.mk (bk0 BK440.out hb); replace BK445 := Aside0.mk (bk BK445.out hb (.cells #[.bool t441, .string t442, .string t443] 24 (0, 0))); replace HB := Aside0.mk (bs HB.out hb); (try clear hb)) | ((with_reducible refine gd 5 rfl ?_); refine bx 5 (#[.bool false, .string (⟨#[]⟩ : ByteArray), .string (⟨#[]⟩ : ByteArray)]) 24 ?_; intro gb450 hg w22 hbox hb; have BK450 := Aside0.mk (hbox); have GW450 := sg hg HB.out; have GE450 := sg hg HB.out; replace HB := Aside0.mk (bs HB.out hb); have NB440_450 := nl hg BK440.out; have NB450_440 := nr hg BK440.out; replace BK440 := Aside0.mk (bk0 BK440.out hb); have NB445_450 := nl hg BK445.out; have NB450_445 := nr hg BK445.out; replace BK445 := Aside0.mk (bk0 BK445.out hb); clear hb hbox hg; have hnb23 := NB450_440.out; have hnc23 := NB440_450.out; have hnb24 := NB450_445.out; have hnc24 := NB445_450.out; obtain ⟨hcz25_0, hcz25_1, hcz25_2, hfz25_0, hfz25_1, hfz25_2⟩ := cz BK450.out; obtain ⟨hcz26_0, hcz26_1, hcz26_2, hfz26_0, hfz26_1, hfz26_2⟩ := cz BK440.out) | (go_at_call 20; (with_reducible refine (rational_Format.calls k t436 t437 t438 t451 _ A5.out).mono ?_); rintro e w27 ⟨rfl, hb⟩; replace BK440 := Aside0.mk (bk0 BK440.out hb); replace BK445 := Aside0.mk (bk0 BK445.out hb); replace BK450 := Aside0.mk (bk BK450.out hb (.cells #[.bool t446, .string t447, .string t448] 24 (0, 0))); replace HB := Aside0.mk (bs HB.out hb); (try clear hb); obtain ⟨hcz28_0, hcz28_1, hcz28_2, hfz28_0, hfz28_1, hfz28_2⟩ := cz BK440.out) | (go_at_call 55; (with_reducible refine (rational_Floor.calls k t436 t437 t438 t452 t453 t454 _ A7.out).mono ?_); rintro e w29 ⟨rfl, hb⟩; replace BK440 := Aside0.mk (bk0 BK440.out hb); replace BK445 := Aside0.mk (bk0 BK445.out hb); replace BK450 := Aside0.mk (bk0 BK450.out hb); replace HB := Aside0.mk (bs HB.out hb); (try clear hb)) | (go_at_call 20; (with_reducible refine (rational_Format.calls k t452 t453 t454 t455 _ A8.out).mono ?_); rintro e w30 ⟨rfl, hb⟩; replace BK440 := Aside0.mk (bk0 BK440.out hb); replace BK445 := Aside0.mk (bk0 BK445.out hb); replace BK450 := Aside0.mk (bk0 BK450.out hb); replace HB := Aside0.mk (bs HB.out hb); (try clear hb); obtain ⟨hcz31_0, hcz31_1, hcz31_2, hfz31_0, hfz31_1, hfz31_2⟩ := cz BK445.out) | (go_at_call 20; (with_reducible refine (rational_Format.calls k t441 t442 t443 t456 _ A11.out).mono ?_); rintro e w32 ⟨rfl, hb⟩; replace BK440 := Aside0.mk (bk0 BK440.out hb); replace BK445 := Aside0.mk (bk0 BK445.out hb); replace BK450 := Aside0.mk (bk0 BK450.out hb); replace HB := Aside0.mk (bs HB.out hb); (try clear hb); obtain ⟨hcz33_0, hcz33_1, hcz33_2, hfz33_0, hfz33_1, hfz33_2⟩ := cz BK450.out) | (go_at_call 23; (with_reducible refine (rational_Decimal.calls k t446 t447 t448 2 t457 _ A13.out).mono ?_); rintro e w34 ⟨rfl, hb⟩; replace BK440 := Aside0.mk (bk0 BK440.out hb); replace BK445 := Aside0.mk (bk0 BK445.out hb); replace BK450 := Aside0.mk (bk0 BK450.out hb); replace HB := Aside0.mk (bs HB.out hb); (try clear hb)))
      go_ret
      exact ⟨fe, bz HB.out⟩
     ·rw [if_neg c12] at H
      exact nf hr H
    ·rw [if_neg c10] at H
     exact nf hr H
   ·rw [if_neg c9] at H
    exact nf hr H
  ·rw [if_neg c6] at H
   exact nf hr H
 ·replace c4 := Bool.eq_false_iff.mpr c4
  subst c4
  have H1 : (some false) = some r := by rw [if_neg (show ¬ (false = true) by decide)] at H; exact H
  clear H
  have H := H1
  clear H1
  exact nf hr H/-! ### insolvencyref1_cut: function 66 -/
def insolvencyref1_cut.l0 : Nat → ByteArray → Int → Int → Option (ByteArray × ByteArray × Bool)
 | 0, _, _, _ => none
 | k + 1, x0, x1, x7 => if x7 < (x0.size : Int) then (if 0 ≤ x7 then (if (bt x0 x7) = x1 then (if x7 ≤ (x0.size : Int) then (if 0 ≤ (wrap64 (x7 + 1)) then (if (wrap64 (x7 + 1)) ≤ (x0.size : Int) then (some (x0.extract 0 (x7 : Int).toNat, x0.extract ((wrap64 (x7 + 1)) : Int).toNat x0.size, true)) else (none)) else (none)) else (none)) else (insolvencyref1_cut.l0 k x0 x1 (wrap64 (x7 + 1)))) else (none)) else (some (x0, (⟨#[]⟩ : ByteArray), false))
def insolvencyref1_cut.f (k : Nat) (a0 : ByteArray) (a1 : Int) : Option (ByteArray × ByteArray × Bool) := insolvencyref1_cut.l0 k a0 a1 0
set_option maxHeartbeats 8000000 in
set_option maxRecDepth 100000 in
theorem insolvencyref1_cut.calls (k : Nat) (a0 : ByteArray) (a1 : Int) (r1 : ByteArray) (r2 : ByteArray) (r3 : Bool) (w : World) (h : insolvencyref1_cut.f k a0 a1 = some (r1, r2, r3)) :
  Calls Tryz.prog 66 #[.string a0, .int .u8 a1] w fun e w' => e = .returned (.tuple #[.string r1, .string r2, .bool r3]) ∧ Drawn0 w w' := by
 have H := h
 clear h
 unfold insolvencyref1_cut.f at H
 have H' := Aside0.mk H
 clear H
 go_enter Tryz.func66, Tryz.ntmps66
 go_wp2
 repeat (go_quiet (fail); try go_wp2)
 go_loopg [7] k (fun kq v7 w' => ∃ (x7_1 : Int), v7 = .int .i64 x7_1 ∧ Aside0 (insolvencyref1_cut.l0 kq a0 a1 x7_1 = some (r1, r2, r3)) ∧ Aside0 (kq ≤ k) ∧ Drawn0 w w')
 case atStart => exact ⟨(0), fs, H', ⟨Nat.le_refl _⟩, dz⟩
 case round =>
  clear H'
  obtain ⟨x7_1, rfl, HA, HK1, ⟨m1, rfl⟩⟩ := hrel
  cases gk with
  | zero => exact absurd HA.out (by simp [insolvencyref1_cut.l0])
  | succ k1 =>
   have H := HA.out
   clear HA
   simp only [insolvencyref1_cut.l0] at H
   by_cases c3 : x7_1 < (a0.size : Int)
   ·rw [if_pos c3] at H
    have c3b0 : decide (x7_1 < (a0.size : Int)) = true := decide_eq_true c3
    clear c3
    obtain ⟨c4, H⟩ := iN H
    have c4b0 : decide (0 ≤ x7_1) = true := decide_eq_true c4
    clear c4
    by_cases c6 : (bt a0 x7_1) = a1
    ·rw [if_pos c6] at H
     have c6b0 := beq_iff_eq.mpr c6
     have c6b1 := bne_eq_false_iff_eq.mpr c6
     clear c6
     have c7b0 := eq_true (oa : 0 ≤ x7_1)
     obtain ⟨c8, H⟩ := iN H
     have c8b0 := eq_true c8
     have c8b1 : decide (x7_1 ≤ (a0.size : Int)) = true := decide_eq_true c8
     clear c8
     obtain ⟨ji9, hji9⟩ : ∃ j_ : Int, (wrap64 (x7_1 + 1)) = j_ := ⟨_, rfl⟩
     first | rw [hji9] at H | simp only [hji9] at H
     have hji9w : (IntKind.i64.wrap (x7_1 + 1)) = ji9 := (i64_w _).trans hji9
     obtain ⟨c10, H⟩ := iN H
     have c10b0 := eq_true c10
     have c10b1 : decide (0 ≤ (ji9)) = true := decide_eq_true c10
     clear c10
     obtain ⟨c11, H⟩ := iN H
     have c11b0 := eq_true c11
     have c11b1 : decide ((ji9) ≤ (a0.size : Int)) = true := decide_eq_true c11
     clear c11
     simp only [Option.some.injEq, Prod.mk.injEq] at H
     obtain ⟨rfl, rfl, rfl⟩ := H
     have p5 : 0 ≤ (x7_1 : Int) := oa
     have q5 : x7_1 < (a0.size : Int) := oa
     have hx5 := bt_at a0 x7_1
     replace p5 := eq_true p5
     replace q5 := eq_true q5
     go_wp2
     repeat (go_quiet (fail); try go_wp2)
     go_ret3
     exact ⟨by first | rfl | (simp; done) | (simp only [← hji9] <;> (first | rfl | simp)) | (simp [*]; done), dz⟩
    ·rw [if_neg c6] at H
     have c6b0 := beq_eq_false_iff_ne.mpr c6
     have c6b1 := bne_iff_ne.mpr c6
     have H' := Aside0.mk H
     clear H
     have p5 : 0 ≤ (x7_1 : Int) := oa
     have q5 : x7_1 < (a0.size : Int) := oa
     have hx5 := bt_at a0 x7_1
     replace p5 := eq_true p5
     replace q5 := eq_true q5
     go_wp2
     repeat (go_quiet (fail); try go_wp2)
     go_roundg k1
     case measure => have := HK1.out; omega
     case rel => exact ⟨(wrap64 (x7_1 + 1)), fs, H', ⟨by have := HK1.out; omega⟩, dz⟩
   ·rw [if_neg c3] at H
    have c3b0 : decide (x7_1 < (a0.size : Int)) = false := decide_eq_false c3
    clear c3
    simp only [Option.some.injEq, Prod.mk.injEq] at H
    obtain ⟨rfl, rfl, rfl⟩ := H
    go_wp2
    repeat (go_quiet (fail); try go_wp2)
    go_ret3
    exact ⟨fs, dz⟩

attribute [local go_sem high] eqA24
/-! ### insolvencylaw0_Few: function 90 -/
def insolvencylaw0_Few.f (a0_0 : Bool) (a0_1 : ByteArray) (a0_2 : ByteArray) : Option (Bool) := if (a0_1.size : Int) ≤ 24 then (some (decide ((a0_2.size : Int) ≤ 24))) else (some false)
set_option maxHeartbeats 8000000 in
set_option maxRecDepth 100000 in
theorem insolvencylaw0_Few.calls (a0_0 : Bool) (a0_1 : ByteArray) (a0_2 : ByteArray) (r : Bool) (w : World) (h : insolvencylaw0_Few.f a0_0 a0_1 a0_2 = some r) :
  Calls Tryz.prog 90 #[.agg #[.bool a0_0, .string a0_1, .string a0_2]] w fun e w' => e = .returned (.bool r) ∧ Below w.heap.size w w' := by
 have hu24 := Tryz.underlying24
 have HB := Aside0.mk (Below.refl w.heap.size w)
 have H := h
 clear h
 unfold insolvencylaw0_Few.f at H
 by_cases c2 : (a0_1.size : Int) ≤ 24
 ·rw [if_pos c2] at H
  have c2b0 : decide ((a0_1.size : Int) ≤ 24) = true := decide_eq_true c2
  have c2b1 : decide (a0_1.size ≤ 24) = true := decide_eq_true (by omega)
  clear c2
  obtain rfl := Option.some.inj H
  go_enter Tryz.func90, Tryz.ntmps90
  go_wp2_with (first | ((with_reducible refine gd 1 rfl ?_); (try (refine gate_guard (by rfl) ?_; dsimp only)); refine bx 1 (#[.bool a0_0, .string a0_1, .string a0_2]) 24 ?_; intro gb669 hg w3 hbox hb; have BK669 := Aside0.mk (hbox); have GW669 := sg hg HB.out; have GE669 := sg hg HB.out; replace HB := Aside0.mk (bs HB.out hb); clear hb hbox hg; obtain ⟨hcz4_0, hcz4_1, hcz4_2, hfz4_0, hfz4_1, hfz4_2⟩ := cz BK669.out))
  go_ret
  exact ⟨fe, bz HB.out⟩
 ·rw [if_neg c2] at H
  have c2b0 : decide ((a0_1.size : Int) ≤ 24) = false := decide_eq_false c2
  have c2b1 : decide (a0_1.size ≤ 24) = false := decide_eq_false (by omega)
  clear c2
  obtain rfl := Option.some.inj H
  go_enter Tryz.func90, Tryz.ntmps90
  go_wp2_with (first | ((with_reducible refine gd 1 rfl ?_); (try (refine gate_guard (by rfl) ?_; dsimp only)); refine bx 1 (#[.bool a0_0, .string a0_1, .string a0_2]) 24 ?_; intro gb669 hg w5 hbox hb; have BK669 := Aside0.mk (hbox); have GW669 := sg hg HB.out; have GE669 := sg hg HB.out; replace HB := Aside0.mk (bs HB.out hb); clear hb hbox hg; obtain ⟨hcz6_0, hcz6_1, hcz6_2, hfz6_0, hfz6_1, hfz6_2⟩ := cz BK669.out))
  go_ret
  exact ⟨fe, bz HB.out⟩

/-! ### insolvencylaw0_FewRats: function 33 -/
def insolvencylaw0_FewRats.l0 : Nat → List (S24) → Int → Int → Option (Bool)
 | 0, _, _, _ => none
 | k + 1, x11, x12, x13 => if x13 < x12 then (if 0 ≤ x13 then (if x13 < (x11.length : Int) then ((insolvencylaw0_Few.f ((rd_T24 x11 x13).f0) ((rd_T24 x11 x13).f1) ((rd_T24 x11 x13).f2)).bind fun t672 => (if t672 = true then (insolvencylaw0_FewRats.l0 k x11 x12 (wrap64 (x13 + 1))) else (some false))) else (none)) else (none)) else (some true)
def insolvencylaw0_FewRats.f (k : Nat) (l0 : List (S24)) (a1 : Int) : Option (Bool) := if (l0.length : Int) > a1 then (some false) else (insolvencylaw0_FewRats.l0 k l0 (l0.length : Int) 0)
set_option maxHeartbeats 8000000 in
set_option maxRecDepth 100000 in
theorem insolvencylaw0_FewRats.calls (k : Nat) (A0 : Option Addr) (c0 : Nat) (l0 : List (S24)) (a1 : Int) (r : Bool) (w : World) (hr0 : Kd.C k24 w A0 l0.length l0) (hc0 : l0.length ≤ c0) (h : insolvencylaw0_FewRats.f k l0 a1 = some r) :
  Calls Tryz.prog 33 #[.slice A0 l0.length c0, .int .i64 a1] w fun e w' => e = .returned (.bool r) ∧ Below w.heap.size w w' := by
 have hu24 := Tryz.underlying24
 have HR0 := Aside0.mk hr0
 have HC0 := Aside0.mk hc0
 clear hr0 hc0
 have HB := Aside0.mk (Below.refl w.heap.size w)
 have H := h
 clear h
 unfold insolvencylaw0_FewRats.f at H
 by_cases c3 : (l0.length : Int) > a1
 ·rw [if_pos c3] at H
  have c3b0 : decide (a1 < (l0.length : Int)) = true := decide_eq_true c3
  clear c3
  obtain rfl := Option.some.inj H
  go_enter Tryz.func33, Tryz.ntmps33
  go_wp2
  go_ret
  exact ⟨fe, bz HB.out⟩
 ·rw [if_neg c3] at H
  have c3b0 : decide (a1 < (l0.length : Int)) = false := decide_eq_false c3
  clear c3
  have H' := Aside0.mk H
  clear H
  go_enter Tryz.func33, Tryz.ntmps33
  go_wp2
  go_loopg [13] k (fun kq v13 w' => ∃ (x13_1 : Int), v13 = .int .i64 x13_1 ∧ Aside0 (insolvencylaw0_FewRats.l0 kq l0 (l0.length : Int) x13_1 = some r) ∧ Aside0 (kq ≤ k) ∧ Aside0 (Below w.heap.size w w'))
  case atStart => exact ⟨(0), fs, H', ⟨Nat.le_refl _⟩, ⟨bz HB.out⟩⟩
  case round =>
   clear H'
   (try clear c3b0)
   obtain ⟨x13_1, rfl, HA, HK1, HB⟩ := hrel
   cases gk with
   | zero => exact absurd HA.out (by simp [insolvencylaw0_FewRats.l0])
   | succ k1 =>
    have H := HA.out
    clear HA
    simp only [insolvencylaw0_FewRats.l0] at H
    by_cases c4 : x13_1 < (l0.length : Int)
    ·rw [if_pos c4] at H
     have c4b0 : decide (x13_1 < (l0.length : Int)) = true := decide_eq_true c4
     clear c4
     obtain ⟨c5, H⟩ := iN H
     have c5b0 : decide (0 ≤ x13_1) = true := decide_eq_true c5
     clear c5
     obtain ⟨c6, H⟩ := iN H
     have c6b0 : decide (x13_1 < (l0.length : Int)) = true := decide_eq_true c6
     clear c6
     obtain ⟨t672, A7, H⟩ := bs1 H
     by_cases c8 : t672 = true
     ·subst c8
      have H1 : (insolvencylaw0_FewRats.l0 k1 l0 (l0.length : Int) (wrap64 (x13_1 + 1))) = some r := by rw [if_pos rfl] at H; exact H
      clear H
      have H := H1
      clear H1
      have H' := Aside0.mk H
      clear H
      have p670 : 0 ≤ (x13_1 : Int) := oa
      have q670 : x13_1 < (l0.length : Int) := oa
      obtain ⟨ad670, e670, hx670_0, hx670_1, hx670_2⟩ := at_T24 HR0.out x13_1 p670 q670
      cases e670
      try replace hx670_0 := (HB.out.cell (World.block_lt_of_cell? w _ hx670_0)).trans hx670_0
      try replace hx670_1 := (HB.out.cell (World.block_lt_of_cell? w _ hx670_1)).trans hx670_1
      try replace hx670_2 := (HB.out.cell (World.block_lt_of_cell? w _ hx670_2)).trans hx670_2
      replace p670 := eq_true p670
      replace q670 := eq_true q670
      go_wp2_with (first | ((with_reducible refine gd 6 rfl ?_); refine bx 6 (#[.bool false, .string (⟨#[]⟩ : ByteArray), .string (⟨#[]⟩ : ByteArray)]) 24 ?_; intro gb671 hg w9 hbox hb; have BK671 := Aside0.mk (hbox); have GW671 := sg hg HB.out; have GE671 := sg hg HB.out; replace HB := Aside0.mk (bs HB.out hb); clear hb hbox hg; obtain ⟨hcz10_0, hcz10_1, hcz10_2, hfz10_0, hfz10_1, hfz10_2⟩ := cz BK671.out) | ((with_reducible refine gc 90 rfl ?_); refine gl (some 18) Tryz.func90 #[.agg #[.bool ((rd_T24 l0 x13_1).f0), .string ((rd_T24 l0 x13_1).f1), .string ((rd_T24 l0 x13_1).f2)]] ?_; (with_reducible refine (insolvencylaw0_Few.calls ((rd_T24 l0 x13_1).f0) ((rd_T24 l0 x13_1).f1) ((rd_T24 l0 x13_1).f2) true _ A7.out).mono ?_); rintro e w11 ⟨rfl, hb⟩; refine ⟨_, rfl, ?_⟩; replace BK671 := Aside0.mk (bk BK671.out hb (.cells #[.bool ((rd_T24 l0 x13_1).f0), .string ((rd_T24 l0 x13_1).f1), .string ((rd_T24 l0 x13_1).f2)] 24 (0, 0))); replace HB := Aside0.mk (bs HB.out hb); (try clear hb)))
      go_roundg k1
      case measure => have := HK1.out; omega
      case rel => exact ⟨(wrap64 (x13_1 + 1)), fs, H', ⟨by have := HK1.out; omega⟩, ⟨bz HB.out⟩⟩
     ·replace c8 := Bool.eq_false_iff.mpr c8
      subst c8
      have H1 : (some false) = some r := by rw [if_neg (show ¬ (false = true) by decide)] at H; exact H
      clear H
      have H := H1
      clear H1
      obtain rfl := Option.some.inj H
      have p670 : 0 ≤ (x13_1 : Int) := oa
      have q670 : x13_1 < (l0.length : Int) := oa
      obtain ⟨ad670, e670, hx670_0, hx670_1, hx670_2⟩ := at_T24 HR0.out x13_1 p670 q670
      cases e670
      try replace hx670_0 := (HB.out.cell (World.block_lt_of_cell? w _ hx670_0)).trans hx670_0
      try replace hx670_1 := (HB.out.cell (World.block_lt_of_cell? w _ hx670_1)).trans hx670_1
      try replace hx670_2 := (HB.out.cell (World.block_lt_of_cell? w _ hx670_2)).trans hx670_2
      replace p670 := eq_true p670
      replace q670 := eq_true q670
      go_wp2_with (first | ((with_reducible refine gd 6 rfl ?_); refine bx 6 (#[.bool false, .string (⟨#[]⟩ : ByteArray), .string (⟨#[]⟩ : ByteArray)]) 24 ?_; intro gb671 hg w12 hbox hb; have BK671 := Aside0.mk (hbox); have GW671 := sg hg HB.out; have GE671 := sg hg HB.out; replace HB := Aside0.mk (bs HB.out hb); clear hb hbox hg; obtain ⟨hcz13_0, hcz13_1, hcz13_2, hfz13_0, hfz13_1, hfz13_2⟩ := cz BK671.out) | ((with_reducible refine gc 90 rfl ?_); refine gl (some 18) Tryz.func90 #[.agg #[.bool ((rd_T24 l0 x13_1).f0), .string ((rd_T24 l0 x13_1).f1), .string ((rd_T24 l0 x13_1).f2)]] ?_; (with_reducible refine (insolvencylaw0_Few.calls ((rd_T24 l0 x13_1).f0) ((rd_T24 l0 x13_1).f1) ((rd_T24 l0 x13_1).f2) false _ A7.out).mono ?_); rintro e w14 ⟨rfl, hb⟩; refine ⟨_, rfl, ?_⟩; replace BK671 := Aside0.mk (bk BK671.out hb (.cells #[.bool ((rd_T24 l0 x13_1).f0), .string ((rd_T24 l0 x13_1).f1), .string ((rd_T24 l0 x13_1).f2)] 24 (0, 0))); replace HB := Aside0.mk (bs HB.out hb); (try clear hb)))
      go_ret
      exact ⟨fe, bz HB.out⟩
    ·rw [if_neg c4] at H
     have c4b0 : decide (x13_1 < (l0.length : Int)) = false := decide_eq_false c4
     clear c4
     obtain rfl := Option.some.inj H
     go_wp2
     go_ret
     exact ⟨fe, bz HB.out⟩

/-! ### insolvencylaw2_few: function 19 -/
def insolvencylaw2_few.f (k : Nat) (l0 : List (S24)) : Option (Bool) := (insolvencylaw0_FewRats.f k l0 8).bind fun t673 => (some t673)
set_option maxHeartbeats 8000000 in
set_option maxRecDepth 100000 in
theorem insolvencylaw2_few.calls (k : Nat) (A0 : Option Addr) (c0 : Nat) (l0 : List (S24)) (r : Bool) (w : World) (hr0 : Kd.C k24 w A0 l0.length l0) (hc0 : l0.length ≤ c0) (h : insolvencylaw2_few.f k l0 = some r) :
  Calls Tryz.prog 19 #[.slice A0 l0.length c0] w fun e w' => e = .returned (.bool r) ∧ Below w.heap.size w w' := by
 have HR0 := Aside0.mk hr0
 have HC0 := Aside0.mk hc0
 clear hr0 hc0
 have HB := Aside0.mk (Below.refl w.heap.size w)
 have H := h
 clear h
 unfold insolvencylaw2_few.f at H
 obtain ⟨t673, A2, H⟩ := bs1 H
 obtain rfl := Option.some.inj H
 go_enter Tryz.func19, Tryz.ntmps19
 go_wp2_with (first | ((with_reducible refine gc 33 rfl ?_); refine gl (some 4) Tryz.func33 #[.slice A0 l0.length c0, .int .i64 8] ?_; (with_reducible refine (insolvencylaw0_FewRats.calls k _ _ l0 8 t673 _ ?side1 ?side2 A2.out).mono ?_); (case side1 => repeat (first | exact HR0.out | (with_reducible refine Kd.C_alloc ?_ _) | (with_reducible refine Kd.C_drewN ?_ _) | (with_reducible refine Kd.C_drew ?_))); (case side2 => exact HC0.out); rintro e w3 ⟨rfl, hb⟩; refine ⟨_, rfl, ?_⟩; replace HB := Aside0.mk (bs HB.out hb); (try clear hb)))
 go_ret
 exact ⟨fe, bz HB.out⟩

/-! ### rational_Int: function 27 -/
def rational_Int.f (k : Nat) (a0 : Int) : Option (Bool × ByteArray × ByteArray) := (rational_magnitude.f k a0).bind fun t799 => ((rational_reduced.f k (decide (a0 < 0)) t799 (⟨#[1]⟩ : ByteArray)).bind fun bt800 => (some (bt800.1, bt800.2.1, bt800.2.2)))
set_option maxHeartbeats 8000000 in
set_option maxRecDepth 100000 in
theorem rational_Int.calls (k : Nat) (a0 : Int) (r1 : Bool) (r2 : ByteArray) (r3 : ByteArray) (w : World) (h : rational_Int.f k a0 = some (r1, r2, r3)) :
  Calls Tryz.prog 27 #[.int .i64 a0] w fun e w' => e = .returned (.agg #[.bool r1, .string r2, .string r3]) ∧ Below w.heap.size w w' := by
 have hu24 := Tryz.underlying24
 have HB := Aside0.mk (Below.refl w.heap.size w)
 have H := h
 clear h
 unfold rational_Int.f at H
 obtain ⟨t799, A2, H⟩ := bs1 H
 obtain ⟨⟨t800, t801, t802⟩, A3, H⟩ := bs1 H; dsimp only at H
 simp only [Option.some.injEq, Prod.mk.injEq] at H
 obtain ⟨rfl, rfl, rfl⟩ := H
 go_enter Tryz.func27, Tryz.ntmps27
 go_wp2_with (first | ((with_reducible refine gd 2 rfl ?_); refine bx 2 (#[.bool false, .string (⟨#[]⟩ : ByteArray), .string (⟨#[]⟩ : ByteArray)]) 24 ?_; intro gb798 hg w4 hbox hb; have BK798 := Aside0.mk (hbox); have GW798 := sg hg HB.out; have GE798 := sg hg HB.out; replace HB := Aside0.mk (bs HB.out hb); clear hb hbox hg) | ((with_reducible refine gc 84 rfl ?_); refine gl (some 6) Tryz.func84 #[.int .i64 a0] ?_; (with_reducible refine (rational_magnitude.calls k a0 t799 _ A2.out).mono ?_); rintro e w5 ⟨rfl, hb⟩; refine ⟨_, rfl, ?_⟩; replace BK798 := Aside0.mk (bk0 BK798.out hb); replace HB := Aside0.mk (bs HB.out hb); (try clear hb)) | ((with_reducible refine gc 62 rfl ?_); refine gl (some 7) Tryz.func62 #[.bool (decide (a0 < 0)), .string t799, .string (⟨#[1]⟩ : ByteArray)] ?_; (with_reducible refine (rational_reduced.calls k (decide (a0 < 0)) t799 (⟨#[1]⟩ : ByteArray) t800 t801 t802 _ A3.out).mono ?_); rintro e w6 ⟨rfl, hb⟩; refine ⟨_, rfl, ?_⟩; replace BK798 := Aside0.mk (bk0 BK798.out hb); replace HB := Aside0.mk (bs HB.out hb); (try clear hb); obtain ⟨hcz7_0, hcz7_1, hcz7_2, hfz7_0, hfz7_1, hfz7_2⟩ := cz BK798.out))
 refine bodyPost_ret (results_cell_row rfl _ _ gb798 24 #[.bool t800, .string t801, .string t802] (0, 0) _ rfl (bq BK798.out) Tryz.underlying24 rfl (by kernel_rfl)) rfl ?_
 exact ⟨fe, bz HB.out⟩
end Go.Proofs.YtgepdnoaemeofaaGreatDoor.A
