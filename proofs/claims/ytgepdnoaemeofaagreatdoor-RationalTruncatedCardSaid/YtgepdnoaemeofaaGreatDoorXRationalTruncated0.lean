/- Printed by a program of this session (wip/tools) out of the translation: plain functions and the proofs that the code comes to their answers. -/
import Derived.Test.YtgepdnoaemeofaaGreatDoorKc
import Derived.Test.YtgepdnoaemeofaaGreatDoorProg
import Derived.Below
import Derived.Deep.Draws
import Derived.Deep.AppendLies
import Derived.Maps.AppendAt
import Derived.OwnWalk
import Derived.Laws.BytesArg
import Derived.Laws.MakeOwn
import Derived.Laws.OwnMore
import Derived.Deep.OwnRows
import Derived.Tactics
import Derived.Lib.ConvBytes
import Derived.Laws.Slices
import Derived.WalkKit
import Derived.KernelRfl
import Derived.RowKit3
import Derived.Deep.LoopGhost
import Derived.Deep.QuietTactic
import Derived.BigQuiet
import Derived.WideLaws
import Derived.Deep.DeepCutAuto
import Derived.Deep.CutBlock
import Derived.Deep.RegionHeld3
import Derived.Laws.Rows
import Derived.Lib.AppendStr
import Derived.ArgAppend
import Derived.Laws.IdiomCopy
import Derived.OrdersHeld
import Derived.Laws.BitsLemmas
import Derived.RowKit
import Derived.Test.YtgepdnoaemeofaaGreatDoorShelf
import Derived.Test.YtgepdnoaemeofaaGreatDoorVc
import Derived.Test.YtgepdnoaemeofaaGreatDoorWd
namespace Go.Proofs.YtgepdnoaemeofaaGreatDoor.A
open Go.RowKit Go.Proofs.YtgepdnoaemeofaaGreatDoorW.PrintWords Go.Proofs.YtgepdnoaemeofaaGreatDoorW.PrintLast Go.Proofs.YtgepdnoaemeofaaGreatDoorW.PrintMore Go.Proofs.YtgepdnoaemeofaaGreatDoorW.PK
attribute [local go_sem] max2_int min2_int max_two min_two max_three min_three max_four min_four   -- for this text's walks alone
set_option linter.unusedVariables false
set_option linter.unusedSimpArgs false

def errW : Option Int → Value
 | none => .nilIface
 | some c => .iface 0 (.int .i64 c)
theorem errW_none : errW none = .nilIface := rfl
theorem errW_some (c : Int) : errW (some c) = .iface 0 (.int .i64 c) := rfl

theorem info5 : (Tryz.prog.info? 5).map (fun i => (i.zero, i.size, i.bytes)) = some (some (.int .u8 0), 1, 1) := by kernel_rfl
theorem info24 : (Tryz.prog.info? 24).map (fun i => (i.zero, i.size, i.bytes)) = some (some (.agg #[(.bool false), (.string ⟨#[]⟩), (.string ⟨#[]⟩)]), 3, 40) := by kernel_rfl
theorem info52 : (Tryz.prog.info? 52).map (fun i => (i.zero, i.size, i.bytes)) = some (some (.int .u32 0), 1, 4) := by kernel_rfl
-- the values' own types
/-! #### struct type 24 -/
structure S24 where
 f0 : Bool
 f1 : ByteArray
 f2 : ByteArray
def z24 : S24 := ⟨false, (⟨#[]⟩ : ByteArray), (⟨#[]⟩ : ByteArray)⟩
def k24 : Kd S24 := Kd.iso (Kd.pair Kd.bool (Kd.pair Kd.string Kd.string)) (fun x : S24 => (x.f0, x.f1, x.f2))
theorem k24_heap : Kd.Heap k24 := Kd.heap_iso _ (Kd.heap_pair Kd.heap_bool (Kd.heap_pair Kd.heap_string Kd.heap_string))
theorem k24_open {w : World} {x : S24} {cs : List Value} (h : k24.K w x cs) : cs = [.bool x.f0, .string x.f1, .string x.f2] := by
 obtain ⟨_, _, rfl, rfl, ⟨_, _, rfl, rfl, rfl⟩⟩ := h
 exact rfl
theorem k24_openM {w : World} {base : Nat} {ok : Nat → Prop} {x : S24} {cs : List Value} (h : k24.M w base ok x cs) : cs = [.bool x.f0, .string x.f1, .string x.f2] := by
 obtain ⟨_, _, rfl, rfl, ⟨_, _, rfl, rfl, rfl⟩⟩ := h
 exact rfl
theorem k24_mk (w : World) (x : S24)  : k24.K w x [.bool x.f0, .string x.f1, .string x.f2] := ⟨[.bool x.f0], [.string x.f1, .string x.f2], rfl, rfl, ⟨[.string x.f1], [.string x.f2], rfl, rfl, rfl⟩⟩
theorem k24_mkM (w : World) (base : Nat) (ok : Nat → Prop) (x : S24)  : k24.M w base ok x [.bool x.f0, .string x.f1, .string x.f2] := ⟨[.bool x.f0], [.string x.f1, .string x.f2], rfl, rfl, ⟨[.string x.f1], [.string x.f2], rfl, rfl, rfl⟩⟩
theorem k24_mkF (W : World) (ok : Nat → Prop) (x : S24) : Kd.FK k24 W ok x [.bool x.f0, .string x.f1, .string x.f2] := fun W2 _ => k24_mk W2 x
def rd_T24 (xs : List S24) (i : Int) : S24 := xs.getD i.toNat z24
theorem at_T24 {w : World} {A : Option Addr} {n : Nat} {xs : List S24} (h : Kd.C k24 w A n xs) (i : Int) (h0 : 0 ≤ i) (h1 : i < n) : ∃ ad , A = some ad ∧ w.cell? (ad.add (i.toNat * 3)) = some (.bool (rd_T24 xs i).f0) ∧ w.cell? ⟨(ad.add (i.toNat * 3)).block, (ad.add (i.toNat * 3)).off + 1, none⟩ = some (.string (rd_T24 xs i).f1) ∧ w.cell? ⟨(ad.add (i.toNat * 3)).block, (ad.add (i.toNat * 3)).off + 2, none⟩ = some (.string (rd_T24 xs i).f2) := by
 obtain ⟨ad, c, e, _, hK, hc0⟩ := Kd.C_get h z24 i h0 h1
 have hc : ∀ j u, c[j]? = some u → w.cell? (ad.add (i.toNat * 3 + j)) = some u := hc0
 obtain rfl := k24_open hK
 exact ⟨ad, e, hc 0 _ rfl, by rw [← add_field _ _ 1 (by omega)]; exact hc 1 _ rfl, by rw [← add_field _ _ 2 (by omega)]; exact hc 2 _ rfl⟩
theorem eqA24 (d : Nat) (w : World) (x0 y0 : Bool) (x1 y1 : ByteArray) (x2 y2 : ByteArray) :
  (Op.equalIn (d + 2) 24 (.agg #[.bool x0, .string x1, .string x2]) (.agg #[.bool y0, .string y1, .string y2])).run Tryz.prog w = .ok (x0 == y0 && (x1.toList == y1.toList && (x2.toList == y2.toList))) w := by
 refine eqA_of Tryz.underlying24 (by kernel_rfl) ?_
 refine eqf_cons (by rfl) (by go_simp; rfl) (by go_simp; rfl) (by go_simp) ?_
 refine eqf_cons (by rfl) (by go_simp; rfl) (by go_simp; rfl) (by go_simp) ?_
 exact eqf_last (by rfl) (by go_simp; rfl) (by go_simp; rfl) (by go_simp)
/-! ### stringslite_HasPrefix: function 135 -/
def stringslite_HasPrefix.f (a0 : ByteArray) (a1 : ByteArray) : Option (Bool) := if (a0.size : Int) ≥ (a1.size : Int) then (if 0 ≤ (a1.size : Int) then (if (a1.size : Int) ≤ (a0.size : Int) then (some ((a0.extract 0 ((a1.size : Int) : Int).toNat).toList == a1.toList)) else (none)) else (none)) else (some false)
set_option maxHeartbeats 8000000 in
set_option maxRecDepth 100000 in
theorem stringslite_HasPrefix.calls (a0 : ByteArray) (a1 : ByteArray) (r : Bool) (w : World) (h : stringslite_HasPrefix.f a0 a1 = some r) :
  Calls Tryz.prog 135 #[.string a0, .string a1] w fun e w' => e = .returned (.bool r) ∧ Drawn0 w w' := by
 have H := h
 clear h
 unfold stringslite_HasPrefix.f at H
 by_cases c3 : (a0.size : Int) ≥ (a1.size : Int)
 ·rw [if_pos c3] at H
  have c3b0 : decide ((a1.size : Int) ≤ (a0.size : Int)) = true := decide_eq_true c3
  have c3b1 : decide (a1.size ≤ a0.size) = true := decide_eq_true (Int.ofNat_le.mp c3)
  clear c3
  obtain ⟨c4, H⟩ := iN H
  have c4b0 := eq_true c4
  have c4b1 : decide (0 ≤ (a1.size : Int)) = true := decide_eq_true c4
  clear c4
  obtain ⟨c5, H⟩ := iN H
  have c5b0 := eq_true c5
  have c5b1 : decide ((a1.size : Int) ≤ (a0.size : Int)) = true := decide_eq_true c5
  clear c5
  obtain rfl := Option.some.inj H
  go_enter Tryz.func135, Tryz.ntmps135
  go_wp2
  go_ret
  exact ⟨fs, dz⟩
 ·rw [if_neg c3] at H
  have c3b0 : decide ((a1.size : Int) ≤ (a0.size : Int)) = false := decide_eq_false c3
  have c3b1 : decide (a1.size ≤ a0.size) = false := decide_eq_false (fun h => c3 (Int.ofNat_le.mpr h))
  clear c3
  obtain rfl := Option.some.inj H
  go_enter Tryz.func135, Tryz.ntmps135
  go_wp2
  go_ret
  exact ⟨fs, dz⟩

/-! ### stringslite_CutPrefix: function 104 -/
def stringslite_CutPrefix.f (a0 : ByteArray) (a1 : ByteArray) : Option (ByteArray × Bool) := (stringslite_HasPrefix.f a0 a1).bind fun t101 => (if t101 = true then (if 0 ≤ (a1.size : Int) then (if (a1.size : Int) ≤ (a0.size : Int) then (some (a0.extract ((a1.size : Int) : Int).toNat a0.size, true)) else (none)) else (none)) else (some (a0, false)))
set_option maxHeartbeats 8000000 in
set_option maxRecDepth 100000 in
theorem stringslite_CutPrefix.calls (a0 : ByteArray) (a1 : ByteArray) (r1 : ByteArray) (r2 : Bool) (w : World) (h : stringslite_CutPrefix.f a0 a1 = some (r1, r2)) :
  Calls Tryz.prog 104 #[.string a0, .string a1] w fun e w' => e = .returned (.tuple #[.string r1, .bool r2]) ∧ Drawn0 w w' := by
 have H := h
 clear h
 unfold stringslite_CutPrefix.f at H
 obtain ⟨t101, A3, H⟩ := bs1 H
 by_cases c4 : t101 = true
 ·subst c4
  have H1 : (if 0 ≤ (a1.size : Int) then (if (a1.size : Int) ≤ (a0.size : Int) then (some (a0.extract ((a1.size : Int) : Int).toNat a0.size, true)) else (none)) else (none)) = some (r1, r2) := by rw [if_pos rfl] at H; exact H
  clear H
  have H := H1
  clear H1
  obtain ⟨c5, H⟩ := iN H
  have c5b0 := eq_true c5
  have c5b1 : decide (0 ≤ (a1.size : Int)) = true := decide_eq_true c5
  clear c5
  obtain ⟨c6, H⟩ := iN H
  have c6b0 := eq_true c6
  have c6b1 : decide ((a1.size : Int) ≤ (a0.size : Int)) = true := decide_eq_true c6
  clear c6
  simp only [Option.some.injEq, Prod.mk.injEq] at H
  obtain ⟨rfl, rfl⟩ := H
  go_enter Tryz.func104, Tryz.ntmps104
  go_wp2_with (first | ((with_reducible refine gc 135 rfl ?_); refine gl (some 8) Tryz.func135 #[.string a0, .string a1] ?_; (with_reducible refine (stringslite_HasPrefix.calls a0 a1 true _ A3.out).mono ?_); rintro e w' ⟨rfl, ⟨nd, rfl⟩⟩; refine ⟨_, rfl, ?_⟩))
  go_ret2
  exact ⟨fs, dz⟩
 ·replace c4 := Bool.eq_false_iff.mpr c4
  subst c4
  have H1 : (some (a0, false)) = some (r1, r2) := by rw [if_neg (show ¬ (false = true) by decide)] at H; exact H
  clear H
  have H := H1
  clear H1
  simp only [Option.some.injEq, Prod.mk.injEq] at H
  obtain ⟨rfl, rfl⟩ := H
  go_enter Tryz.func104, Tryz.ntmps104
  go_wp2_with (first | ((with_reducible refine gc 135 rfl ?_); refine gl (some 8) Tryz.func135 #[.string a0, .string a1] ?_; (with_reducible refine (stringslite_HasPrefix.calls a0 a1 false _ A3.out).mono ?_); rintro e w' ⟨rfl, ⟨nd, rfl⟩⟩; refine ⟨_, rfl, ?_⟩))
  go_ret2
  exact ⟨fs, dz⟩

/-! ### strings_CutPrefix: function 57 -/
def strings_CutPrefix.f (a0 : ByteArray) (a1 : ByteArray) : Option (ByteArray × Bool) := (stringslite_CutPrefix.f a0 a1).bind fun bt102 => (some (bt102.1, bt102.2))
set_option maxHeartbeats 8000000 in
set_option maxRecDepth 100000 in
theorem strings_CutPrefix.calls (a0 : ByteArray) (a1 : ByteArray) (r1 : ByteArray) (r2 : Bool) (w : World) (h : strings_CutPrefix.f a0 a1 = some (r1, r2)) :
  Calls Tryz.prog 57 #[.string a0, .string a1] w fun e w' => e = .returned (.tuple #[.string r1, .bool r2]) ∧ Drawn0 w w' := by
 have H := h
 clear h
 unfold strings_CutPrefix.f at H
 obtain ⟨⟨t102, t103⟩, A3, H⟩ := bs1 H; dsimp only at H
 simp only [Option.some.injEq, Prod.mk.injEq] at H
 obtain ⟨rfl, rfl⟩ := H
 go_enter Tryz.func57, Tryz.ntmps57
 go_wp2_with (first | ((with_reducible refine gc 104 rfl ?_); refine gl (some 8) Tryz.func104 #[.string a0, .string a1] ?_; (with_reducible refine (stringslite_CutPrefix.calls a0 a1 t102 t103 _ A3.out).mono ?_); rintro e w' ⟨rfl, ⟨nd, rfl⟩⟩; refine ⟨_, rfl, ?_⟩))
 go_ret2
 exact ⟨fs, dz⟩

-- NOT PRINTED: function 171 (bytealg_IndexByteString)

/-! ### stringslite_IndexByte: function 156 (by hand) -/
def stringslite_IndexByte.f (a0 : ByteArray) (a1 : Int) : Option (Int) := some (Lib.indexByte a0.data.toList a1.toNat.toUInt8)
theorem stringslite_IndexByte.calls (a0 : ByteArray) (a1 : Int) (r : Int) (w : World) (h : stringslite_IndexByte.f a0 a1 = some r) :
  Calls Tryz.prog 156 #[.string a0, .int .u8 a1] w fun e w' => e = .returned (.int .i64 r) ∧ Drawn0 w w' := by
 obtain rfl := Option.some.inj h
 exact (Tryz.stringslite_IndexByte a0 a1 w).mono fun e w' ⟨he, hw⟩ => ⟨he, hw ▸ Drawn0.refl _⟩


-- NOT PRINTED: function 157 (bytealg_IndexString)

-- NOT PRINTED: function 158 (bytealg_Cutover)

-- NOT PRINTED: function 172 (bytealg_hashStr_string)

-- NOT PRINTED: function 159 (bytealg_IndexRabinKarp_string)

/-! ### stringslite_Index: function 136 -/
def stringslite_Index.j0 : Nat → ByteArray → ByteArray → Int → Bool → Option (Int)
 | 0, _, _, _, _ => none
 | k + 1, x0, x1, x5, x16 => if x16 = true then (some 0) else (if x5 = 1 then (if 0 < (x1.size : Int) then ((stringslite_IndexByte.f x0 (bt x1 0)).bind fun t104 => (some t104)) else (none)) else (if x5 ≥ (x0.size : Int) then (some (-1)) else (none)))
def stringslite_Index.f (k : Nat) (a0 : ByteArray) (a1 : ByteArray) : Option (Int) := if (a1.size : Int) = 0 then (stringslite_Index.j0 k a0 a1 (a1.size : Int) true) else (stringslite_Index.j0 k a0 a1 (a1.size : Int) (a1.toList == a0.toList))
set_option maxHeartbeats 8000000 in
set_option maxRecDepth 100000 in
theorem stringslite_Index.calls (k : Nat) (a0 : ByteArray) (a1 : ByteArray) (r : Int) (w : World) (h : stringslite_Index.f k a0 a1 = some r) :
  Calls Tryz.prog 136 #[.string a0, .string a1] w fun e w' => e = .returned (.int .i64 r) ∧ Drawn0 w w' := by
 have H := h
 clear h
 unfold stringslite_Index.f at H
 have HC3 := Aside0.mk H
 clear H
 go_enter Tryz.func136, Tryz.ntmps136
 (try (simp only [Exit.then]; refine (by assumption : ∀ (a : Act) (w : World), Code.wp _ _ _ a w → _) _ _ ?_))
 go_upto_region 2 with (fail)
 go_cut [16] (fun v16 wc => ∃ (kq : Nat) (x16_2 : Bool), v16 = .bool x16_2 ∧ Aside0 (stringslite_Index.j0 kq a0 a1 (a1.size : Int) x16_2 = some r) ∧ Aside0 (kq ≤ k) ∧ Drawn0 w wc)
 case first =>
  have H := HC3.out
  clear HC3
  by_cases c4 : (a1.size : Int) = 0
  ·rw [if_pos c4] at H
   have c4b0 := beq_iff_eq.mpr c4
   have c4b1 := bne_eq_false_iff_eq.mpr c4
   clear c4
   (first | rw [c4b0] | (simp only [i64_w, i32_w]; rw [c4b0]) | skip)
   have H' := Aside0.mk H
   clear H
   go_wp2
   go_meet
   case rel => exact ⟨_, (true), fs, H', ⟨by first | omega | exact Nat.le_refl _⟩, dz⟩
  ·rw [if_neg c4] at H
   have c4b0 := beq_eq_false_iff_ne.mpr c4
   have c4b1 := bne_iff_ne.mpr c4
   (first | rw [c4b0] | (simp only [i64_w, i32_w]; rw [c4b0]) | skip)
   have H' := Aside0.mk H
   clear H
   go_wp2
   go_meet
   case rel => exact ⟨_, ((a1.toList == a0.toList)), fs, H', ⟨by first | omega | exact Nat.le_refl _⟩, dz⟩
 case rest =>
  clear HC3
  (try clear c4b0); (try clear c4b1)
  obtain ⟨kq, x16_2, rfl, HA, HJ2, ⟨mc2, rfl⟩⟩ := hcut
  cases kq with
  | zero => exact absurd HA.out (by simp [stringslite_Index.j0])
  | succ kj2 =>
   have H := HA.out
   clear HA
   simp only [stringslite_Index.j0] at H
   by_cases c5 : x16_2 = true
   ·subst c5
    have H1 : (some 0) = some r := by rw [if_pos rfl] at H; exact H
    clear H
    have H := H1
    clear H1
    obtain rfl := Option.some.inj H
    go_wp2
    go_ret
    exact ⟨fs, dz⟩
   ·replace c5 := Bool.eq_false_iff.mpr c5
    subst c5
    have H1 : (if (a1.size : Int) = 1 then (if 0 < (a1.size : Int) then ((stringslite_IndexByte.f a0 (bt a1 0)).bind fun t104 => (some t104)) else (none)) else (if (a1.size : Int) ≥ (a0.size : Int) then (some (-1)) else (none))) = some r := by rw [if_neg (show ¬ (false = true) by decide)] at H; exact H
    clear H
    have H := H1
    clear H1
    by_cases c6 : (a1.size : Int) = 1
    ·rw [if_pos c6] at H
     have c6b0 := beq_iff_eq.mpr c6
     have c6b1 := bne_eq_false_iff_eq.mpr c6
     clear c6
     obtain ⟨c7, H⟩ := iN H
     have c7b0 : decide (0 < (a1.size : Int)) = true := decide_eq_true c7
     have c7b1 : decide (0 < a1.size) = true := decide_eq_true (by omega)
     clear c7
     obtain ⟨t104, A9, H⟩ := bs1 H
     obtain rfl := Option.some.inj H
     have p8 : 0 ≤ (0 : Int) := (by omega)
     have q8 : 0 < a1.size := (by have : (0 : Int) < (a1.size : Int) := oa; omega)
     have hx8 : ∀ h : 0 < a1.size, ((a1[0]'h).toNat : Int) = bt a1 0 := bt_at a1 0
     clear p8
     have qi8 : (0 < (a1.size : Int)) = True := eq_true oa
     replace q8 := eq_true q8
     go_wp2_with (first | ((with_reducible refine gc 156 rfl ?_); refine gl (some 30) Tryz.func156 #[.string a0, .int .u8 (bt a1 0)] ?_; (with_reducible refine (stringslite_IndexByte.calls a0 (bt a1 0) t104 _ A9.out).mono ?_); rintro e w' ⟨rfl, ⟨nd, rfl⟩⟩; refine ⟨_, rfl, ?_⟩))
     go_ret
     exact ⟨fs, dz⟩
    ·rw [if_neg c6] at H
     have c6b0 := beq_eq_false_iff_ne.mpr c6
     have c6b1 := bne_iff_ne.mpr c6
     obtain ⟨c10, H⟩ := iN H
     have c10b0 : decide ((a0.size : Int) ≤ (a1.size : Int)) = true := decide_eq_true c10
     have c10b1 : decide (a0.size ≤ a1.size) = true := decide_eq_true (Int.ofNat_le.mp c10)
     clear c10
     obtain rfl := Option.some.inj H
     go_wp2
     go_ret
     exact ⟨fs, dz⟩

/-! ### stringslite_Cut: function 105 -/
def stringslite_Cut.f (k : Nat) (a0 : ByteArray) (a1 : ByteArray) : Option (ByteArray × ByteArray × Bool) := (stringslite_Index.f k a0 a1).bind fun t105 => (if t105 ≥ 0 then (if 0 ≤ t105 then (if t105 ≤ (a0.size : Int) then (if 0 ≤ (wrap64 (t105 + (a1.size : Int))) then (if (wrap64 (t105 + (a1.size : Int))) ≤ (a0.size : Int) then (some (a0.extract 0 (t105 : Int).toNat, a0.extract ((wrap64 (t105 + (a1.size : Int))) : Int).toNat a0.size, true)) else (none)) else (none)) else (none)) else (none)) else (some (a0, (⟨#[]⟩ : ByteArray), false)))
set_option maxHeartbeats 8000000 in
set_option maxRecDepth 100000 in
theorem stringslite_Cut.calls (k : Nat) (a0 : ByteArray) (a1 : ByteArray) (r1 : ByteArray) (r2 : ByteArray) (r3 : Bool) (w : World) (h : stringslite_Cut.f k a0 a1 = some (r1, r2, r3)) :
  Calls Tryz.prog 105 #[.string a0, .string a1] w fun e w' => e = .returned (.tuple #[.string r1, .string r2, .bool r3]) ∧ Drawn0 w w' := by
 have H := h
 clear h
 unfold stringslite_Cut.f at H
 obtain ⟨t105, A3, H⟩ := bs1 H
 by_cases c4 : t105 ≥ 0
 ·rw [if_pos c4] at H
  have c4b0 : decide (0 ≤ t105) = true := decide_eq_true c4
  clear c4
  obtain ⟨c5, H⟩ := iN H
  have c5b0 := eq_true c5
  have c5b1 : decide (0 ≤ t105) = true := decide_eq_true c5
  clear c5
  obtain ⟨c6, H⟩ := iN H
  have c6b0 := eq_true c6
  have c6b1 : decide (t105 ≤ (a0.size : Int)) = true := decide_eq_true c6
  clear c6
  obtain ⟨ji7, hji7⟩ : ∃ j_ : Int, (wrap64 (t105 + (a1.size : Int))) = j_ := ⟨_, rfl⟩
  first | rw [hji7] at H | simp only [hji7] at H
  (try rw [hji7] at A3)
  have hji7w : (IntKind.i64.wrap (t105 + (a1.size : Int))) = ji7 := (i64_w _).trans hji7
  obtain ⟨c8, H⟩ := iN H
  have c8b0 := eq_true c8
  have c8b1 : decide (0 ≤ (ji7)) = true := decide_eq_true c8
  clear c8
  obtain ⟨c9, H⟩ := iN H
  have c9b0 := eq_true c9
  have c9b1 : decide ((ji7) ≤ (a0.size : Int)) = true := decide_eq_true c9
  clear c9
  simp only [Option.some.injEq, Prod.mk.injEq] at H
  obtain ⟨rfl, rfl, rfl⟩ := H
  go_enter Tryz.func105, Tryz.ntmps105
  go_wp2_with (first | (go_at_call 136; (with_reducible refine (stringslite_Index.calls k a0 a1 t105 _ A3.out).mono ?_); rintro e w' ⟨rfl, ⟨nd, rfl⟩⟩; (try exact dw)))
  repeat (go_quiet (first | (go_at_call 136; (with_reducible refine (stringslite_Index.calls k a0 a1 t105 _ A3.out).mono ?_); rintro e w' ⟨rfl, ⟨nd, rfl⟩⟩; (try exact dw))); try go_wp2_with (first | (go_at_call 136; (with_reducible refine (stringslite_Index.calls k a0 a1 t105 _ A3.out).mono ?_); rintro e w' ⟨rfl, ⟨nd, rfl⟩⟩; (try exact dw))))
  go_ret3
  exact ⟨by first | rfl | (simp; done) | (simp only [← hji7] <;> (first | rfl | simp)) | (simp [*]; done), dz⟩
 ·rw [if_neg c4] at H
  have c4b0 : decide (0 ≤ t105) = false := decide_eq_false c4
  clear c4
  simp only [Option.some.injEq, Prod.mk.injEq] at H
  obtain ⟨rfl, rfl, rfl⟩ := H
  go_enter Tryz.func105, Tryz.ntmps105
  go_wp2_with (first | (go_at_call 136; (with_reducible refine (stringslite_Index.calls k a0 a1 t105 _ A3.out).mono ?_); rintro e w' ⟨rfl, ⟨nd, rfl⟩⟩; (try exact dw)))
  repeat (go_quiet (first | (go_at_call 136; (with_reducible refine (stringslite_Index.calls k a0 a1 t105 _ A3.out).mono ?_); rintro e w' ⟨rfl, ⟨nd, rfl⟩⟩; (try exact dw))); try go_wp2_with (first | (go_at_call 136; (with_reducible refine (stringslite_Index.calls k a0 a1 t105 _ A3.out).mono ?_); rintro e w' ⟨rfl, ⟨nd, rfl⟩⟩; (try exact dw))))
  go_ret3
  exact ⟨fs, dz⟩

/-! ### strings_Cut: function 58 -/
def strings_Cut.f (k : Nat) (a0 : ByteArray) (a1 : ByteArray) : Option (ByteArray × ByteArray × Bool) := (stringslite_Cut.f k a0 a1).bind fun bt106 => (some (bt106.1, bt106.2.1, bt106.2.2))
set_option maxHeartbeats 8000000 in
set_option maxRecDepth 100000 in
theorem strings_Cut.calls (k : Nat) (a0 : ByteArray) (a1 : ByteArray) (r1 : ByteArray) (r2 : ByteArray) (r3 : Bool) (w : World) (h : strings_Cut.f k a0 a1 = some (r1, r2, r3)) :
  Calls Tryz.prog 58 #[.string a0, .string a1] w fun e w' => e = .returned (.tuple #[.string r1, .string r2, .bool r3]) ∧ Drawn0 w w' := by
 have H := h
 clear h
 unfold strings_Cut.f at H
 obtain ⟨⟨t106, t107, t108⟩, A3, H⟩ := bs1 H; dsimp only at H
 simp only [Option.some.injEq, Prod.mk.injEq] at H
 obtain ⟨rfl, rfl, rfl⟩ := H
 go_enter Tryz.func58, Tryz.ntmps58
 go_wp2_with (first | ((with_reducible refine gc 105 rfl ?_); refine gl (some 9) Tryz.func105 #[.string a0, .string a1] ?_; (with_reducible refine (stringslite_Cut.calls k a0 a1 t106 t107 t108 _ A3.out).mono ?_); rintro e w' ⟨rfl, ⟨nd, rfl⟩⟩; refine ⟨_, rfl, ?_⟩))
 go_ret3
 exact ⟨fs, dz⟩

/-! ### rational_isDigits: function 60 -/
def rational_isDigits.l0 : Nat → ByteArray → Int → Int → Option (Bool)
 | 0, _, _, _ => none
 | k + 1, x0, x5, x6 => if x6 < x5 then (if 0 ≤ x6 then (if x6 < (x0.size : Int) then (if (bt x0 x6) < 48 then (some false) else (if (bt x0 x6) > 57 then (some false) else (rational_isDigits.l0 k x0 x5 (wrap64 (x6 + 1))))) else (none)) else (none)) else (some (x0.toList != ([] : List UInt8)))
def rational_isDigits.f (k : Nat) (a0 : ByteArray) : Option (Bool) := rational_isDigits.l0 k a0 (a0.size : Int) 0
set_option maxHeartbeats 8000000 in
set_option maxRecDepth 100000 in
theorem rational_isDigits.calls (k : Nat) (a0 : ByteArray) (r : Bool) (w : World) (h : rational_isDigits.f k a0 = some r) :
  Calls Tryz.prog 60 #[.string a0] w fun e w' => e = .returned (.bool r) ∧ Drawn0 w w' := by
 have H := h
 clear h
 unfold rational_isDigits.f at H
 have H' := Aside0.mk H
 clear H
 go_enter Tryz.func60, Tryz.ntmps60
 go_wp2
 go_loopg [6] k (fun kq v6 w' => ∃ (x6_1 : Int), v6 = .int .i64 x6_1 ∧ Aside0 (rational_isDigits.l0 kq a0 (a0.size : Int) x6_1 = some r) ∧ Aside0 (kq ≤ k) ∧ Drawn0 w w')
 case atStart => exact ⟨(0), fs, H', ⟨Nat.le_refl _⟩, dz⟩
 case round =>
  clear H'
  obtain ⟨x6_1, rfl, HA, HK1, ⟨m1, rfl⟩⟩ := hrel
  cases gk with
  | zero => exact absurd HA.out (by simp [rational_isDigits.l0])
  | succ k1 =>
   have H := HA.out
   clear HA
   simp only [rational_isDigits.l0] at H
   by_cases c2 : x6_1 < (a0.size : Int)
   ·rw [if_pos c2] at H
    have c2b0 : decide (x6_1 < (a0.size : Int)) = true := decide_eq_true c2
    clear c2
    obtain ⟨c3, H⟩ := iN H
    have c3b0 : decide (0 ≤ x6_1) = true := decide_eq_true c3
    clear c3
    obtain ⟨c4, H⟩ := iN H
    have c4b0 : decide (x6_1 < (a0.size : Int)) = true := decide_eq_true c4
    clear c4
    by_cases c6 : (bt a0 x6_1) < 48
    ·rw [if_pos c6] at H
     have c6b0 : decide ((bt a0 x6_1) < 48) = true := decide_eq_true c6
     clear c6
     obtain rfl := Option.some.inj H
     have p5 : 0 ≤ (x6_1 : Int) := oa
     have q5 : x6_1 < (a0.size : Int) := oa
     have hx5 := bt_at a0 x6_1
     replace p5 := eq_true p5
     replace q5 := eq_true q5
     go_wp2
     go_ret
     exact ⟨fs, dz⟩
    ·rw [if_neg c6] at H
     have c6b0 : decide ((bt a0 x6_1) < 48) = false := decide_eq_false c6
     clear c6
     by_cases c8 : (bt a0 x6_1) > 57
     ·rw [if_pos c8] at H
      have c8b0 : decide (57 < (bt a0 x6_1)) = true := decide_eq_true c8
      clear c8
      obtain rfl := Option.some.inj H
      have p5 : 0 ≤ (x6_1 : Int) := oa
      have q5 : x6_1 < (a0.size : Int) := oa
      have hx5 := bt_at a0 x6_1
      replace p5 := eq_true p5
      replace q5 := eq_true q5
      have p7 : 0 ≤ (x6_1 : Int) := oa
      have q7 : x6_1 < (a0.size : Int) := oa
      have hx7 := bt_at a0 x6_1
      replace p7 := eq_true p7
      replace q7 := eq_true q7
      go_wp2
      go_ret
      exact ⟨fs, dz⟩
     ·rw [if_neg c8] at H
      have c8b0 : decide (57 < (bt a0 x6_1)) = false := decide_eq_false c8
      clear c8
      have H' := Aside0.mk H
      clear H
      have p5 : 0 ≤ (x6_1 : Int) := oa
      have q5 : x6_1 < (a0.size : Int) := oa
      have hx5 := bt_at a0 x6_1
      replace p5 := eq_true p5
      replace q5 := eq_true q5
      have p7 : 0 ≤ (x6_1 : Int) := oa
      have q7 : x6_1 < (a0.size : Int) := oa
      have hx7 := bt_at a0 x6_1
      replace p7 := eq_true p7
      replace q7 := eq_true q7
      go_wp2
      go_roundg k1
      case measure => have := HK1.out; omega
      case rel => exact ⟨(wrap64 (x6_1 + 1)), fs, H', ⟨by have := HK1.out; omega⟩, dz⟩
   ·rw [if_neg c2] at H
    have c2b0 : decide (x6_1 < (a0.size : Int)) = false := decide_eq_false c2
    clear c2
    obtain rfl := Option.some.inj H
    go_wp2
    go_ret
    exact ⟨fs, dz⟩

/-! ### rational_isInteger: function 59 -/
def rational_isInteger.f (k : Nat) (a0 : ByteArray) : Option (Bool) := (rational_isDigits.f k a0).bind fun t109 => (if t109 = true then (if a0.toList = ([48] : List UInt8) then (some true) else (if 0 < (a0.size : Int) then (some ((bt a0 0) != 48)) else (none))) else (some false))
set_option maxHeartbeats 8000000 in
set_option maxRecDepth 100000 in
theorem rational_isInteger.calls (k : Nat) (a0 : ByteArray) (r : Bool) (w : World) (h : rational_isInteger.f k a0 = some r) :
  Calls Tryz.prog 59 #[.string a0] w fun e w' => e = .returned (.bool r) ∧ Drawn0 w w' := by
 have H := h
 clear h
 unfold rational_isInteger.f at H
 obtain ⟨t109, A2, H⟩ := bs1 H
 by_cases c3 : t109 = true
 ·subst c3
  have H1 : (if a0.toList = ([48] : List UInt8) then (some true) else (if 0 < (a0.size : Int) then (some ((bt a0 0) != 48)) else (none))) = some r := by rw [if_pos rfl] at H; exact H
  clear H
  have H := H1
  clear H1
  by_cases c4 : a0.toList = ([48] : List UInt8)
  ·rw [if_pos c4] at H
   have c4b0 := beq_iff_eq.mpr c4
   have c4b1 := bne_eq_false_iff_eq.mpr c4
   clear c4
   obtain rfl := Option.some.inj H
   go_enter Tryz.func59, Tryz.ntmps59
   go_wp2_with (first | ((with_reducible refine gc 60 rfl ?_); refine gl (some 4) Tryz.func60 #[.string a0] ?_; (with_reducible refine (rational_isDigits.calls k a0 true _ A2.out).mono ?_); rintro e w' ⟨rfl, ⟨nd, rfl⟩⟩; refine ⟨_, rfl, ?_⟩))
   go_ret
   exact ⟨fs, dz⟩
  ·rw [if_neg c4] at H
   have c4b0 := beq_eq_false_iff_ne.mpr c4
   have c4b1 := bne_iff_ne.mpr c4
   obtain ⟨c5, H⟩ := iN H
   have c5b0 : decide (0 < (a0.size : Int)) = true := decide_eq_true c5
   have c5b1 : decide (0 < a0.size) = true := decide_eq_true (by omega)
   clear c5
   obtain rfl := Option.some.inj H
   go_enter Tryz.func59, Tryz.ntmps59
   go_wp2_with (first | ((with_reducible refine gc 60 rfl ?_); refine gl (some 4) Tryz.func60 #[.string a0] ?_; (with_reducible refine (rational_isDigits.calls k a0 true _ A2.out).mono ?_); rintro e w' ⟨rfl, ⟨nd, rfl⟩⟩; refine ⟨_, rfl, ?_⟩; have p6 : 0 ≤ (0 : Int) := (by omega); have q6 : 0 < a0.size := (by have : (0 : Int) < (a0.size : Int) := oa; omega); have hx6 : ∀ h : 0 < a0.size, ((a0[0]'h).toNat : Int) = bt a0 0 := bt_at a0 0; clear p6; have qi6 : (0 < (a0.size : Int)) = True := eq_true oa; replace q6 := eq_true q6))
   go_ret
   exact ⟨fs, dz⟩
 ·replace c3 := Bool.eq_false_iff.mpr c3
  subst c3
  have H1 : (some false) = some r := by rw [if_neg (show ¬ (false = true) by decide)] at H; exact H
  clear H
  have H := H1
  clear H1
  obtain rfl := Option.some.inj H
  go_enter Tryz.func59, Tryz.ntmps59
  go_wp2_with (first | ((with_reducible refine gc 60 rfl ?_); refine gl (some 4) Tryz.func60 #[.string a0] ?_; (with_reducible refine (rational_isDigits.calls k a0 false _ A2.out).mono ?_); rintro e w' ⟨rfl, ⟨nd, rfl⟩⟩; refine ⟨_, rfl, ?_⟩))
  go_ret
  exact ⟨fs, dz⟩

/-! ### natural_limbs_trim: function 137 -/
def natural_limbs_trim.l0 : Nat → List Int → Int → Option (List Int)
 | 0, _, _ => none
 | k + 1, x0, x3 => if x3 > 0 then (if 0 ≤ (wrap64 (x3 - 1)) then (if (wrap64 (x3 - 1)) < (x0.length : Int) then (if (rd x0 (wrap64 (x3 - 1))) = 0 then (natural_limbs_trim.l0 k x0 (wrap64 (x3 - 1))) else (if 0 ≤ x3 then (if x3 ≤ (x0.length : Int) then (some (x0.take (x3 : Int).toNat)) else (none)) else (none))) else (none)) else (none)) else (if 0 ≤ x3 then (if x3 ≤ (x0.length : Int) then (some (x0.take (x3 : Int).toNat)) else (none)) else (none))
def natural_limbs_trim.f (k : Nat) (l0 : List Int) : Option (List Int) := natural_limbs_trim.l0 k l0 (l0.length : Int)
set_option maxHeartbeats 8000000 in
set_option maxRecDepth 100000 in
theorem natural_limbs_trim.calls (k : Nat) (P0_ : Nat → Prop) (A0 : Option Addr) (c0 : Nat) (l0 : List Int) (r : List Int) (w : World) (hs0 : Kd.V (Kd.int .u32) 52 w w.heap.size (fun k_ => P0_ k_) (.slice A0 l0.length c0) l0) (h : natural_limbs_trim.f k l0 = some r) :
  Calls Tryz.prog 137 #[.slice A0 l0.length c0] w fun e w' => ∃ v0_ : Value, e = .returned (v0_) ∧ Kd.V (Kd.int .u32) 52 w' w.heap.size (fun k_ => (P0_ k_ ∨ w.heap.size ≤ k_)) v0_ r ∧ Below w.heap.size w w' := by
 have HO0 := Aside0.mk (show Kd.V (Kd.int .u32) 52 w w.heap.size (fun k_ => (P0_ k_ ∨ w.heap.size ≤ k_)) (.slice A0 l0.length c0) l0 from Kd.V_mono hs0 (fun k_ hk => .inl hk))
 have HB := Aside0.mk (Below.refl w.heap.size w)
 have H := h
 clear h
 unfold natural_limbs_trim.f at H
 have H' := Aside0.mk H
 clear H
 go_enter Tryz.func137, Tryz.ntmps137
 go_wp2
 go_loopg [3] k (fun kq v3 w' => ∃ (x3_1 : Int), v3 = .int .i64 x3_1 ∧ Aside0 (natural_limbs_trim.l0 kq l0 x3_1 = some r) ∧ Aside0 (kq ≤ k) ∧ Aside0 (Kd.V (Kd.int .u32) 52 w' w.heap.size (fun k_ => (P0_ k_ ∨ w.heap.size ≤ k_)) (.slice A0 l0.length c0) l0) ∧ Aside0 (Below w.heap.size w w'))
 case atStart => exact ⟨((l0.length : Int)), fs, H', ⟨Nat.le_refl _⟩, ⟨vs HO0.out⟩, ⟨bz HB.out⟩⟩
 case round =>
  clear H'
  obtain ⟨x3_1, rfl, HA, HK1, HO_0, HB⟩ := hrel
  cases gk with
  | zero => exact absurd HA.out (by simp [natural_limbs_trim.l0])
  | succ k1 =>
   have H := HA.out
   clear HA
   simp only [natural_limbs_trim.l0] at H
   by_cases c2 : x3_1 > 0
   ·rw [if_pos c2] at H
    have c2b0 : decide (0 < x3_1) = true := decide_eq_true c2
    clear c2
    obtain ⟨ji3, hji3⟩ : ∃ j_ : Int, (wrap64 (x3_1 - 1)) = j_ := ⟨_, rfl⟩
    first | rw [hji3] at H | simp only [hji3] at H
    have hji3w : (IntKind.i64.wrap (x3_1 - 1)) = ji3 := (i64_w _).trans hji3
    obtain ⟨c4, H⟩ := iN H
    have c4b0 : decide (0 ≤ (ji3)) = true := decide_eq_true c4
    clear c4
    obtain ⟨c5, H⟩ := iN H
    have c5b0 : decide ((ji3) < (l0.length : Int)) = true := decide_eq_true c5
    clear c5
    by_cases c6 : (rd l0 (ji3)) = 0
    ·rw [if_pos c6] at H
     have c6b0 := beq_iff_eq.mpr c6
     have c6b1 := bne_eq_false_iff_eq.mpr c6
     clear c6
     have H' := Aside0.mk H
     clear H
     have p110 : 0 ≤ ((ji3) : Int) := oa
     have q110 : (ji3) < (l0.length : Int) := oa
     obtain ⟨ad110, e110, hx110_0⟩ := Kd.at_int (Kd.V_reads' HO_0.out).2.2 (ji3) p110 q110
     cases e110
     replace p110 := eq_true p110
     replace q110 := eq_true q110
     go_wp2
     go_roundg k1
     case measure => have := HK1.out; omega
     case rel => exact ⟨(ji3), (by first | rfl | (simp; done) | (simp only [← hji3] <;> (first | rfl | simp)) | (simp [*]; done)), H', ⟨by have := HK1.out; omega⟩, ⟨vs HO_0.out⟩, ⟨bz HB.out⟩⟩
    ·rw [if_neg c6] at H
     have c6b0 := beq_eq_false_iff_ne.mpr c6
     have c6b1 := bne_iff_ne.mpr c6
     obtain ⟨c7, H⟩ := iN H
     have c7b0 := eq_true c7
     have c7b1 : decide (0 ≤ x3_1) = true := decide_eq_true c7
     clear c7
     obtain ⟨c8, H⟩ := iN H
     have c8b0 := eq_true c8
     have c8b1 : decide (x3_1 ≤ (l0.length : Int)) = true := decide_eq_true c8
     clear c8
     obtain ⟨y111, hy111⟩ : ∃ y_ : List Int, y_ = (l0.take (x3_1 : Int).toNat) := ⟨_, rfl⟩
     (try first | rw [← hy111] at H | (dsimp only at H; rw [← hy111] at H)); (try rw [Option.bind_some] at H)
     have Ny111 := Aside0.mk hy111
     clear hy111
     obtain rfl := Option.some.inj H
     have p110 : 0 ≤ ((ji3) : Int) := oa
     have q110 : (ji3) < (l0.length : Int) := oa
     obtain ⟨ad110, e110, hx110_0⟩ := Kd.at_int (Kd.V_reads' HO_0.out).2.2 (ji3) p110 q110
     cases e110
     replace p110 := eq_true p110
     replace q110 := eq_true q110
     have q9 : (x3_1 : Int) ≤ ((l0.length : Int) : Int) := oa
     obtain ⟨i09, hi09, _, hsz9, _⟩ := info_parts info52
     have hroom9 : l0.length ≤ c0 := (Kd.V_reads' HO_0.out).2.1
     have hC9 : Kd.F (Kd.int .u32) _ _ (some ad110) l0.length l0 := (Kd.V_at (base := w.heap.size) HO_0.out).2.2
     have hcut9 := cut_to (P := Tryz.prog) 88 52 .i64 Tryz.underlying88 hi09 (some ad110) l0.length c0 x3_1 oa q9 hroom9
     have hr9 := Kd.F_take (m := (x3_1 : Int).toNat) hC9 (by omega)
     have hy9 : y111.length = (x3_1 : Int).toNat := (by rw [Ny111.out, List.length_take]; omega)
     rw [← Ny111.out] at hr9
     rw [← hy9] at hcut9
     have HO115 := Aside0.mk (show Kd.V (Kd.int .u32) 52 _ w.heap.size _ (.slice (some ad110) y111.length c0) y111 from Kd.V_mk (by omega) hr9)
     have HC115 := Aside0.mk (show y111.length ≤ c0 from by omega)
     clear hr9 hC9 hroom9 hi09 hsz9
     have KY9 := Aside0.mk hy9
     clear hy9
     replace q9 := eq_true q9
     go_wp2
     go_ret
     exact ⟨_, by first | rfl | (simp [errW_none, errW_some] <;> rfl) | (simp only [← hji3]; first | rfl | (simp [errW_none, errW_some] <;> rfl)) | (simp [*, errW_none, errW_some] <;> rfl), vs HO115.out, bz HB.out⟩
   ·rw [if_neg c2] at H
    have c2b0 : decide (0 < x3_1) = false := decide_eq_false c2
    clear c2
    obtain ⟨c10, H⟩ := iN H
    have c10b0 := eq_true c10
    have c10b1 : decide (0 ≤ x3_1) = true := decide_eq_true c10
    clear c10
    obtain ⟨c11, H⟩ := iN H
    have c11b0 := eq_true c11
    have c11b1 : decide (x3_1 ≤ (l0.length : Int)) = true := decide_eq_true c11
    clear c11
    obtain ⟨y116, hy116⟩ : ∃ y_ : List Int, y_ = (l0.take (x3_1 : Int).toNat) := ⟨_, rfl⟩
    (try first | rw [← hy116] at H | (dsimp only at H; rw [← hy116] at H)); (try rw [Option.bind_some] at H)
    have Ny116 := Aside0.mk hy116
    clear hy116
    obtain rfl := Option.some.inj H
    have q12 : (x3_1 : Int) ≤ ((l0.length : Int) : Int) := oa
    obtain ⟨i012, hi012, _, hsz12, _⟩ := info_parts info52
    have hroom12 : l0.length ≤ c0 := (Kd.V_reads' HO_0.out).2.1
    have hC12 : Kd.F (Kd.int .u32) _ _ A0 l0.length l0 := (Kd.V_at (base := w.heap.size) HO_0.out).2.2
    have hcut12 := cut_to (P := Tryz.prog) 88 52 .i64 Tryz.underlying88 hi012 A0 l0.length c0 x3_1 oa q12 hroom12
    have hr12 := Kd.F_take (m := (x3_1 : Int).toNat) hC12 (by omega)
    have hy12 : y116.length = (x3_1 : Int).toNat := (by rw [Ny116.out, List.length_take]; omega)
    rw [← Ny116.out] at hr12
    rw [← hy12] at hcut12
    have HO120 := Aside0.mk (show Kd.V (Kd.int .u32) 52 _ w.heap.size _ (.slice A0 y116.length c0) y116 from Kd.V_mk (by omega) hr12)
    have HC120 := Aside0.mk (show y116.length ≤ c0 from by omega)
    clear hr12 hC12 hroom12 hi012 hsz12
    have KY12 := Aside0.mk hy12
    clear hy12
    replace q12 := eq_true q12
    go_wp2
    go_ret
    exact ⟨_, fe, vs HO120.out, bz HB.out⟩

/-! ### natural_parse: function 109 -/
def natural_parse.l0 : Nat → ByteArray → List Int → Int → Int → Option (List Int)
 | 0, _, _, _, _ => none
 | k + 1, x0, x3, x12, x13 => if x13 < x12 then (if 0 ≤ (wrap64 (Int.tdiv x13 4)) then (if (wrap64 (Int.tdiv x13 4)) < (x3.length : Int) then (if 0 ≤ (wrap64 ((wrap64 ((x0.size : Int) - 1)) - x13)) then (if (wrap64 ((wrap64 ((x0.size : Int) - 1)) - x13)) < (x0.size : Int) then (if 0 ≤ (wrap64 (8 * (Int.tmod x13 4))) then (natural_parse.l0 k x0 (x3.set ((wrap64 (Int.tdiv x13 4)) : Int).toNat (Go.bits .or .u32 (rd x3 (wrap64 (Int.tdiv x13 4))) (shl .u32 ((bt x0 (wrap64 ((wrap64 ((x0.size : Int) - 1)) - x13))) % 4294967296) (wrap64 (8 * (Int.tmod x13 4)))))) x12 (wrap64 (x13 + 1))) else (none)) else (none)) else (none)) else (none)) else (none)) else ((natural_limbs_trim.f k x3).bind fun t126 => (some t126))
def natural_parse.f (k : Nat) (a0 : ByteArray) : Option (List Int) := if 0 ≤ (wrap64 (Int.tdiv (wrap64 ((wrap64 ((a0.size : Int) + 4)) - 1)) 4)) then (if (wrap64 (Int.tdiv (wrap64 ((wrap64 ((a0.size : Int) + 4)) - 1)) 4) : Int).toNat ≤ 70368744177664 then (natural_parse.l0 k a0 (List.replicate (wrap64 (Int.tdiv (wrap64 ((wrap64 ((a0.size : Int) + 4)) - 1)) 4) : Int).toNat 0) (a0.size : Int) 0) else (none)) else (none)
def natural_parse.T5 : Bool × List (List Nat × List Nat) := (true, [([], []), ([], []), ([1], [1]), ([0, 2], [0, 2]), ([3], [3]), ([], []), ([], []), ([6], [6]), ([7], [7]), ([], []), ([8, 9], [8, 9]), ([5, 10], [5, 10]), ([11], [11]), ([], []), ([13], [13]), ([14], [14]), ([12, 15], [12, 15]), ([4, 16], [4, 16]), ([0, 2, 0, 1, 2, 3, 4, 5, 6, 7, 8, 9, 10, 11, 12, 13, 14, 15, 16, 17], [0, 2]), ([18, 17, 0, 1, 2, 3, 4, 5, 6, 7, 8, 9, 10, 11, 12, 13, 14, 15, 16, 17], [17, 18])])
def natural_parse.B5 : List Nat := [0, 0, 2, 7, 15, 0, 0, 64, 192, 0, 960, 2016, 4064, 0, 8192, 24576, 65504, 131071, 262143, 524287]
theorem natural_parse.tab5 : rtab .any (opsOf Tryz.f109 5) = natural_parse.T5 := by kernel_rfl
theorem natural_parse.bits5 : waitsOk natural_parse.T5.2 natural_parse.B5 = true := by kernel_rfl
set_option maxHeartbeats 8000000 in
set_option maxRecDepth 100000 in
theorem natural_parse.calls (k : Nat) (a0 : ByteArray) (r : List Int) (w : World) (h : natural_parse.f k a0 = some r) :
  Calls Tryz.prog 109 #[.string a0] w fun e w' => ∃ v0_ : Value, e = .returned (v0_) ∧ Kd.V (Kd.int .u32) 52 w' w.heap.size (fun k_ => (w.heap.size ≤ k_)) v0_ r ∧ Below w.heap.size w w' := by
 have HB := Aside0.mk (Below.refl w.heap.size w)
 have H := h
 clear h
 unfold natural_parse.f at H
 obtain ⟨ji2, hji2⟩ : ∃ j_ : Int, (wrap64 (Int.tdiv (wrap64 ((wrap64 ((a0.size : Int) + 4)) - 1)) 4)) = j_ := ⟨_, rfl⟩
 first | rw [hji2] at H | simp only [hji2] at H
 have hji2w : (IntKind.i64.wrap (Int.tdiv (wrap64 ((wrap64 ((a0.size : Int) + 4)) - 1)) 4)) = ji2 := (i64_w _).trans hji2
 obtain ⟨c3, H⟩ := iN H
 have c3b0 := eq_true c3
 have c3b1 : decide (0 ≤ (ji2)) = true := decide_eq_true c3
 clear c3
 obtain ⟨c4, H⟩ := iN H
 have c4b0 := eq_true c4
 have c4b1 : decide ((ji2 : Int).toNat ≤ 70368744177664) = true := decide_eq_true c4
 clear c4
 obtain ⟨y121, hy121⟩ : ∃ y_ : List Int, y_ = (List.replicate (ji2 : Int).toNat 0) := ⟨_, rfl⟩
 (try first | rw [← hy121] at H | (dsimp only at H; rw [← hy121] at H)); (try rw [Option.bind_some] at H)
 have Ny121 := Aside0.mk hy121
 clear hy121
 have H' := Aside0.mk H
 clear H
 go_enter Tryz.func109, Tryz.ntmps109
 go_wp2_with (first | ((with_reducible refine gd 10 rfl ?_); refine Kd.R_make (Kd.int .u32) _ 52 rfl (N := 10) rfl 88 _ _ rfl ji2 rfl rfl Tryz.underlying88 (.int .u32 0) 4 info52 rfl (by decide) (by omega) 0 (ok := fun _ => True) (okp := fun _ => True) rfl (fun _ hk => hk) trivial oa (Nat.le_trans (Nat.mul_le_mul_right _ (oa : ji2.toNat ≤ 70368744177664)) (by omega)) (Below.refl _ _) (Nat.le_refl _) ?_; intro v122 w5 ho6 hb hg_ hnew_; clear hg_ hnew_; (first | rw [← Ny121.out] at ho6 | (simp only [Int.reduceToNat] at ho6; rw [← Ny121.out] at ho6)); have HO123 := Aside0.mk (Kd.R_lower (Kd.R_newM (M := fun k_ => (w.heap.size ≤ k_)) ho6 (sz HB.out) (fun k_ h_ => h_)) (sz HB.out)); replace HB := Aside0.mk (bs HB.out hb); clear hb ho6))
 go_loopg [13] k (fun kq v13 w' => ∃ (x3_1 : List Int) (x13_1 : Int), v13 = .int .i64 x13_1 ∧ Aside0 (natural_parse.l0 kq a0 x3_1 (a0.size : Int) x13_1 = some r) ∧ Aside0 (kq ≤ k) ∧ Aside0 (Kd.R (Kd.int .u32) 52 w' w.heap.size (fun k_ => (w.heap.size ≤ k_)) v122 x3_1) ∧ Aside0 (Below w.heap.size w w'))
 case atStart => exact ⟨(y121), (0), fs, H', ⟨Nat.le_refl _⟩, ⟨rm HO123.out (fun _ hk => hk.1)⟩, ⟨bz HB.out⟩⟩
 case round =>
  clear H'
  (try clear c3b0); (try clear c3b1); (try clear c4b0); (try clear c4b1)
  obtain ⟨x3_1, x13_1, rfl, HA, HK1, HO_3, HB⟩ := hrel
  cases gk with
  | zero => exact absurd HA.out (by simp [natural_parse.l0])
  | succ k1 =>
   have H := HA.out
   clear HA
   simp only [natural_parse.l0] at H
   by_cases c7 : x13_1 < (a0.size : Int)
   ·rw [if_pos c7] at H
    have c7b0 : decide (x13_1 < (a0.size : Int)) = true := decide_eq_true c7
    clear c7
    obtain ⟨ji8, hji8⟩ : ∃ j_ : Int, (wrap64 (Int.tdiv x13_1 4)) = j_ := ⟨_, rfl⟩
    first | rw [hji8] at H | simp only [hji8] at H
    have hji8w : (IntKind.i64.wrap (Int.tdiv x13_1 4)) = ji8 := (i64_w _).trans hji8
    obtain ⟨c9, H⟩ := iN H
    have c9b0 : decide (0 ≤ (ji8)) = true := decide_eq_true c9
    clear c9
    obtain ⟨c10, H⟩ := iN H
    have c10b0 : decide ((ji8) < (x3_1.length : Int)) = true := decide_eq_true c10
    clear c10
    obtain ⟨ji11, hji11⟩ : ∃ j_ : Int, (wrap64 ((wrap64 ((a0.size : Int) - 1)) - x13_1)) = j_ := ⟨_, rfl⟩
    first | rw [hji11] at H | simp only [hji11] at H
    have hji11w : (IntKind.i64.wrap ((wrap64 ((a0.size : Int) - 1)) - x13_1)) = ji11 := (i64_w _).trans hji11
    obtain ⟨c12, H⟩ := iN H
    have c12b0 : decide (0 ≤ (ji11)) = true := decide_eq_true c12
    clear c12
    obtain ⟨c13, H⟩ := iN H
    have c13b0 : decide ((ji11) < (a0.size : Int)) = true := decide_eq_true c13
    clear c13
    obtain ⟨ji15, hji15⟩ : ∃ j_ : Int, (wrap64 (8 * (Int.tmod x13_1 4))) = j_ := ⟨_, rfl⟩
    first | rw [hji15] at H | simp only [hji15] at H
    have hji15w : (IntKind.i64.wrap (8 * (Int.tmod x13_1 4))) = ji15 := (i64_w _).trans hji15
    obtain ⟨c16, H⟩ := iN H
    have c16b0 := eq_true c16
    have c16b1 : decide (0 ≤ (ji15)) = true := decide_eq_true c16
    clear c16
    obtain ⟨ji17, hji17⟩ : ∃ j_ : Int, (shl .u32 ((bt a0 (ji11)) % 4294967296) (ji15)) = j_ := ⟨_, rfl⟩
    first | rw [hji17] at H | simp only [hji17] at H
    have hji17_ : (IntKind.u32.wrap (((bt a0 (ji11)) % 4294967296) * 2 ^ min (ji15).toNat 32)) = ji17 := hji17
    have hji17z : (ji15) ≤ 32 → (IntKind.u32.wrap (((bt a0 (ji11)) % 4294967296) * 2 ^ (ji15).toNat)) = ji17 := shl_small hji17
    have hji17u_ : ((((bt a0 (ji11)) % 4294967296) * 2 ^ min (ji15).toNat 32) % 4294967296) = ji17 := hji17_
    have hji17u2_ : (ji15) ≤ 32 → ((((bt a0 (ji11)) % 4294967296) * 2 ^ (ji15).toNat) % 4294967296) = ji17 := hji17z
    have hji17u3_ : (IntKind.u32.wrap (IntKind.u32.wrap (bt a0 (ji11)) * 2 ^ min (ji15).toNat 32)) = ji17 := hji17_
    obtain ⟨y125, hy125⟩ : ∃ y_ : List Int, y_ = (x3_1.set ((ji8) : Int).toNat (Go.bits .or .u32 (rd x3_1 (ji8)) (ji17))) := ⟨_, rfl⟩
    (try first | rw [← hy125] at H | (dsimp only at H; rw [← hy125] at H)); (try rw [Option.bind_some] at H)
    have Ny125 := Aside0.mk hy125
    clear hy125
    have H' := Aside0.mk H
    clear H
    try go_wp2
    replace HO_3 := Aside0.mk (Kd.R_drew HO_3.out)
    replace HB := Aside0.mk (below_drew1 HB.out)
    obtain ⟨Ao20, co20, eo20⟩ := Kd.R_slice HO_3.out
    (first | subst eo20 | (injection eo20 with f1_ f2_ f3_; have f4_ := f1_.symm; have f5_ := f3_.symm; clear f1_ f2_ f3_; subst f4_; subst f5_))
    have p124 : 0 ≤ ((ji8) : Int) := oa
    have q124 : (ji8) < (x3_1.length : Int) := oa
    obtain ⟨ad124, e124, hx124_0⟩ := Kd.at_int (Kd.R_reads' HO_3.out).2.2 (ji8) p124 q124
    cases e124
    replace p124 := eq_true p124
    replace q124 := eq_true q124
    have p14 : 0 ≤ ((ji11) : Int) := oa
    have q14 : (ji11) < (a0.size : Int) := oa
    have hx14 := bt_at a0 (ji11)
    replace p14 := eq_true p14
    replace q14 := eq_true q14
    have p18 : 0 ≤ ((ji8) : Int) := oa
    have q18 : ((ji8) : Int) < ((x3_1.length : Int) : Int) := oa
    obtain ⟨go18, co18, eo18, gb18, gl18, cl18, HG18⟩ := Kd.R_form HO_3.out (by omega)
    (first | cases eo18 | (injection eo18 with ea_ en_ ec_; (first | subst ea_ | (injection ea_ with ea_; subst ea_)); subst ec_; clear en_))
    have GB18 := Aside0.mk gb18
    have GG18 := Aside0.mk HG18
    clear gb18 gl18 HG18
    (first | simp only [add_plain] at hx124_0 | skip)
    obtain ⟨hx18_0, hf18_0⟩ := Kd.R_celln 0 HO_3.out ((ji8) : Int) p18 q18
    replace p18 := eq_true p18
    replace q18 := eq_true q18
    have HP21 := Kd.R_putn HO_3.out ((ji8) : Int) (Go.bits .or .u32 (rd x3_1 (ji8)) (ji17))
    rw [← Ny125.out] at HP21
    have HQ21 := Aside0.mk HP21
    clear HP21
    refine start_ (n := 20) (S := fun w' => w'.cell? ⟨go18, ((ji8)).toNat, none⟩ = some (.int .u32 (rd x3_1 (ji8)))) (ds := [19]) #[false, false, false, false, false, false, false, false, false, false, false, false, false, false, false, false, false, false, false, false] (by kernel_rfl) rfl rfl (hx124_0) (fun hHeld => ?_); refine with_tabW natural_parse.tab5 natural_parse.bits5 (fun HT_ HW_ => ?_)
    generalize wr.drew = w19 at HO_3 HB GG18 HQ21 hf18_0 hx124_0 hx18_0 hHeld ⊢
    refine py 0 (some 16) #[true, false, false, false, false, false, false, false, false, false, false, false, false, false, false, false, false, false, false, false] HT_ ?_
    refine py 1 (some 17) #[true, true, false, false, false, false, false, false, false, false, false, false, false, false, false, false, false, false, false, false] HT_ ?_
    refine py 2 (some 18) #[true, true, true, false, false, false, false, false, false, false, false, false, false, false, false, false, false, false, false, false] HT_ ?_
    refine py 3 (some 19) #[true, true, true, true, false, false, false, false, false, false, false, false, false, false, false, false, false, false, false, false] HT_ ?_
    refine py 5 (some 21) #[true, true, true, true, false, true, false, false, false, false, false, false, false, false, false, false, false, false, false, false] HT_ ?_
    refine py 6 (some 22) #[true, true, true, true, false, true, true, false, false, false, false, false, false, false, false, false, false, false, false, false] HT_ ?_
    refine py 7 (some 23) #[true, true, true, true, false, true, true, true, false, false, false, false, false, false, false, false, false, false, false, false] HT_ ?_
    refine py 8 (some 24) #[true, true, true, true, false, true, true, true, true, false, false, false, false, false, false, false, false, false, false, false] HT_ ?_
    refine py 9 (some 25) #[true, true, true, true, false, true, true, true, true, true, false, false, false, false, false, false, false, false, false, false] HT_ ?_
    refine py 10 (some 26) #[true, true, true, true, false, true, true, true, true, true, true, false, false, false, false, false, false, false, false, false] HT_ ?_
    refine py 13 (some 29) #[true, true, true, true, false, true, true, true, true, true, true, false, false, true, false, false, false, false, false, false] HT_ ?_
    refine py 14 (some 30) #[true, true, true, true, false, true, true, true, true, true, true, false, false, true, true, false, false, false, false, false] HT_ ?_
    refine py 15 (some 31) #[true, true, true, true, false, true, true, true, true, true, true, false, false, true, true, true, false, false, false, false] HT_ ?_
    refine take_ (i := 4) (N := some 20) (v := ?_) (a' := ?_) #[true, true, true, true, true, true, true, true, true, true, true, false, false, true, true, true, false, false, false, false] rfl rfl (take_ofW HT_.out HW_.out (by kernel_rfl)) (fun _ _ _ h => h) (Or.inl ⟨by rfl, ?_⟩) hHeld ?_ ?_
    rotate_left
    ·intro w' s0
     go_simp
     with_reducible rfl
    rotate_left
    ·simp only [Act.put, List.setIfInBounds_toArray, List.set_cons_zero, List.set_cons_succ, i64_w, i32_w]
     rfl
    refine take_ (i := 11) (N := some 27) (v := ?_) (a' := ?_) #[true, true, true, true, true, true, true, true, true, true, true, true, false, true, true, true, false, false, false, false] rfl rfl (take_ofW HT_.out HW_.out (by kernel_rfl)) (fun _ _ _ h => h) (Or.inl ⟨by rfl, ?_⟩) hHeld ?_ ?_
    rotate_left
    ·intro w' s0
     go_simp
     with_reducible rfl
    rotate_left
    ·simp only [Act.put, List.setIfInBounds_toArray, List.set_cons_zero, List.set_cons_succ, i64_w, i32_w]
     rfl
    refine py 12 (some 28) #[true, true, true, true, true, true, true, true, true, true, true, true, true, true, true, true, false, false, false, false] HT_ ?_
    refine py 16 (some 32) #[true, true, true, true, true, true, true, true, true, true, true, true, true, true, true, true, true, false, false, false] HT_ ?_
    refine py 17 (some 33) #[true, true, true, true, true, true, true, true, true, true, true, true, true, true, true, true, true, true, false, false] HT_ ?_
    refine py 18 (some 34) #[true, true, true, true, true, true, true, true, true, true, true, true, true, true, true, true, true, true, true, false] HT_ ?_
    refine last_ (i := 19) (N := none) #[true, true, true, true, true, true, true, true, true, true, true, true, true, true, true, true, true, true, true, true] rfl rfl (one_of HT_.out (by kernel_rfl)) (by decide) (fun K hK => ?_)
    refine skip_ (w1 := ?_) (by rfl) rfl ?_ ?_
    rotate_left
    ·go_simp
     rfl
    refine hK.out _ _ ?_
    clear hK K
    refine done_ (done_of HT_.out (by kernel_rfl)) ?_
    try go_wp2
    go_roundg k1
    case measure => have := HK1.out; omega
    case rel => exact ⟨(y125), (wrap64 (x13_1 + 1)), fs, H', ⟨by have := HK1.out; omega⟩, ⟨vs HQ21.out⟩, ⟨bz HB.out⟩⟩
   ·rw [if_neg c7] at H
    have c7b0 : decide (x13_1 < (a0.size : Int)) = false := decide_eq_false c7
    clear c7
    obtain ⟨t126, A22, H⟩ := bs1 H
    obtain rfl := Option.some.inj H
    obtain ⟨Ao23, co23, eo23⟩ := Kd.R_slice HO_3.out
    subst eo23
    go_wp2_with (first | ((with_reducible refine gc 137 rfl ?_); refine gl (some 37) Tryz.func137 #[.slice Ao23 x3_1.length co23] ?_; (with_reducible refine (natural_limbs_trim.calls k1 (fun k_ => some k_ = (.slice Ao23 x3_1.length co23 : Value).ownBlock) _ _ x3_1 t126 _ ?side1 A22.out).mono ?_); (case side1 => exact Kd.R_V (Kd.R_tight rfl (HO_3.out))); rintro e w24 ⟨v127, rfl, ho0, hb⟩; refine ⟨_, rfl, ?_⟩; have HO128 := Aside0.mk (Kd.V_lower (Kd.V_mono (ok' := fun k_ => (w.heap.size ≤ k_)) ho0 (fun k_ hk_ => Or.elim hk_ (fun hs_ => ((HO_3.out).1 k_ hs_.symm)) (fun hn_ => (Nat.le_trans (sz HB.out) hn_)))) (sz HB.out)); replace HO_3 := Aside0.mk (rb HO_3.out hb); replace HB := Aside0.mk (bs HB.out hb); (try clear hb ho0)))
    go_ret
    exact ⟨_, by first | rfl | (simp [errW_none, errW_some] <;> rfl) | (simp only [← hji2]; first | rfl | (simp [errW_none, errW_some] <;> rfl)) | (simp [*, errW_none, errW_some] <;> rfl), vs HO128.out, bz HB.out⟩

/-! ### strings_trimLeftByte: function 138 -/
def strings_trimLeftByte.l0 : Nat → ByteArray → Int → Option (ByteArray)
 | 0, _, _ => none
 | k + 1, x0, x1 => if (x0.size : Int) > 0 then (if 0 < (x0.size : Int) then (if (bt x0 0) = x1 then (if 1 ≤ (x0.size : Int) then (strings_trimLeftByte.l0 k (x0.extract 1 x0.size) x1) else (none)) else (some x0)) else (none)) else (some x0)
def strings_trimLeftByte.f (k : Nat) (a0 : ByteArray) (a1 : Int) : Option (ByteArray) := strings_trimLeftByte.l0 k a0 a1
set_option maxHeartbeats 8000000 in
set_option maxRecDepth 100000 in
theorem strings_trimLeftByte.calls (k : Nat) (a0 : ByteArray) (a1 : Int) (r : ByteArray) (w : World) (h : strings_trimLeftByte.f k a0 a1 = some r) :
  Calls Tryz.prog 138 #[.string a0, .int .u8 a1] w fun e w' => e = .returned (.string r) ∧ Drawn0 w w' := by
 have H := h
 clear h
 unfold strings_trimLeftByte.f at H
 have H' := Aside0.mk H
 clear H
 go_enter Tryz.func138, Tryz.ntmps138
 go_wp2
 go_loopg [0] k (fun kq v0 w' => ∃ (x0_1 : ByteArray), v0 = .string x0_1 ∧ Aside0 (strings_trimLeftByte.l0 kq x0_1 a1 = some r) ∧ Aside0 (kq ≤ k) ∧ Drawn0 w w')
 case atStart => exact ⟨(a0), fs, H', ⟨Nat.le_refl _⟩, dz⟩
 case round =>
  clear H'
  obtain ⟨x0_1, rfl, HA, HK1, ⟨m1, rfl⟩⟩ := hrel
  cases gk with
  | zero => exact absurd HA.out (by simp [strings_trimLeftByte.l0])
  | succ k1 =>
   have H := HA.out
   clear HA
   simp only [strings_trimLeftByte.l0] at H
   by_cases c3 : (x0_1.size : Int) > 0
   ·rw [if_pos c3] at H
    have c3b0 : decide (0 < (x0_1.size : Int)) = true := decide_eq_true c3
    have c3b1 : decide (0 < x0_1.size) = true := decide_eq_true (by omega)
    clear c3
    obtain ⟨c4, H⟩ := iN H
    have c4b0 : decide (0 < (x0_1.size : Int)) = true := decide_eq_true c4
    have c4b1 : decide (0 < x0_1.size) = true := decide_eq_true (by omega)
    clear c4
    by_cases c6 : (bt x0_1 0) = a1
    ·rw [if_pos c6] at H
     have c6b0 := beq_iff_eq.mpr c6
     have c6b1 := bne_eq_false_iff_eq.mpr c6
     clear c6
     obtain ⟨c7, H⟩ := iN H
     have c7b0 := eq_true c7
     have c7b1 : decide (1 ≤ (x0_1.size : Int)) = true := decide_eq_true c7
     clear c7
     have H' := Aside0.mk H
     clear H
     have p5 : 0 ≤ (0 : Int) := (by omega)
     have q5 : 0 < x0_1.size := (by have : (0 : Int) < (x0_1.size : Int) := oa; omega)
     have hx5 : ∀ h : 0 < x0_1.size, ((x0_1[0]'h).toNat : Int) = bt x0_1 0 := bt_at x0_1 0
     clear p5
     have qi5 : (0 < (x0_1.size : Int)) = True := eq_true oa
     replace q5 := eq_true q5
     go_wp2
     go_roundg k1
     case measure => have := HK1.out; omega
     case rel => exact ⟨(x0_1.extract 1 x0_1.size), fs, H', ⟨by have := HK1.out; omega⟩, dz⟩
    ·rw [if_neg c6] at H
     have c6b0 := beq_eq_false_iff_ne.mpr c6
     have c6b1 := bne_iff_ne.mpr c6
     obtain rfl := Option.some.inj H
     have p5 : 0 ≤ (0 : Int) := (by omega)
     have q5 : 0 < x0_1.size := (by have : (0 : Int) < (x0_1.size : Int) := oa; omega)
     have hx5 : ∀ h : 0 < x0_1.size, ((x0_1[0]'h).toNat : Int) = bt x0_1 0 := bt_at x0_1 0
     clear p5
     have qi5 : (0 < (x0_1.size : Int)) = True := eq_true oa
     replace q5 := eq_true q5
     go_wp2
     go_ret
     exact ⟨fs, dz⟩
   ·rw [if_neg c3] at H
    have c3b0 : decide (0 < (x0_1.size : Int)) = false := decide_eq_false c3
    have c3b1 : decide (0 < x0_1.size) = false := decide_eq_false (by omega)
    clear c3
    obtain rfl := Option.some.inj H
    go_wp2
    go_ret
    exact ⟨fs, dz⟩

-- NOT PRINTED: function 139 (strings_makeASCIISet)

-- NOT PRINTED: function 160 (strings_asciiSet_contains)

-- NOT PRINTED: function 140 (strings_trimLeftASCII)

-- NOT PRINTED: function 173 (utf8_decodeRuneInStringSlow)

-- NOT PRINTED: function 161 (utf8_DecodeRuneInString)

/-! ### strings_TrimLeft: function 112 -/
mutual
def strings_TrimLeft.j0 : Nat → ByteArray → ByteArray → Bool → Option (ByteArray)
 | 0, _, _, _ => none
 | k + 1, x0, x1, x12 => if x12 = true then (some x0) else (if (x1.size : Int) = 1 then (if 0 < (x1.size : Int) then (strings_TrimLeft.j1 k x0 x1 (decide ((bt x1 0) < 128))) else (none)) else (strings_TrimLeft.j1 k x0 x1 false))
def strings_TrimLeft.j1 : Nat → ByteArray → ByteArray → Bool → Option (ByteArray)
 | 0, _, _, _ => none
 | k + 1, x0, x1, x21 => if x21 = true then (if 0 < (x1.size : Int) then ((strings_trimLeftByte.f k x0 (bt x1 0)).bind fun t130 => (some t130)) else (none)) else (none)
end
def strings_TrimLeft.f (k : Nat) (a0 : ByteArray) (a1 : ByteArray) : Option (ByteArray) := if a0.toList = ([] : List UInt8) then (strings_TrimLeft.j0 k a0 a1 true) else (strings_TrimLeft.j0 k a0 a1 (a1.toList == ([] : List UInt8)))
set_option maxHeartbeats 8000000 in
set_option maxRecDepth 100000 in
theorem strings_TrimLeft.calls (k : Nat) (a0 : ByteArray) (a1 : ByteArray) (r : ByteArray) (w : World) (h : strings_TrimLeft.f k a0 a1 = some r) :
  Calls Tryz.prog 112 #[.string a0, .string a1] w fun e w' => e = .returned (.string r) ∧ Below w.heap.size w w' := by
 have HB := Aside0.mk (Below.refl w.heap.size w)
 have H := h
 clear h
 unfold strings_TrimLeft.f at H
 have HC3 := Aside0.mk H
 clear H
 go_enter Tryz.func112, Tryz.ntmps112
 (try (simp only [Exit.then]; refine (by assumption : ∀ (a : Act) (w : World), Code.wp _ _ _ a w → _) _ _ ?_))
 go_upto_region 1 with (fail)
 go_cut [12] (fun v12 wc => ∃ (kq : Nat) (x12_2 : Bool), v12 = .bool x12_2 ∧ Aside0 (strings_TrimLeft.j0 kq a0 a1 x12_2 = some r) ∧ Aside0 (kq ≤ k) ∧ Aside0 (Below w.heap.size w wc))
 case first =>
  have H := HC3.out
  clear HC3
  by_cases c4 : a0.toList = ([] : List UInt8)
  ·rw [if_pos c4] at H
   have c4b0 := beq_iff_eq.mpr c4
   have c4b1 := bne_eq_false_iff_eq.mpr c4
   clear c4
   (first | rw [c4b0] | (simp only [i64_w, i32_w]; rw [c4b0]) | skip)
   have H' := Aside0.mk H
   clear H
   go_wp2
   go_meet
   case rel => exact ⟨_, (true), fs, H', ⟨by first | omega | exact Nat.le_refl _⟩, ⟨bz HB.out⟩⟩
  ·rw [if_neg c4] at H
   have c4b0 := beq_eq_false_iff_ne.mpr c4
   have c4b1 := bne_iff_ne.mpr c4
   (first | rw [c4b0] | (simp only [i64_w, i32_w]; rw [c4b0]) | skip)
   have H' := Aside0.mk H
   clear H
   go_wp2
   go_meet
   case rel => exact ⟨_, ((a1.toList == ([] : List UInt8))), fs, H', ⟨by first | omega | exact Nat.le_refl _⟩, ⟨bz HB.out⟩⟩
 case rest =>
  clear HC3
  (try clear c4b0); (try clear c4b1)
  obtain ⟨kq, x12_2, rfl, HA, HJ2, HB⟩ := hcut
  cases kq with
  | zero => exact absurd HA.out (by simp [strings_TrimLeft.j0])
  | succ kj2 =>
   have H := HA.out
   clear HA
   simp only [strings_TrimLeft.j0] at H
   by_cases c5 : x12_2 = true
   ·subst c5
    have H1 : (some a0) = some r := by rw [if_pos rfl] at H; exact H
    clear H
    have H := H1
    clear H1
    obtain rfl := Option.some.inj H
    go_wp2
    go_ret
    exact ⟨fe, bz HB.out⟩
   ·replace c5 := Bool.eq_false_iff.mpr c5
    subst c5
    have H1 : (if (a1.size : Int) = 1 then (if 0 < (a1.size : Int) then (strings_TrimLeft.j1 kj2 a0 a1 (decide ((bt a1 0) < 128))) else (none)) else (strings_TrimLeft.j1 kj2 a0 a1 false)) = some r := by rw [if_neg (show ¬ (false = true) by decide)] at H; exact H
    clear H
    have H := H1
    clear H1
    have HC6 := Aside0.mk H
    clear H
    (try (simp only [Exit.then]; refine (by assumption : ∀ (a : Act) (w : World), Code.wp _ _ _ a w → _) _ _ ?_))
    go_upto_region 3 with (fail)
    go_cut [21] (fun v21 wc => ∃ (kq : Nat) (x21_5 : Bool), v21 = .bool x21_5 ∧ Aside0 (strings_TrimLeft.j1 kq a0 a1 x21_5 = some r) ∧ Aside0 (kq ≤ kj2) ∧ Aside0 (Below w.heap.size w wc))
    case first =>
     have H := HC6.out
     clear HC6
     by_cases c7 : (a1.size : Int) = 1
     ·rw [if_pos c7] at H
      have c7b0 := beq_iff_eq.mpr c7
      have c7b1 := bne_eq_false_iff_eq.mpr c7
      clear c7
      (first | rw [c7b0] | (simp only [i64_w, i32_w]; rw [c7b0]) | skip)
      obtain ⟨c8, H⟩ := iN H
      have c8b0 : decide (0 < (a1.size : Int)) = true := decide_eq_true c8
      have c8b1 : decide (0 < a1.size) = true := decide_eq_true (by omega)
      clear c8
      have H' := Aside0.mk H
      clear H
      have p9 : 0 ≤ (0 : Int) := (by omega)
      have q9 : 0 < a1.size := (by have : (0 : Int) < (a1.size : Int) := oa; omega)
      have hx9 : ∀ h : 0 < a1.size, ((a1[0]'h).toNat : Int) = bt a1 0 := bt_at a1 0
      clear p9
      have qi9 : (0 < (a1.size : Int)) = True := eq_true oa
      replace q9 := eq_true q9
      go_wp2
      go_meet
      case rel => exact ⟨_, (decide ((bt a1 0) < 128)), fs, H', ⟨by have := HJ2.out; first | omega | exact Nat.le_refl _⟩, ⟨bz HB.out⟩⟩
     ·rw [if_neg c7] at H
      have c7b0 := beq_eq_false_iff_ne.mpr c7
      have c7b1 := bne_iff_ne.mpr c7
      (first | rw [c7b0] | (simp only [i64_w, i32_w]; rw [c7b0]) | skip)
      have H' := Aside0.mk H
      clear H
      go_wp2
      go_meet
      case rel => exact ⟨_, (false), fs, H', ⟨by have := HJ2.out; first | omega | exact Nat.le_refl _⟩, ⟨bz HB.out⟩⟩
    case rest =>
     clear HC6
     (try clear c4b0); (try clear c4b1); (try clear c5); (try clear c7b0); (try clear c7b1); (try clear c8b0); (try clear c8b1); (try clear q9); (try clear hx9); (try clear qi9); (try clear q9)
     obtain ⟨kq, x21_5, rfl, HA, HJ5, HB⟩ := hcut
     cases kq with
     | zero => exact absurd HA.out (by simp [strings_TrimLeft.j1])
     | succ kj5 =>
      have H := HA.out
      clear HA
      simp only [strings_TrimLeft.j1] at H
      by_cases c10 : x21_5 = true
      ·subst c10
       have H1 : (if 0 < (a1.size : Int) then ((strings_trimLeftByte.f kj5 a0 (bt a1 0)).bind fun t130 => (some t130)) else (none)) = some r := by rw [if_pos rfl] at H; exact H
       clear H
       have H := H1
       clear H1
       obtain ⟨c11, H⟩ := iN H
       have c11b0 : decide (0 < (a1.size : Int)) = true := decide_eq_true c11
       have c11b1 : decide (0 < a1.size) = true := decide_eq_true (by omega)
       clear c11
       obtain ⟨t130, A13, H⟩ := bs1 H
       obtain rfl := Option.some.inj H
       have p12 : 0 ≤ (0 : Int) := (by omega)
       have q12 : 0 < a1.size := (by have : (0 : Int) < (a1.size : Int) := oa; omega)
       have hx12 : ∀ h : 0 < a1.size, ((a1[0]'h).toNat : Int) = bt a1 0 := bt_at a1 0
       clear p12
       have qi12 : (0 < (a1.size : Int)) = True := eq_true oa
       replace q12 := eq_true q12
       go_wp2_with (first | ((with_reducible refine gc 138 rfl ?_); refine gl (some 25) Tryz.func138 #[.string a0, .int .u8 (bt a1 0)] ?_; (with_reducible refine (strings_trimLeftByte.calls kj5 a0 (bt a1 0) t130 _ A13.out).mono ?_); rintro e w' ⟨rfl, ⟨nd, rfl⟩⟩; refine ⟨_, rfl, ?_⟩))
       go_ret
       exact ⟨fe, bz HB.out⟩
      ·replace c10 := Bool.eq_false_iff.mpr c10
       subst c10
       have H1 : (none) = some r := by rw [if_neg (show ¬ (false = true) by decide)] at H; exact H
       clear H
       have H := H1
       clear H1
       exact absurd H (by simp)

/-! ### natural_Normalize: function 107 -/
def natural_Normalize.f (k : Nat) (a0 : ByteArray) : Option (ByteArray) := (strings_TrimLeft.f k a0 (⟨#[0]⟩ : ByteArray)).bind fun t131 => (some t131)
set_option maxHeartbeats 8000000 in
set_option maxRecDepth 100000 in
theorem natural_Normalize.calls (k : Nat) (a0 : ByteArray) (r : ByteArray) (w : World) (h : natural_Normalize.f k a0 = some r) :
  Calls Tryz.prog 107 #[.string a0] w fun e w' => e = .returned (.string r) ∧ Below w.heap.size w w' := by
 have HB := Aside0.mk (Below.refl w.heap.size w)
 have H := h
 clear h
 unfold natural_Normalize.f at H
 obtain ⟨t131, A2, H⟩ := bs1 H
 obtain rfl := Option.some.inj H
 go_enter Tryz.func107, Tryz.ntmps107
 go_wp2_with (first | ((with_reducible refine gc 112 rfl ?_); refine gl (some 4) Tryz.func112 #[.string a0, .string (⟨#[0]⟩ : ByteArray)] ?_; (with_reducible refine (strings_TrimLeft.calls k a0 (⟨#[0]⟩ : ByteArray) t131 _ A2.out).mono ?_); rintro e w3 ⟨rfl, hb⟩; refine ⟨_, rfl, ?_⟩; replace HB := Aside0.mk (bs HB.out hb); (try clear hb)))
 go_ret
 exact ⟨fe, bz HB.out⟩

/-! ### natural_limbs_text: function 111 -/
def natural_limbs_text.l0 : Nat → List Int → List Int → Int → Int → Option (ByteArray)
 | 0, _, _, _, _ => none
 | k + 1, x0, x3, x10, x11 => if x11 < x10 then (if 0 ≤ (wrap64 (Int.tdiv x11 4)) then (if (wrap64 (Int.tdiv x11 4)) < (x0.length : Int) then (if 0 ≤ (wrap64 (8 * (Int.tmod x11 4))) then (if 0 ≤ (wrap64 ((wrap64 ((x3.length : Int) - 1)) - x11)) then (if (wrap64 ((wrap64 ((x3.length : Int) - 1)) - x11)) < (x3.length : Int) then (natural_limbs_text.l0 k x0 (x3.set ((wrap64 ((wrap64 ((x3.length : Int) - 1)) - x11)) : Int).toNat ((shr .u32 (rd x0 (wrap64 (Int.tdiv x11 4))) (wrap64 (8 * (Int.tmod x11 4)))) % 256)) x10 (wrap64 (x11 + 1))) else (none)) else (none)) else (none)) else (none)) else (none)) else ((natural_Normalize.f k (strOfNums x3)).bind fun t137 => (some t137))
def natural_limbs_text.f (k : Nat) (l0 : List Int) : Option (ByteArray) := if 0 ≤ (wrap64 ((l0.length : Int) * 4)) then (if (wrap64 ((l0.length : Int) * 4) : Int).toNat ≤ 281474976710656 then ((some (List.replicate (wrap64 ((l0.length : Int) * 4) : Int).toNat 0 : List Int)).bind fun y132 => (natural_limbs_text.l0 k l0 y132 (y132.length : Int) 0)) else (none)) else (none)
set_option maxHeartbeats 8000000 in
set_option maxRecDepth 100000 in
theorem natural_limbs_text.calls (k : Nat) (A0 : Option Addr) (c0 : Nat) (l0 : List Int) (r : ByteArray) (w : World) (hr0 : Kd.C (Kd.int .u32) w A0 l0.length l0) (hc0 : l0.length ≤ c0) (h : natural_limbs_text.f k l0 = some r) :
  Calls Tryz.prog 111 #[.slice A0 l0.length c0] w fun e w' => e = .returned (.string r) ∧ Below w.heap.size w w' := by
 have HR0 := Aside0.mk hr0
 have HC0 := Aside0.mk hc0
 clear hr0 hc0
 have HB := Aside0.mk (Below.refl w.heap.size w)
 have H := h
 clear h
 unfold natural_limbs_text.f at H
 obtain ⟨ji2, hji2⟩ : ∃ j_ : Int, (wrap64 ((l0.length : Int) * 4)) = j_ := ⟨_, rfl⟩
 first | rw [hji2] at H | simp only [hji2] at H
 have hji2w : (IntKind.i64.wrap ((l0.length : Int) * 4)) = ji2 := (i64_w _).trans hji2
 obtain ⟨c3, H⟩ := iN H
 have c3b0 := eq_true c3
 have c3b1 : decide (0 ≤ (ji2)) = true := decide_eq_true c3
 clear c3
 obtain ⟨c4, H⟩ := iN H
 have c4b0 := eq_true c4
 have c4b1 : decide ((ji2 : Int).toNat ≤ 281474976710656) = true := decide_eq_true c4
 clear c4
 obtain ⟨y132, hy132⟩ : ∃ y_ : List Int, y_ = (List.replicate (ji2 : Int).toNat 0) := ⟨_, rfl⟩
 (try first | rw [← hy132] at H | (dsimp only at H; rw [← hy132] at H)); (try rw [Option.bind_some] at H)
 have Ny132 := Aside0.mk hy132
 clear hy132
 have H' := Aside0.mk H
 clear H
 go_enter Tryz.func111, Tryz.ntmps111
 go_wp2_with (first | ((with_reducible refine gd 8 rfl ?_); refine Kd.R_make (Kd.int .u8) _ 5 rfl (N := 8) rfl 57 _ _ rfl ji2 rfl rfl Tryz.underlying57 (.int .u8 0) 1 info5 rfl (by decide) (by omega) 0 (ok := fun _ => True) (okp := fun _ => True) rfl (fun _ hk => hk) trivial oa (Nat.le_trans (Nat.mul_le_mul_right _ (oa : ji2.toNat ≤ 281474976710656)) (by omega)) (Below.refl _ _) (Nat.le_refl _) ?_; intro v133 w5 ho6 hb hg_ hnew_; clear hg_ hnew_; (first | rw [← Ny132.out] at ho6 | (simp only [Int.reduceToNat] at ho6; rw [← Ny132.out] at ho6)); have HO134 := Aside0.mk (Kd.R_lower ho6 (sz HB.out)); replace HB := Aside0.mk (bs HB.out hb); clear hb ho6; obtain ⟨Ao7, co7, eo7⟩ := Kd.R_slice HO134.out; subst eo7))
 go_loopg [11] k (fun kq v11 w' => ∃ (x3_1 : List Int) (x11_1 : Int), v11 = .int .i64 x11_1 ∧ Aside0 (natural_limbs_text.l0 kq l0 x3_1 (y132.length : Int) x11_1 = some r) ∧ Aside0 (kq ≤ k) ∧ Aside0 (Kd.R (Kd.int .u8) 5 w' w.heap.size (fun _ => True) (.slice Ao7 y132.length co7) x3_1) ∧ Aside0 (Below w.heap.size w w'))
 case atStart => exact ⟨(y132), (0), fs, H', ⟨Nat.le_refl _⟩, ⟨vs HO134.out⟩, ⟨bz HB.out⟩⟩
 case round =>
  clear H'
  (try clear c3b0); (try clear c3b1); (try clear c4b0); (try clear c4b1)
  obtain ⟨x3_1, x11_1, rfl, HA, HK1, HO_3, HB⟩ := hrel
  have hl3_1 := (Kd.R_reads' HO_3.out).1
  rw [hl3_1] at HO_3
  (try simp only [hl3_1])
  cases gk with
  | zero => exact absurd HA.out (by simp [natural_limbs_text.l0])
  | succ k1 =>
   have H := HA.out
   clear HA
   simp only [natural_limbs_text.l0] at H
   by_cases c8 : x11_1 < (y132.length : Int)
   ·rw [if_pos c8] at H
    have c8b0 : decide (x11_1 < (y132.length : Int)) = true := decide_eq_true c8
    (try (have c8b0_hl3_1 := c8b0; rw [hl3_1] at c8b0_hl3_1))
    clear c8
    obtain ⟨ji9, hji9⟩ : ∃ j_ : Int, (wrap64 (Int.tdiv x11_1 4)) = j_ := ⟨_, rfl⟩
    first | rw [hji9] at H | simp only [hji9] at H
    have hji9w : (IntKind.i64.wrap (Int.tdiv x11_1 4)) = ji9 := (i64_w _).trans hji9
    obtain ⟨c10, H⟩ := iN H
    have c10b0 : decide (0 ≤ (ji9)) = true := decide_eq_true c10
    clear c10
    obtain ⟨c11, H⟩ := iN H
    have c11b0 : decide ((ji9) < (l0.length : Int)) = true := decide_eq_true c11
    (try (have c11b0_hl3_1 := c11b0; rw [hl3_1] at c11b0_hl3_1))
    clear c11
    obtain ⟨ji12, hji12⟩ : ∃ j_ : Int, (wrap64 (8 * (Int.tmod x11_1 4))) = j_ := ⟨_, rfl⟩
    first | rw [hji12] at H | simp only [hji12] at H
    have hji12w : (IntKind.i64.wrap (8 * (Int.tmod x11_1 4))) = ji12 := (i64_w _).trans hji12
    obtain ⟨c13, H⟩ := iN H
    have c13b0 := eq_true c13
    have c13b1 : decide (0 ≤ (ji12)) = true := decide_eq_true c13
    clear c13
    obtain ⟨ji14, hji14⟩ : ∃ j_ : Int, (shr .u32 (rd l0 (ji9)) (ji12)) = j_ := ⟨_, rfl⟩
    first | rw [hji14] at H | simp only [hji14] at H
    have hji14_ : ((rd l0 (ji9)) / 2 ^ min (ji12).toNat 32) = ji14 := hji14
    have hji14z : (ji12) ≤ 32 → ((rd l0 (ji9)) / 2 ^ (ji12).toNat) = ji14 := shr_small hji14
    obtain ⟨ji15, hji15⟩ : ∃ j_ : Int, (wrap64 ((wrap64 ((x3_1.length : Int) - 1)) - x11_1)) = j_ := ⟨_, rfl⟩
    first | rw [hji15] at H | simp only [hji15] at H
    have hji15w : (IntKind.i64.wrap ((wrap64 ((x3_1.length : Int) - 1)) - x11_1)) = ji15 := (i64_w _).trans hji15
    obtain ⟨c16, H⟩ := iN H
    have c16b0 : decide (0 ≤ (ji15)) = true := decide_eq_true c16
    clear c16
    obtain ⟨c17, H⟩ := iN H
    have c17b0 : decide ((ji15) < (x3_1.length : Int)) = true := decide_eq_true c17
    (try (have c17b0_hl3_1 := c17b0; rw [hl3_1] at c17b0_hl3_1))
    clear c17
    obtain ⟨y136, hy136⟩ : ∃ y_ : List Int, y_ = (x3_1.set ((ji15) : Int).toNat ((ji14) % 256)) := ⟨_, rfl⟩
    (try first | rw [← hy136] at H | (dsimp only at H; rw [← hy136] at H)); (try rw [Option.bind_some] at H)
    have Ny136 := Aside0.mk hy136
    clear hy136
    have H' := Aside0.mk H
    clear H
    have p135 : 0 ≤ ((ji9) : Int) := oa
    have q135 : (ji9) < (l0.length : Int) := oa
    obtain ⟨ad135, e135, hx135_0⟩ := Kd.at_int HR0.out (ji9) p135 q135
    cases e135
    try replace hx135_0 := (HB.out.cell (World.block_lt_of_cell? w _ hx135_0)).trans hx135_0
    replace p135 := eq_true p135
    replace q135 := eq_true q135
    have p18 : 0 ≤ ((ji15) : Int) := oa
    have q18 : ((ji15) : Int) < ((x3_1.length : Int) : Int) := oa
    obtain ⟨go18, co18, eo18, gb18, gl18, cl18, HG18⟩ := Kd.R_form HO_3.out (by omega)
    (first | cases eo18 | (injection eo18 with ea_ en_ ec_; (first | subst ea_ | (injection ea_ with ea_; subst ea_)); subst ec_; clear en_))
    have GB18 := Aside0.mk gb18
    have GG18 := Aside0.mk HG18
    clear gb18 gl18 HG18
    obtain ⟨hx18_0, hf18_0⟩ := Kd.R_celln 0 HO_3.out ((ji15) : Int) p18 q18
    replace p18 := eq_true p18
    replace q18 := eq_true q18
    have HP19 := Kd.R_putg HO_3.out ((ji15) : Int) ((ji14) % 256)
    go_wp2_with (first | ((with_reducible refine gate_store (t := 5) (p := 30) rfl ?_); refine se 5 30 (w1 := (wr.setCell ⟨go18, ((ji15) : Int).toNat, none⟩ (.int .u8 ((ji14) % 256)))) ?_; intro w20 hw; have hg : wr.grownBy w20 (some go18) := (by rw [hw]; exact HP19.2); have hp_ : Kd.R (Kd.int .u8) 5 w20 w.heap.size (fun _ => True) (.slice (some ⟨go18, 0, none⟩) x3_1.length co7) y136 := (by rw [hw, Ny136.out]; exact HP19.1); clear HP19; replace HO_3 := Aside0.mk (hp_); replace HB := Aside0.mk ((by rw [hw]; exact below_set (HB.out) GB18.out : Below w.heap.size w w20)); clear hg hw hp_))
    (try simp only [← hl3_1])
    go_roundg k1
    case measure => have := HK1.out; omega
    case rel => exact ⟨(y136), (wrap64 (x11_1 + 1)), fs, H', ⟨by have := HK1.out; omega⟩, ⟨by (try simp only [hl3_1]); (with_reducible repeat (first | apply Kd.R_alloc | apply Kd.R_drewN | apply Kd.R_drew)); exact HO_3.out⟩, ⟨bz HB.out⟩⟩
   ·rw [if_neg c8] at H
    have c8b0 : decide (x11_1 < (y132.length : Int)) = false := decide_eq_false c8
    (try (have c8b0_hl3_1 := c8b0; rw [hl3_1] at c8b0_hl3_1))
    clear c8
    obtain ⟨t137, A21, H⟩ := bs1 H
    obtain rfl := Option.some.inj H
    have hcv22 := own_string (P := Tryz.prog) Tryz.underlying57 Tryz.underlying5 Tryz.underlying9 (Kd.own_of_R HO_3.out)
    go_wp2_with (first | ((with_reducible refine gc 107 rfl ?_); refine gl (some 34) Tryz.func107 #[.string (strOfNums x3_1)] ?_; (with_reducible refine (natural_Normalize.calls k1 (strOfNums x3_1) t137 _ A21.out).mono ?_); rintro e w23 ⟨rfl, hb⟩; refine ⟨_, rfl, ?_⟩; replace HO_3 := Aside0.mk (rb HO_3.out hb); replace HB := Aside0.mk (bs HB.out hb); (try clear hb)))
    go_ret
    exact ⟨by first | rfl | (simp [errW_none, errW_some] <;> rfl) | (simp only [← hji2]; first | rfl | (simp [errW_none, errW_some] <;> rfl)) | (simp [*, errW_none, errW_some] <;> rfl), bz HB.out⟩

/-! ### natural_Multiply: function 64 -/
mutual
def natural_Multiply.l0 : Nat → List Int → List Int → List Int → Int → Int → Option (ByteArray)
 | 0, _, _, _, _, _ => none
 | k + 1, x6, x7, x24, x25, x26 => if x26 < x25 then (if 0 ≤ x26 then (if x26 < (x24.length : Int) then (natural_Multiply.l1 k x6 x7 x26 (rd x24 x26) 0 x24 x25 x26 x6 (x6.length : Int) 0) else (none)) else (none)) else ((natural_limbs_text.f k x7).bind fun t147 => (some t147))
def natural_Multiply.l1 : Nat → List Int → List Int → Int → Int → Int → List Int → Int → Int → List Int → Int → Int → Option (ByteArray)
 | 0, _, _, _, _, _, _, _, _, _, _, _ => none
 | k + 1, x6, x7, x8, x9, x10, x24, x25, x26, x31, x32, x33 => if x33 < x32 then (if 0 ≤ x33 then (if x33 < (x31.length : Int) then (if 0 ≤ (wrap64 (x8 + x33)) then (if (wrap64 (x8 + x33)) < (x7.length : Int) then (natural_Multiply.l1 k x6 (x7.set ((wrap64 (x8 + x33)) : Int).toNat ((IntKind.u64.wrap ((IntKind.u64.wrap ((IntKind.u64.wrap ((IntKind.u64.wrap (x9)) * (IntKind.u64.wrap (rd x31 x33)))) + (IntKind.u64.wrap (rd x7 (wrap64 (x8 + x33)))))) + x10)) % 4294967296)) x8 x9 ((IntKind.u64.wrap ((IntKind.u64.wrap ((IntKind.u64.wrap ((IntKind.u64.wrap (x9)) * (IntKind.u64.wrap (rd x31 x33)))) + (IntKind.u64.wrap (rd x7 (wrap64 (x8 + x33)))))) + x10)) / 4294967296) x24 x25 x26 x31 x32 (wrap64 (x33 + 1))) else (none)) else (none)) else (none)) else (none)) else (if 0 ≤ (wrap64 (x8 + (x6.length : Int))) then (if (wrap64 (x8 + (x6.length : Int))) < (x7.length : Int) then (natural_Multiply.l0 k x6 (x7.set ((wrap64 (x8 + (x6.length : Int))) : Int).toNat ((x10) % 4294967296)) x24 x25 (wrap64 (x26 + 1))) else (none)) else (none))
end
def natural_Multiply.f (k : Nat) (a0 : ByteArray) (a1 : ByteArray) : Option (ByteArray) := (natural_parse.f k a0).bind fun t138 => ((natural_parse.f k a1).bind fun t141 => (if 0 ≤ (wrap64 ((t138.length : Int) + (t141.length : Int))) then (if (wrap64 ((t138.length : Int) + (t141.length : Int)) : Int).toNat ≤ 70368744177664 then (natural_Multiply.l0 k t141 (List.replicate (wrap64 ((t138.length : Int) + (t141.length : Int)) : Int).toNat 0) t138 (t138.length : Int) 0) else (none)) else (none)))
set_option maxHeartbeats 8000000 in
set_option maxRecDepth 100000 in
theorem natural_Multiply.calls (k : Nat) (a0 : ByteArray) (a1 : ByteArray) (r : ByteArray) (w : World) (h : natural_Multiply.f k a0 a1 = some r) :
  Calls Tryz.prog 64 #[.string a0, .string a1] w fun e w' => e = .returned (.string r) ∧ Below w.heap.size w w' := by
 have HB := Aside0.mk (Below.refl w.heap.size w)
 have H := h
 clear h
 unfold natural_Multiply.f at H
 obtain ⟨t138, A3, H⟩ := bs1 H
 obtain ⟨t141, A4, H⟩ := bs1 H
 obtain ⟨ji5, hji5⟩ : ∃ j_ : Int, (wrap64 ((t138.length : Int) + (t141.length : Int))) = j_ := ⟨_, rfl⟩
 first | rw [hji5] at H | simp only [hji5] at H
 (try rw [hji5] at A3)
 (try rw [hji5] at A4)
 have hji5w : (IntKind.i64.wrap ((t138.length : Int) + (t141.length : Int))) = ji5 := (i64_w _).trans hji5
 obtain ⟨c6, H⟩ := iN H
 have c6b0 := eq_true c6
 have c6b1 : decide (0 ≤ (ji5)) = true := decide_eq_true c6
 clear c6
 obtain ⟨c7, H⟩ := iN H
 have c7b0 := eq_true c7
 have c7b1 : decide ((ji5 : Int).toNat ≤ 70368744177664) = true := decide_eq_true c7
 clear c7
 obtain ⟨y144, hy144⟩ : ∃ y_ : List Int, y_ = (List.replicate (ji5 : Int).toNat 0) := ⟨_, rfl⟩
 (try first | rw [← hy144] at H | (dsimp only at H; rw [← hy144] at H)); (try rw [Option.bind_some] at H)
 have Ny144 := Aside0.mk hy144
 clear hy144
 have H' := Aside0.mk H
 clear H
 go_enter Tryz.func64, Tryz.ntmps64
 go_wp2_with (first | ((with_reducible refine gc 109 rfl ?_); refine gl (some 15) Tryz.func109 #[.string a0] ?_; (with_reducible refine (natural_parse.calls k a0 t138 _ A3.out).mono ?_); rintro e w8 ⟨v139, rfl, ho0, hb⟩; refine ⟨_, rfl, ?_⟩; have HO140 := Aside0.mk (Kd.V_lower (Kd.V_mono (ok' := fun k_ => True) ho0 (fun k_ hk_ => trivial)) (sz HB.out)); replace HB := Aside0.mk (bs HB.out hb); (try clear hb ho0)) | ((with_reducible refine gc 109 rfl ?_); refine gl (some 17) Tryz.func109 #[.string a1] ?_; (with_reducible refine (natural_parse.calls k a1 t141 _ A4.out).mono ?_); rintro e w9 ⟨v142, rfl, ho0, hb⟩; refine ⟨_, rfl, ?_⟩; replace HO140 := Aside0.mk (vb HO140.out hb); have HO143 := Aside0.mk (Kd.V_lower (Kd.V_mono (ok' := fun k_ => True) ho0 (fun k_ hk_ => trivial)) (sz HB.out)); replace HB := Aside0.mk (bs HB.out hb); (try clear hb ho0); obtain ⟨Ao10, co10, rfl⟩ := Kd.V_slice HO140.out; obtain ⟨Ao11, co11, rfl⟩ := Kd.V_slice HO143.out) | ((with_reducible refine gd 23 rfl ?_); refine Kd.R_make (Kd.int .u32) _ 52 rfl (N := 23) rfl 88 _ _ rfl ji5 rfl rfl Tryz.underlying88 (.int .u32 0) 4 info52 rfl (by decide) (by omega) 0 (ok := fun _ => True) (okp := fun _ => True) rfl (fun _ hk => hk) trivial oa (Nat.le_trans (Nat.mul_le_mul_right _ (oa : ji5.toNat ≤ 70368744177664)) (by omega)) (Below.refl _ _) (Nat.le_refl _) ?_; intro v145 w12 ho13 hb hg_ hnew_; clear hg_ hnew_; (first | rw [← Ny144.out] at ho13 | (simp only [Int.reduceToNat] at ho13; rw [← Ny144.out] at ho13)); replace HO140 := Aside0.mk (Kd.V_elder' (vs HO140.out) (Kd.R_base ho13) hb); replace HO143 := Aside0.mk (Kd.V_elder' (vs HO143.out) (Kd.R_base ho13) hb); have HO146 := Aside0.mk (Kd.R_lower ho13 (sz HB.out)); replace HB := Aside0.mk (bs HB.out hb); clear hb ho13))
 go_loopg [26] k (fun kq v26 w' => ∃ (x7_1 : List Int) (x26_1 : Int), v26 = .int .i64 x26_1 ∧ Aside0 (natural_Multiply.l0 kq t141 x7_1 t138 (t138.length : Int) x26_1 = some r) ∧ Aside0 (kq ≤ k) ∧ Aside0 (Kd.V (Kd.int .u32) 52 w' w.heap.size (fun k_ => some k_ ≠ (v145 : Value).ownBlock) (.slice Ao11 t141.length co11) t141) ∧ Aside0 (Kd.R (Kd.int .u32) 52 w' w.heap.size (fun _ => True) v145 x7_1) ∧ Aside0 (Kd.V (Kd.int .u32) 52 w' w.heap.size (fun k_ => some k_ ≠ (v145 : Value).ownBlock) (.slice Ao10 t138.length co10) t138) ∧ Aside0 (Below w.heap.size w w'))
 case atStart => exact ⟨(y144), (0), fs, H', ⟨Nat.le_refl _⟩, ⟨vm HO143.out (fun _ hk => hk.2)⟩, ⟨vs HO146.out⟩, ⟨vm HO140.out (fun _ hk => hk.2)⟩, ⟨bz HB.out⟩⟩
 case round =>
  clear H'
  (try clear c6b0); (try clear c6b1); (try clear c7b0); (try clear c7b1)
  obtain ⟨x7_1, x26_1, rfl, HA, HK1, HO_6, HO_7, HO_24, HB⟩ := hrel
  cases gk with
  | zero => exact absurd HA.out (by simp [natural_Multiply.l0])
  | succ k1 =>
   have H := HA.out
   clear HA
   simp only [natural_Multiply.l0] at H
   by_cases c14 : x26_1 < (t138.length : Int)
   ·rw [if_pos c14] at H
    have c14b0 : decide (x26_1 < (t138.length : Int)) = true := decide_eq_true c14
    clear c14
    obtain ⟨c15, H⟩ := iN H
    have c15b0 : decide (0 ≤ x26_1) = true := decide_eq_true c15
    clear c15
    obtain ⟨c16, H⟩ := iN H
    have c16b0 : decide (x26_1 < (t138.length : Int)) = true := decide_eq_true c16
    clear c16
    have H' := Aside0.mk H
    clear H
    have p148 : 0 ≤ (x26_1 : Int) := oa
    have q148 : x26_1 < (t138.length : Int) := oa
    obtain ⟨ad148, e148, hx148_0⟩ := Kd.at_int (Kd.V_reads' HO_24.out).2.2 x26_1 p148 q148
    cases e148
    replace p148 := eq_true p148
    replace q148 := eq_true q148
    go_wp2
    go_loopg [10, 33] k1 (fun kq v10 v33 w' => ∃ (x7_2 : List Int) (x10_2 : Int) (x33_2 : Int), v10 = .int .u64 x10_2 ∧ v33 = .int .i64 x33_2 ∧ Aside0 (natural_Multiply.l1 kq t141 x7_2 x26_1 (rd t138 x26_1) x10_2 t138 (t138.length : Int) x26_1 t141 (t141.length : Int) x33_2 = some r) ∧ Aside0 (kq ≤ k1) ∧ Aside0 (Kd.V (Kd.int .u32) 52 w' w.heap.size (fun k_ => some k_ ≠ (v145 : Value).ownBlock) (.slice Ao11 t141.length co11) t141) ∧ Aside0 (Kd.R (Kd.int .u32) 52 w' w.heap.size (fun _ => True) v145 x7_2) ∧ Aside0 (Kd.V (Kd.int .u32) 52 w' w.heap.size (fun k_ => some k_ ≠ (v145 : Value).ownBlock) (.slice (some ad148) t138.length co10) t138) ∧ Aside0 (Kd.V (Kd.int .u32) 52 w' w.heap.size (fun k_ => some k_ ≠ (v145 : Value).ownBlock) (.slice Ao11 t141.length co11) t141) ∧ Aside0 (Below w.heap.size w w'))
    case atStart => exact ⟨(x7_1), (0), (0), fs, fs, H', ⟨Nat.le_refl _⟩, ⟨vs HO_6.out⟩, ⟨vs HO_7.out⟩, ⟨vs HO_24.out⟩, ⟨vs HO_6.out⟩, ⟨bz HB.out⟩⟩
    case round =>
     clear H'
     (try clear c6b0); (try clear c6b1); (try clear c7b0); (try clear c7b1); (try clear c14b0); (try clear c15b0); (try clear c16b0); (try clear hx148_0); (try clear p148); (try clear q148)
     obtain ⟨x7_2, x10_2, x33_2, rfl, rfl, HA, HK2, HO_6, HO_7, HO_24, HO_31, HB⟩ := hrel
     cases gk with
     | zero => exact absurd HA.out (by simp [natural_Multiply.l1])
     | succ k2 =>
      have H := HA.out
      clear HA
      simp only [natural_Multiply.l1] at H
      by_cases c17 : x33_2 < (t141.length : Int)
      ·rw [if_pos c17] at H
       have c17b0 : decide (x33_2 < (t141.length : Int)) = true := decide_eq_true c17
       clear c17
       obtain ⟨c18, H⟩ := iN H
       have c18b0 : decide (0 ≤ x33_2) = true := decide_eq_true c18
       clear c18
       obtain ⟨c19, H⟩ := iN H
       have c19b0 : decide (x33_2 < (t141.length : Int)) = true := decide_eq_true c19
       clear c19
       obtain ⟨ji20, hji20⟩ : ∃ j_ : Int, (wrap64 (x26_1 + x33_2)) = j_ := ⟨_, rfl⟩
       first | rw [hji20] at H | simp only [hji20] at H
       have hji20w : (IntKind.i64.wrap (x26_1 + x33_2)) = ji20 := (i64_w _).trans hji20
       obtain ⟨c21, H⟩ := iN H
       have c21b0 : decide (0 ≤ (ji20)) = true := decide_eq_true c21
       clear c21
       obtain ⟨c22, H⟩ := iN H
       have c22b0 : decide ((ji20) < (x7_2.length : Int)) = true := decide_eq_true c22
       clear c22
       obtain ⟨y151, hy151⟩ : ∃ y_ : List Int, y_ = (x7_2.set ((ji20) : Int).toNat ((IntKind.u64.wrap ((IntKind.u64.wrap ((IntKind.u64.wrap ((IntKind.u64.wrap ((rd t138 x26_1))) * (IntKind.u64.wrap (rd t141 x33_2)))) + (IntKind.u64.wrap (rd x7_2 (ji20))))) + x10_2)) % 4294967296)) := ⟨_, rfl⟩
       (try first | rw [← hy151] at H | (dsimp only at H; rw [← hy151] at H)); (try rw [Option.bind_some] at H)
       have Ny151 := Aside0.mk hy151
       clear hy151
       have H' := Aside0.mk H
       clear H
       have p149 : 0 ≤ (x33_2 : Int) := oa
       have q149 : x33_2 < (t141.length : Int) := oa
       obtain ⟨ad149, e149, hx149_0⟩ := Kd.at_int (Kd.V_reads' HO_31.out).2.2 x33_2 p149 q149
       cases e149
       replace p149 := eq_true p149
       replace q149 := eq_true q149
       obtain ⟨Ao24, co24, eo24⟩ := Kd.R_slice HO_7.out
       subst eo24
       have p150 : 0 ≤ ((ji20) : Int) := oa
       have q150 : (ji20) < (x7_2.length : Int) := oa
       obtain ⟨ad150, e150, hx150_0⟩ := Kd.at_int (Kd.R_reads' HO_7.out).2.2 (ji20) p150 q150
       cases e150
       replace p150 := eq_true p150
       replace q150 := eq_true q150
       have p23 : 0 ≤ ((ji20) : Int) := oa
       have q23 : ((ji20) : Int) < ((x7_2.length : Int) : Int) := oa
       obtain ⟨go23, co23, eo23, gb23, gl23, cl23, HG23⟩ := Kd.R_form HO_7.out (by omega)
       (first | cases eo23 | (injection eo23 with ea_ en_ ec_; (first | subst ea_ | (injection ea_ with ea_; subst ea_)); subst ec_; clear en_))
       have GB23 := Aside0.mk gb23
       have GG23 := Aside0.mk HG23
       clear gb23 gl23 HG23
       (first | simp only [add_plain] at hx150_0 | skip)
       obtain ⟨hx23_0, hf23_0⟩ := Kd.R_celln 0 HO_7.out ((ji20) : Int) p23 q23
       replace p23 := eq_true p23
       replace q23 := eq_true q23
       have HP25 := Kd.R_putg HO_7.out ((ji20) : Int) ((IntKind.u64.wrap ((IntKind.u64.wrap ((IntKind.u64.wrap ((IntKind.u64.wrap ((rd t138 x26_1))) * (IntKind.u64.wrap (rd t141 x33_2)))) + (IntKind.u64.wrap (rd x7_2 (ji20))))) + x10_2)) % 4294967296)
       go_wp2_with (first | ((with_reducible refine gate_store (t := 52) (p := 59) rfl ?_); refine se 52 59 (w1 := (wr.setCell ⟨go23, ((ji20) : Int).toNat, none⟩ (.int .u32 ((IntKind.u64.wrap ((IntKind.u64.wrap ((IntKind.u64.wrap ((IntKind.u64.wrap ((rd t138 x26_1))) * (IntKind.u64.wrap (rd t141 x33_2)))) + (IntKind.u64.wrap (rd x7_2 (ji20))))) + x10_2)) % 4294967296)))) ?_; intro w26 hw; have hg : wr.grownBy w26 (some go23) := (by rw [hw]; exact HP25.2); have hp_ : Kd.R (Kd.int .u32) 52 w26 w.heap.size (fun _ => True) (.slice (some ⟨go23, 0, none⟩) x7_2.length co24) y151 := (by rw [hw, Ny151.out]; exact HP25.1); clear HP25; replace HO_6 := Aside0.mk (Kd.V_afterv (v := (.slice (some ⟨go23, 0, none⟩) x7_2.length co24)) (v1 := (.slice (some ⟨go23, 0, none⟩) x7_2.length co24)) (ok := (fun _ => True)) (vm HO_6.out (fun _ hk => ⟨trivial, hk⟩)) hg (.inl rfl)); replace HO_7 := Aside0.mk (hp_); replace HO_24 := Aside0.mk (Kd.V_afterv (v := (.slice (some ⟨go23, 0, none⟩) x7_2.length co24)) (v1 := (.slice (some ⟨go23, 0, none⟩) x7_2.length co24)) (ok := (fun _ => True)) (vm HO_24.out (fun _ hk => ⟨trivial, hk⟩)) hg (.inl rfl)); replace HO_31 := Aside0.mk (Kd.V_afterv (v := (.slice (some ⟨go23, 0, none⟩) x7_2.length co24)) (v1 := (.slice (some ⟨go23, 0, none⟩) x7_2.length co24)) (ok := (fun _ => True)) (vm HO_31.out (fun _ hk => ⟨trivial, hk⟩)) hg (.inl rfl)); replace HB := Aside0.mk ((by rw [hw]; exact below_set (HB.out) GB23.out : Below w.heap.size w w26)); clear hg hw hp_))
       go_roundg k2
       case measure => have := HK1.out; have := HK2.out; omega
       case rel => exact ⟨(y151), ((IntKind.u64.wrap ((IntKind.u64.wrap ((IntKind.u64.wrap ((IntKind.u64.wrap ((rd t138 x26_1))) * (IntKind.u64.wrap (rd t141 x33_2)))) + (IntKind.u64.wrap (rd x7_2 (ji20))))) + x10_2)) / 4294967296), (wrap64 (x33_2 + 1)), (by first | rfl | (simp; done) | (simp only [← hji20] <;> (first | rfl | simp)) | (simp [*]; done)), fs, H', ⟨by have := HK1.out; have := HK2.out; omega⟩, ⟨vm HO_6.out (fun _ hk => hk.2)⟩, ⟨vs HO_7.out⟩, ⟨vm HO_24.out (fun _ hk => hk.2)⟩, ⟨vm HO_31.out (fun _ hk => hk.2)⟩, ⟨bz HB.out⟩⟩
      ·rw [if_neg c17] at H
       have c17b0 : decide (x33_2 < (t141.length : Int)) = false := decide_eq_false c17
       clear c17
       obtain ⟨ji27, hji27⟩ : ∃ j_ : Int, (wrap64 (x26_1 + (t141.length : Int))) = j_ := ⟨_, rfl⟩
       first | rw [hji27] at H | simp only [hji27] at H
       have hji27w : (IntKind.i64.wrap (x26_1 + (t141.length : Int))) = ji27 := (i64_w _).trans hji27
       obtain ⟨c28, H⟩ := iN H
       have c28b0 : decide (0 ≤ (ji27)) = true := decide_eq_true c28
       clear c28
       obtain ⟨c29, H⟩ := iN H
       have c29b0 : decide ((ji27) < (x7_2.length : Int)) = true := decide_eq_true c29
       clear c29
       obtain ⟨y152, hy152⟩ : ∃ y_ : List Int, y_ = (x7_2.set ((ji27) : Int).toNat ((x10_2) % 4294967296)) := ⟨_, rfl⟩
       (try first | rw [← hy152] at H | (dsimp only at H; rw [← hy152] at H)); (try rw [Option.bind_some] at H)
       have Ny152 := Aside0.mk hy152
       clear hy152
       have H' := Aside0.mk H
       clear H
       have p30 : 0 ≤ ((ji27) : Int) := oa
       have q30 : ((ji27) : Int) < ((x7_2.length : Int) : Int) := oa
       obtain ⟨go30, co30, eo30, gb30, gl30, cl30, HG30⟩ := Kd.R_form HO_7.out (by omega)
       (first | cases eo30 | (injection eo30 with ea_ en_ ec_; (first | subst ea_ | (injection ea_ with ea_; subst ea_)); subst ec_; clear en_))
       have GB30 := Aside0.mk gb30
       have GG30 := Aside0.mk HG30
       clear gb30 gl30 HG30
       obtain ⟨hx30_0, hf30_0⟩ := Kd.R_celln 0 HO_7.out ((ji27) : Int) p30 q30
       replace p30 := eq_true p30
       replace q30 := eq_true q30
       have HP31 := Kd.R_putg HO_7.out ((ji27) : Int) ((x10_2) % 4294967296)
       go_wp2_with (first | ((with_reducible refine gate_store (t := 52) (p := 70) rfl ?_); refine se 52 70 (w1 := (wr.setCell ⟨go30, ((ji27) : Int).toNat, none⟩ (.int .u32 ((x10_2) % 4294967296)))) ?_; intro w32 hw; have hg : wr.grownBy w32 (some go30) := (by rw [hw]; exact HP31.2); have hp_ : Kd.R (Kd.int .u32) 52 w32 w.heap.size (fun _ => True) (.slice (some ⟨go30, 0, none⟩) x7_2.length co30) y152 := (by rw [hw, Ny152.out]; exact HP31.1); clear HP31; replace HO_6 := Aside0.mk (Kd.V_afterv (v := (.slice (some ⟨go30, 0, none⟩) x7_2.length co30)) (v1 := (.slice (some ⟨go30, 0, none⟩) x7_2.length co30)) (ok := (fun _ => True)) (vm HO_6.out (fun _ hk => ⟨trivial, hk⟩)) hg (.inl rfl)); replace HO_7 := Aside0.mk (hp_); replace HO_24 := Aside0.mk (Kd.V_afterv (v := (.slice (some ⟨go30, 0, none⟩) x7_2.length co30)) (v1 := (.slice (some ⟨go30, 0, none⟩) x7_2.length co30)) (ok := (fun _ => True)) (vm HO_24.out (fun _ hk => ⟨trivial, hk⟩)) hg (.inl rfl)); replace HO_31 := Aside0.mk (Kd.V_afterv (v := (.slice (some ⟨go30, 0, none⟩) x7_2.length co30)) (v1 := (.slice (some ⟨go30, 0, none⟩) x7_2.length co30)) (ok := (fun _ => True)) (vm HO_31.out (fun _ hk => ⟨trivial, hk⟩)) hg (.inl rfl)); replace HB := Aside0.mk ((by rw [hw]; exact below_set (HB.out) GB30.out : Below w.heap.size w w32)); clear hg hw hp_))
       go_roundg k2
       case measure => have := HK1.out; have := HK2.out; omega
       case rel => exact ⟨(y152), (wrap64 (x26_1 + 1)), fs, H', ⟨by have := HK1.out; have := HK2.out; omega⟩, ⟨vm HO_6.out (fun _ hk => hk.2)⟩, ⟨vs HO_7.out⟩, ⟨vm HO_24.out (fun _ hk => hk.2)⟩, ⟨bz HB.out⟩⟩
   ·rw [if_neg c14] at H
    have c14b0 : decide (x26_1 < (t138.length : Int)) = false := decide_eq_false c14
    clear c14
    obtain ⟨t147, A33, H⟩ := bs1 H
    obtain rfl := Option.some.inj H
    obtain ⟨Ao34, co34, eo34⟩ := Kd.R_slice HO_7.out
    subst eo34
    go_wp2_with (first | ((with_reducible refine gc 111 rfl ?_); refine gl (some 73) Tryz.func111 #[.slice Ao34 x7_1.length co34] ?_; (with_reducible refine (natural_limbs_text.calls k1 _ _ x7_1 t147 _ ?side1 ?side2 A33.out).mono ?_); (case side1 => exact vs (Kd.R_reads' HO_7.out).2.2); (case side2 => exact (Kd.R_reads' HO_7.out).2.1); rintro e w35 ⟨rfl, hb⟩; refine ⟨_, rfl, ?_⟩; replace HO_6 := Aside0.mk (vb HO_6.out hb); replace HO_7 := Aside0.mk (rb HO_7.out hb); replace HO_24 := Aside0.mk (vb HO_24.out hb); replace HB := Aside0.mk (bs HB.out hb); (try clear hb)))
    go_ret
    exact ⟨by first | rfl | (simp [errW_none, errW_some] <;> rfl) | (simp only [← hji5]; first | rfl | (simp [errW_none, errW_some] <;> rfl)) | (simp [*, errW_none, errW_some] <;> rfl), bz HB.out⟩

/-! ### natural_FromUint: function 106 -/
def natural_FromUint.f (k : Nat) (a0 : Int) : Option (ByteArray) := (natural_limbs_text.f k (([(a0) % 4294967296, (a0 / 4294967296) % 4294967296] : List Int))).bind fun t156 => (some t156)
set_option maxHeartbeats 8000000 in
set_option maxRecDepth 100000 in
theorem natural_FromUint.calls (k : Nat) (a0 : Int) (r : ByteArray) (w : World) (h : natural_FromUint.f k a0 = some r) :
  Calls Tryz.prog 106 #[.int .u64 a0] w fun e w' => e = .returned (.string r) ∧ Below w.heap.size w w' := by
 have HB := Aside0.mk (Below.refl w.heap.size w)
 have H := h
 clear h
 unfold natural_FromUint.f at H
 obtain ⟨y153, hy153⟩ : ∃ y_ : List Int, y_ = (([(a0) % 4294967296, (a0 / 4294967296) % 4294967296] : List Int)) := ⟨_, rfl⟩
 (try first | rw [← hy153] at H | (dsimp only at H; rw [← hy153] at H)); (try rw [Option.bind_some] at H)
 have Ny153 := Aside0.mk hy153
 clear hy153
 obtain ⟨t156, A2, H⟩ := bs1 H
 obtain rfl := Option.some.inj H
 go_enter Tryz.func106, Tryz.ntmps106
 go_wp2_with (first | ((with_reducible refine gd 8 rfl ?_); refine Kd.R_lit (Kd.int .u32) _ 52 ?hg (N := 8) ?hd (xs := ([(a0) % 4294967296, (a0 / 4294967296) % 4294967296] : List Int)) (inner := [.int .u32 ((a0) % 4294967296), .int .u32 ((a0 / 4294967296) % 4294967296)]) (ok := fun _ => True) (okp := fun _ => True) ?hr ?hp (fun _ hk => hk) trivial (Below.refl _ _) (Nat.le_refl _) (by simp) ?_; (case hd => rfl); (case hg => rfl); (case hr => first | (go_simp; done) | (go_simp; rfl)); (case hp => exact (Reps.one (show Kd.M (Kd.int .u32) _ _ _ ((a0) % 4294967296) [.int .u32 ((a0) % 4294967296)] from rfl) (Reps.one (show Kd.M (Kd.int .u32) _ _ _ ((a0 / 4294967296) % 4294967296) [.int .u32 ((a0 / 4294967296) % 4294967296)] from rfl) (Reps.none _ _)))); intro v154 w3 ho4 hb hg_ hnew_; clear hg_ hnew_; (first | rw [← Ny153.out] at ho4 | (simp only [Int.reduceToNat] at ho4; rw [← Ny153.out] at ho4)); have HO155 := Aside0.mk (Kd.R_lower ho4 (sz HB.out)); replace HB := Aside0.mk (bs HB.out hb); clear hb ho4; obtain ⟨Ao5, co5, eo5⟩ := Kd.R_slice HO155.out; subst eo5) | ((with_reducible refine gc 111 rfl ?_); refine gl (some 9) Tryz.func111 #[.slice Ao5 y153.length co5] ?_; (with_reducible refine (natural_limbs_text.calls k _ _ y153 t156 _ ?side1 ?side2 A2.out).mono ?_); (case side1 => exact vs (Kd.R_reads' HO155.out).2.2); (case side2 => exact (Kd.R_reads' HO155.out).2.1); rintro e w6 ⟨rfl, hb⟩; refine ⟨_, rfl, ?_⟩; replace HO155 := Aside0.mk (rb HO155.out hb); replace HB := Aside0.mk (bs HB.out hb); (try clear hb)))
 go_ret
 exact ⟨fe, bz HB.out⟩

/-! ### rational_tenTo: function 61 -/
def rational_tenTo.l0 : Nat → ByteArray → ByteArray → Int → Int → Option (ByteArray)
 | 0, _, _, _, _ => none
 | k + 1, x3, x4, x7, x8 => if x8 < x7 then ((natural_Multiply.f k x3 x4).bind fun t159 => (rational_tenTo.l0 k t159 x4 x7 (wrap64 (x8 + 1)))) else (some x3)
def rational_tenTo.f (k : Nat) (a0 : Int) : Option (ByteArray) := (natural_FromUint.f k 1).bind fun t157 => ((natural_FromUint.f k 10).bind fun t158 => (rational_tenTo.l0 k t157 t158 a0 0))
set_option maxHeartbeats 8000000 in
set_option maxRecDepth 100000 in
theorem rational_tenTo.calls (k : Nat) (a0 : Int) (r : ByteArray) (w : World) (h : rational_tenTo.f k a0 = some r) :
  Calls Tryz.prog 61 #[.int .i64 a0] w fun e w' => e = .returned (.string r) ∧ Below w.heap.size w w' := by
 have HB := Aside0.mk (Below.refl w.heap.size w)
 have H := h
 clear h
 unfold rational_tenTo.f at H
 obtain ⟨t157, A2, H⟩ := bs1 H
 obtain ⟨t158, A3, H⟩ := bs1 H
 have H' := Aside0.mk H
 clear H
 go_enter Tryz.func61, Tryz.ntmps61
 go_wp2_with (first | ((with_reducible refine gc 106 rfl ?_); refine gl (some 5) Tryz.func106 #[.int .u64 1] ?_; (with_reducible refine (natural_FromUint.calls k 1 t157 _ A2.out).mono ?_); rintro e w4 ⟨rfl, hb⟩; refine ⟨_, rfl, ?_⟩; replace HB := Aside0.mk (bs HB.out hb); (try clear hb)) | ((with_reducible refine gc 106 rfl ?_); refine gl (some 6) Tryz.func106 #[.int .u64 10] ?_; (with_reducible refine (natural_FromUint.calls k 10 t158 _ A3.out).mono ?_); rintro e w5 ⟨rfl, hb⟩; refine ⟨_, rfl, ?_⟩; replace HB := Aside0.mk (bs HB.out hb); (try clear hb)))
 go_loopg [3, 8] k (fun kq v3 v8 w' => ∃ (x3_1 : ByteArray) (x8_1 : Int), v3 = .string x3_1 ∧ v8 = .int .i64 x8_1 ∧ Aside0 (rational_tenTo.l0 kq x3_1 t158 a0 x8_1 = some r) ∧ Aside0 (kq ≤ k) ∧ Aside0 (Below w.heap.size w w'))
 case atStart => exact ⟨(t157), (0), fs, fs, H', ⟨Nat.le_refl _⟩, ⟨bz HB.out⟩⟩
 case round =>
  clear H'
  obtain ⟨x3_1, x8_1, rfl, rfl, HA, HK1, HB⟩ := hrel
  cases gk with
  | zero => exact absurd HA.out (by simp [rational_tenTo.l0])
  | succ k1 =>
   have H := HA.out
   clear HA
   simp only [rational_tenTo.l0] at H
   by_cases c6 : x8_1 < a0
   ·rw [if_pos c6] at H
    have c6b0 : decide (x8_1 < a0) = true := decide_eq_true c6
    clear c6
    obtain ⟨t159, A7, H⟩ := bs1 H
    have H' := Aside0.mk H
    clear H
    go_wp2_with (first | ((with_reducible refine gc 64 rfl ?_); refine gl (some 12) Tryz.func64 #[.string x3_1, .string t158] ?_; (with_reducible refine (natural_Multiply.calls k1 x3_1 t158 t159 _ A7.out).mono ?_); rintro e w8 ⟨rfl, hb⟩; refine ⟨_, rfl, ?_⟩; replace HB := Aside0.mk (bs HB.out hb); (try clear hb)))
    go_roundg k1
    case measure => have := HK1.out; omega
    case rel => exact ⟨(t159), (wrap64 (x8_1 + 1)), fs, fs, H', ⟨by have := HK1.out; omega⟩, ⟨bz HB.out⟩⟩
   ·rw [if_neg c6] at H
    have c6b0 : decide (x8_1 < a0) = false := decide_eq_false c6
    clear c6
    obtain rfl := Option.some.inj H
    go_wp2
    go_ret
    exact ⟨fe, bz HB.out⟩

/-! ### natural_divideSmall: function 116 -/
def natural_divideSmall.l0 : Nat → List Int → Int → List Int → Int → Int → Option (List Int × Int)
 | 0, _, _, _, _, _ => none
 | k + 1, x0, x1, x6, x7, x8 => if x8 ≥ 0 then (if 0 ≤ x8 then (if x8 < (x0.length : Int) then (if (IntKind.u64.wrap (x1)) = 0 then (none) else (if x8 < (x6.length : Int) then (natural_divideSmall.l0 k x0 x1 (x6.set (x8 : Int).toNat ((IntKind.u64.wrap (Int.tdiv (Go.bits .or .u64 (IntKind.u64.wrap (x7 * 4294967296)) (IntKind.u64.wrap (rd x0 x8))) (IntKind.u64.wrap (x1)))) % 4294967296)) (Int.tmod (Go.bits .or .u64 (IntKind.u64.wrap (x7 * 4294967296)) (IntKind.u64.wrap (rd x0 x8))) (IntKind.u64.wrap (x1))) (wrap64 (x8 - 1))) else (none))) else (none)) else (none)) else ((natural_limbs_trim.f k x6).bind fun t165 => (some (t165, (x7) % 4294967296)))
def natural_divideSmall.f (k : Nat) (l0 : List Int) (a1 : Int) : Option (List Int × Int) := if 0 ≤ (l0.length : Int) then (if ((l0.length : Int) : Int).toNat ≤ 70368744177664 then (natural_divideSmall.l0 k l0 a1 (List.replicate ((l0.length : Int) : Int).toNat 0) 0 (wrap64 ((l0.length : Int) - 1))) else (none)) else (none)
set_option maxHeartbeats 8000000 in
set_option maxRecDepth 100000 in
theorem natural_divideSmall.calls (k : Nat) (A0 : Option Addr) (c0 : Nat) (l0 : List Int) (a1 : Int) (r1 : List Int) (r2 : Int) (w : World) (hr0 : Kd.C (Kd.int .u32) w A0 l0.length l0) (hc0 : l0.length ≤ c0) (h : natural_divideSmall.f k l0 a1 = some (r1, r2)) :
  Calls Tryz.prog 116 #[.slice A0 l0.length c0, .int .u32 a1] w fun e w' => ∃ v0_ : Value, e = .returned (.tuple #[v0_, .int .u32 r2]) ∧ Kd.V (Kd.int .u32) 52 w' w.heap.size (fun k_ => (w.heap.size ≤ k_)) v0_ r1 ∧ Below w.heap.size w w' := by
 have HR0 := Aside0.mk hr0
 have HC0 := Aside0.mk hc0
 clear hr0 hc0
 have HB := Aside0.mk (Below.refl w.heap.size w)
 have H := h
 clear h
 unfold natural_divideSmall.f at H
 obtain ⟨c3, H⟩ := iN H
 have c3b0 := eq_true c3
 have c3b1 : decide (0 ≤ (l0.length : Int)) = true := decide_eq_true c3
 clear c3
 obtain ⟨c4, H⟩ := iN H
 have c4b0 := eq_true c4
 have c4b1 : decide (((l0.length : Int) : Int).toNat ≤ 70368744177664) = true := decide_eq_true c4
 clear c4
 obtain ⟨y160, hy160⟩ : ∃ y_ : List Int, y_ = (List.replicate ((l0.length : Int) : Int).toNat 0) := ⟨_, rfl⟩
 (try first | rw [← hy160] at H | (dsimp only at H; rw [← hy160] at H)); (try rw [Option.bind_some] at H)
 have Ny160 := Aside0.mk hy160
 clear hy160
 have H' := Aside0.mk H
 clear H
 go_enter Tryz.func116, Tryz.ntmps116
 go_wp2_with (first | ((with_reducible refine gd 12 rfl ?_); refine Kd.R_make (Kd.int .u32) _ 52 rfl (N := 12) rfl 88 _ _ rfl (l0.length : Int) rfl rfl Tryz.underlying88 (.int .u32 0) 4 info52 rfl (by decide) (by omega) 0 (ok := fun _ => True) (okp := fun _ => True) rfl (fun _ hk => hk) trivial oa (Nat.le_trans (Nat.mul_le_mul_right _ (oa : (l0.length : Int).toNat ≤ 70368744177664)) (by omega)) (Below.refl _ _) (Nat.le_refl _) ?_; intro v161 w5 ho6 hb hg_ hnew_; clear hg_ hnew_; (first | rw [← Ny160.out] at ho6 | (simp only [Int.reduceToNat] at ho6; rw [← Ny160.out] at ho6)); have HO162 := Aside0.mk (Kd.R_lower (Kd.R_newM (M := fun k_ => (w.heap.size ≤ k_)) ho6 (sz HB.out) (fun k_ h_ => h_)) (sz HB.out)); replace HB := Aside0.mk (bs HB.out hb); clear hb ho6))
 go_loopg [7, 8] k (fun kq v7 v8 w' => ∃ (x6_1 : List Int) (x7_1 : Int) (x8_1 : Int), v7 = .int .u64 x7_1 ∧ v8 = .int .i64 x8_1 ∧ Aside0 (natural_divideSmall.l0 kq l0 a1 x6_1 x7_1 x8_1 = some (r1, r2)) ∧ Aside0 (kq ≤ k) ∧ Aside0 (Kd.R (Kd.int .u32) 52 w' w.heap.size (fun k_ => (w.heap.size ≤ k_)) v161 x6_1) ∧ Aside0 (Below w.heap.size w w'))
 case atStart => exact ⟨(y160), (0), (wrap64 ((l0.length : Int) - 1)), fs, fs, H', ⟨Nat.le_refl _⟩, ⟨rm HO162.out (fun _ hk => hk.1)⟩, ⟨bz HB.out⟩⟩
 case round =>
  clear H'
  (try clear c3b0); (try clear c3b1); (try clear c4b0); (try clear c4b1)
  obtain ⟨x6_1, x7_1, x8_1, rfl, rfl, HA, HK1, HO_6, HB⟩ := hrel
  cases gk with
  | zero => exact absurd HA.out (by simp [natural_divideSmall.l0])
  | succ k1 =>
   have H := HA.out
   clear HA
   simp only [natural_divideSmall.l0] at H
   by_cases c7 : x8_1 ≥ 0
   ·rw [if_pos c7] at H
    have c7b0 : decide (0 ≤ x8_1) = true := decide_eq_true c7
    clear c7
    obtain ⟨c8, H⟩ := iN H
    have c8b0 : decide (0 ≤ x8_1) = true := decide_eq_true c8
    clear c8
    obtain ⟨c9, H⟩ := iN H
    have c9b0 : decide (x8_1 < (l0.length : Int)) = true := decide_eq_true c9
    clear c9
    by_cases c10 : (IntKind.u64.wrap (a1)) = 0
    ·rw [if_pos c10] at H
     exact absurd H (by simp)
    ·rw [if_neg c10] at H
     have c10b0 := beq_eq_false_iff_ne.mpr c10
     have c10b1 := bne_iff_ne.mpr c10
     obtain ⟨c11, H⟩ := iN H
     have c11b0 : decide (x8_1 < (x6_1.length : Int)) = true := decide_eq_true c11
     clear c11
     obtain ⟨y164, hy164⟩ : ∃ y_ : List Int, y_ = (x6_1.set (x8_1 : Int).toNat ((IntKind.u64.wrap (Int.tdiv (Go.bits .or .u64 (IntKind.u64.wrap (x7_1 * 4294967296)) (IntKind.u64.wrap (rd l0 x8_1))) (IntKind.u64.wrap (a1)))) % 4294967296)) := ⟨_, rfl⟩
     (try first | rw [← hy164] at H | (dsimp only at H; rw [← hy164] at H)); (try rw [Option.bind_some] at H)
     have Ny164 := Aside0.mk hy164
     clear hy164
     have H' := Aside0.mk H
     clear H
     have p163 : 0 ≤ (x8_1 : Int) := oa
     have q163 : x8_1 < (l0.length : Int) := oa
     obtain ⟨ad163, e163, hx163_0⟩ := Kd.at_int HR0.out x8_1 p163 q163
     cases e163
     try replace hx163_0 := (HB.out.cell (World.block_lt_of_cell? w _ hx163_0)).trans hx163_0
     replace p163 := eq_true p163
     replace q163 := eq_true q163
     have p12 : 0 ≤ (x8_1 : Int) := oa
     have q12 : (x8_1 : Int) < ((x6_1.length : Int) : Int) := oa
     obtain ⟨go12, co12, eo12, gb12, gl12, cl12, HG12⟩ := Kd.R_form HO_6.out (by omega)
     (first | cases eo12 | (injection eo12 with ea_ en_ ec_; (first | subst ea_ | (injection ea_ with ea_; subst ea_)); subst ec_; clear en_))
     have GB12 := Aside0.mk gb12
     have GG12 := Aside0.mk HG12
     clear gb12 gl12 HG12
     obtain ⟨hx12_0, hf12_0⟩ := Kd.R_celln 0 HO_6.out (x8_1 : Int) p12 q12
     replace p12 := eq_true p12
     replace q12 := eq_true q12
     have HP13 := Kd.R_putg HO_6.out (x8_1 : Int) ((IntKind.u64.wrap (Int.tdiv (Go.bits .or .u64 (IntKind.u64.wrap (x7_1 * 4294967296)) (IntKind.u64.wrap (rd l0 x8_1))) (IntKind.u64.wrap (a1)))) % 4294967296)
     go_wp2_with (first | ((with_reducible refine gate_store (t := 52) (p := 35) rfl ?_); refine se 52 35 (w1 := (wr.setCell ⟨go12, (x8_1 : Int).toNat, none⟩ (.int .u32 ((IntKind.u64.wrap (Int.tdiv (Go.bits .or .u64 (IntKind.u64.wrap (x7_1 * 4294967296)) (IntKind.u64.wrap (rd l0 x8_1))) (IntKind.u64.wrap (a1)))) % 4294967296)))) ?_; intro w14 hw; have hg : wr.grownBy w14 (some go12) := (by rw [hw]; exact HP13.2); have hp_ : Kd.R (Kd.int .u32) 52 w14 w.heap.size (fun k_ => (w.heap.size ≤ k_)) (.slice (some ⟨go12, 0, none⟩) x6_1.length co12) y164 := (by rw [hw, Ny164.out]; exact HP13.1); clear HP13; replace HO_6 := Aside0.mk (hp_); replace HB := Aside0.mk ((by rw [hw]; exact below_set (HB.out) GB12.out : Below w.heap.size w w14)); clear hg hw hp_))
     go_roundg k1
     case measure => have := HK1.out; omega
     case rel => exact ⟨(y164), (Int.tmod (Go.bits .or .u64 (IntKind.u64.wrap (x7_1 * 4294967296)) (IntKind.u64.wrap (rd l0 x8_1))) (IntKind.u64.wrap (a1))), (wrap64 (x8_1 - 1)), fs, fs, H', ⟨by have := HK1.out; omega⟩, ⟨vs HO_6.out⟩, ⟨bz HB.out⟩⟩
   ·rw [if_neg c7] at H
    have c7b0 : decide (0 ≤ x8_1) = false := decide_eq_false c7
    clear c7
    obtain ⟨t165, A15, H⟩ := bs1 H
    simp only [Option.some.injEq, Prod.mk.injEq] at H
    obtain ⟨rfl, rfl⟩ := H
    obtain ⟨Ao16, co16, eo16⟩ := Kd.R_slice HO_6.out
    subst eo16
    go_wp2_with (first | ((with_reducible refine gc 137 rfl ?_); refine gl (some 41) Tryz.func137 #[.slice Ao16 x6_1.length co16] ?_; (with_reducible refine (natural_limbs_trim.calls k1 (fun k_ => some k_ = (.slice Ao16 x6_1.length co16 : Value).ownBlock) _ _ x6_1 t165 _ ?side1 A15.out).mono ?_); (case side1 => exact Kd.R_V (Kd.R_tight rfl (HO_6.out))); rintro e w17 ⟨v166, rfl, ho0, hb⟩; refine ⟨_, rfl, ?_⟩; have HO167 := Aside0.mk (Kd.V_lower (Kd.V_mono (ok' := fun k_ => (w.heap.size ≤ k_)) ho0 (fun k_ hk_ => Or.elim hk_ (fun hs_ => ((HO_6.out).1 k_ hs_.symm)) (fun hn_ => (Nat.le_trans (sz HB.out) hn_)))) (sz HB.out)); replace HO_6 := Aside0.mk (rb HO_6.out hb); replace HB := Aside0.mk (bs HB.out hb); (try clear hb ho0)))
    go_ret2
    exact ⟨_, fe, vs HO167.out, bz HB.out⟩

/-! ### natural_sign: function 132 -/
def natural_sign.f (a0 : Int) : Option (Int) := if a0 < 0 then (some (-1)) else (if a0 > 0 then (some 1) else (some 0))
set_option maxHeartbeats 8000000 in
set_option maxRecDepth 100000 in
theorem natural_sign.calls (a0 : Int) (r : Int) (w : World) (h : natural_sign.f a0 = some r) :
  Calls Tryz.prog 132 #[.int .i64 a0] w fun e w' => e = .returned (.int .i64 r) ∧ Drawn0 w w' := by
 have H := h
 clear h
 unfold natural_sign.f at H
 by_cases c2 : a0 < 0
 ·rw [if_pos c2] at H
  have c2b0 : decide (a0 < 0) = true := decide_eq_true c2
  clear c2
  obtain rfl := Option.some.inj H
  go_enter Tryz.func132, Tryz.ntmps132
  go_wp2
  go_ret
  exact ⟨fs, dz⟩
 ·rw [if_neg c2] at H
  have c2b0 : decide (a0 < 0) = false := decide_eq_false c2
  clear c2
  by_cases c3 : a0 > 0
  ·rw [if_pos c3] at H
   have c3b0 : decide (0 < a0) = true := decide_eq_true c3
   clear c3
   obtain rfl := Option.some.inj H
   go_enter Tryz.func132, Tryz.ntmps132
   go_wp2
   go_ret
   exact ⟨fs, dz⟩
  ·rw [if_neg c3] at H
   have c3b0 : decide (0 < a0) = false := decide_eq_false c3
   clear c3
   obtain rfl := Option.some.inj H
   go_enter Tryz.func132, Tryz.ntmps132
   go_wp2
   go_ret
   exact ⟨fs, dz⟩

/-! ### natural_compare: function 144 -/
def natural_compare.l0 : Nat → List Int → List Int → Int → Option (Int)
 | 0, _, _, _ => none
 | k + 1, x0, x1, x5 => if x5 ≥ 0 then (if 0 ≤ x5 then (if x5 < (x0.length : Int) then (if x5 < (x1.length : Int) then (if (rd x0 x5) = (rd x1 x5) then (natural_compare.l0 k x0 x1 (wrap64 (x5 - 1))) else (if (rd x0 x5) < (rd x1 x5) then (some (-1)) else (some 1))) else (none)) else (none)) else (none)) else (some 0)
def natural_compare.f (k : Nat) (l0 : List Int) (l1 : List Int) : Option (Int) := if (l0.length : Int) = (l1.length : Int) then (natural_compare.l0 k l0 l1 (wrap64 ((l0.length : Int) - 1))) else ((natural_sign.f (wrap64 ((l0.length : Int) - (l1.length : Int)))).bind fun t168 => (some t168))
set_option maxHeartbeats 8000000 in
set_option maxRecDepth 100000 in
theorem natural_compare.calls (k : Nat) (A0 : Option Addr) (c0 : Nat) (l0 : List Int) (A1 : Option Addr) (c1 : Nat) (l1 : List Int) (r : Int) (w : World) (hr0 : Kd.C (Kd.int .u32) w A0 l0.length l0) (hc0 : l0.length ≤ c0) (hr1 : Kd.C (Kd.int .u32) w A1 l1.length l1) (hc1 : l1.length ≤ c1) (h : natural_compare.f k l0 l1 = some r) :
  Calls Tryz.prog 144 #[.slice A0 l0.length c0, .slice A1 l1.length c1] w fun e w' => e = .returned (.int .i64 r) ∧ Drawn0 w w' := by
 have HR0 := Aside0.mk hr0
 have HC0 := Aside0.mk hc0
 clear hr0 hc0
 have HR1 := Aside0.mk hr1
 have HC1 := Aside0.mk hc1
 clear hr1 hc1
 have H := h
 clear h
 unfold natural_compare.f at H
 by_cases c3 : (l0.length : Int) = (l1.length : Int)
 ·rw [if_pos c3] at H
  have c3b0 := beq_iff_eq.mpr c3
  have c3b1 := bne_eq_false_iff_eq.mpr c3
  have c3b2 : (l0.length == l1.length) = true := by first | simpa using c3 | (simp at c3 ⊢; omega)
  clear c3
  have H' := Aside0.mk H
  clear H
  go_enter Tryz.func144, Tryz.ntmps144
  go_wp2
  repeat (go_quiet (fail); try go_wp2)
  go_loopg [5] k (fun kq v5 w' => ∃ (x5_1 : Int), v5 = .int .i64 x5_1 ∧ Aside0 (natural_compare.l0 kq l0 l1 x5_1 = some r) ∧ Aside0 (kq ≤ k) ∧ Drawn0 w w')
  case atStart => exact ⟨(wrap64 ((l0.length : Int) - 1)), fs, H', ⟨Nat.le_refl _⟩, dz⟩
  case round =>
   clear H'
   (try clear c1); (try clear c3b0); (try clear c3b1); (try clear c3b2)
   obtain ⟨x5_1, rfl, HA, HK1, ⟨m1, rfl⟩⟩ := hrel
   cases gk with
   | zero => exact absurd HA.out (by simp [natural_compare.l0])
   | succ k1 =>
    have H := HA.out
    clear HA
    simp only [natural_compare.l0] at H
    by_cases c4 : x5_1 ≥ 0
    ·rw [if_pos c4] at H
     have c4b0 : decide (0 ≤ x5_1) = true := decide_eq_true c4
     clear c4
     obtain ⟨c5, H⟩ := iN H
     have c5b0 : decide (0 ≤ x5_1) = true := decide_eq_true c5
     clear c5
     obtain ⟨c6, H⟩ := iN H
     have c6b0 : decide (x5_1 < (l0.length : Int)) = true := decide_eq_true c6
     clear c6
     obtain ⟨c7, H⟩ := iN H
     have c7b0 : decide (x5_1 < (l1.length : Int)) = true := decide_eq_true c7
     clear c7
     by_cases c8 : (rd l0 x5_1) = (rd l1 x5_1)
     ·rw [if_pos c8] at H
      have c8b0 := beq_iff_eq.mpr c8
      have c8b1 := bne_eq_false_iff_eq.mpr c8
      clear c8
      have H' := Aside0.mk H
      clear H
      have p169 : 0 ≤ (x5_1 : Int) := oa
      have q169 : x5_1 < (l0.length : Int) := oa
      obtain ⟨ad169, e169, hx169_0⟩ := Kd.at_int HR0.out x5_1 p169 q169
      cases e169
      replace p169 := eq_true p169
      replace q169 := eq_true q169
      have p170 : 0 ≤ (x5_1 : Int) := oa
      have q170 : x5_1 < (l1.length : Int) := oa
      obtain ⟨ad170, e170, hx170_0⟩ := Kd.at_int HR1.out x5_1 p170 q170
      cases e170
      replace p170 := eq_true p170
      replace q170 := eq_true q170
      go_wp2
      repeat (go_quiet (fail); try go_wp2)
      go_roundg k1
      case measure => have := HK1.out; omega
      case rel => exact ⟨(wrap64 (x5_1 - 1)), fs, H', ⟨by have := HK1.out; omega⟩, dz⟩
     ·rw [if_neg c8] at H
      have c8b0 := beq_eq_false_iff_ne.mpr c8
      have c8b1 := bne_iff_ne.mpr c8
      by_cases c9 : (rd l0 x5_1) < (rd l1 x5_1)
      ·rw [if_pos c9] at H
       have c9b0 : decide ((rd l0 x5_1) < (rd l1 x5_1)) = true := decide_eq_true c9
       clear c9
       obtain rfl := Option.some.inj H
       have p169 : 0 ≤ (x5_1 : Int) := oa
       have q169 : x5_1 < (l0.length : Int) := oa
       obtain ⟨ad169, e169, hx169_0⟩ := Kd.at_int HR0.out x5_1 p169 q169
       cases e169
       replace p169 := eq_true p169
       replace q169 := eq_true q169
       have p170 : 0 ≤ (x5_1 : Int) := oa
       have q170 : x5_1 < (l1.length : Int) := oa
       obtain ⟨ad170, e170, hx170_0⟩ := Kd.at_int HR1.out x5_1 p170 q170
       cases e170
       replace p170 := eq_true p170
       replace q170 := eq_true q170
       have p171 : 0 ≤ (x5_1 : Int) := oa
       have q171 : x5_1 < (l0.length : Int) := oa
       obtain ⟨ad171, e171, hx171_0⟩ := Kd.at_int HR0.out x5_1 p171 q171
       obtain rfl : ad169 = ad171 := (by injection e171)
       replace p171 := eq_true p171
       replace q171 := eq_true q171
       have p172 : 0 ≤ (x5_1 : Int) := oa
       have q172 : x5_1 < (l1.length : Int) := oa
       obtain ⟨ad172, e172, hx172_0⟩ := Kd.at_int HR1.out x5_1 p172 q172
       obtain rfl : ad170 = ad172 := (by injection e172)
       replace p172 := eq_true p172
       replace q172 := eq_true q172
       go_wp2
       repeat (go_quiet (fail); try go_wp2)
       go_ret
       exact ⟨fs, dz⟩
      ·rw [if_neg c9] at H
       have c9b0 : decide ((rd l0 x5_1) < (rd l1 x5_1)) = false := decide_eq_false c9
       clear c9
       obtain rfl := Option.some.inj H
       have p169 : 0 ≤ (x5_1 : Int) := oa
       have q169 : x5_1 < (l0.length : Int) := oa
       obtain ⟨ad169, e169, hx169_0⟩ := Kd.at_int HR0.out x5_1 p169 q169
       cases e169
       replace p169 := eq_true p169
       replace q169 := eq_true q169
       have p170 : 0 ≤ (x5_1 : Int) := oa
       have q170 : x5_1 < (l1.length : Int) := oa
       obtain ⟨ad170, e170, hx170_0⟩ := Kd.at_int HR1.out x5_1 p170 q170
       cases e170
       replace p170 := eq_true p170
       replace q170 := eq_true q170
       have p171 : 0 ≤ (x5_1 : Int) := oa
       have q171 : x5_1 < (l0.length : Int) := oa
       obtain ⟨ad171, e171, hx171_0⟩ := Kd.at_int HR0.out x5_1 p171 q171
       obtain rfl : ad169 = ad171 := (by injection e171)
       replace p171 := eq_true p171
       replace q171 := eq_true q171
       have p172 : 0 ≤ (x5_1 : Int) := oa
       have q172 : x5_1 < (l1.length : Int) := oa
       obtain ⟨ad172, e172, hx172_0⟩ := Kd.at_int HR1.out x5_1 p172 q172
       obtain rfl : ad170 = ad172 := (by injection e172)
       replace p172 := eq_true p172
       replace q172 := eq_true q172
       go_wp2
       repeat (go_quiet (fail); try go_wp2)
       go_ret
       exact ⟨fs, dz⟩
    ·rw [if_neg c4] at H
     have c4b0 : decide (0 ≤ x5_1) = false := decide_eq_false c4
     clear c4
     obtain rfl := Option.some.inj H
     go_wp2
     repeat (go_quiet (fail); try go_wp2)
     go_ret
     exact ⟨fs, dz⟩
 ·rw [if_neg c3] at H
  have c3b0 := beq_eq_false_iff_ne.mpr c3
  have c3b1 := bne_iff_ne.mpr c3
  have c3b2 : (l0.length == l1.length) = false := by first | simpa using c3 | (simp at c3 ⊢; omega)
  obtain ⟨t168, A10, H⟩ := bs1 H
  obtain rfl := Option.some.inj H
  go_enter Tryz.func144, Tryz.ntmps144
  go_wp2_with (first | (go_at_call 132; (with_reducible refine (natural_sign.calls (wrap64 ((l0.length : Int) - (l1.length : Int))) t168 _ A10.out).mono ?_); rintro e w' ⟨rfl, ⟨nd, rfl⟩⟩; (try exact dw)))
  repeat (go_quiet (first | (go_at_call 132; (with_reducible refine (natural_sign.calls (wrap64 ((l0.length : Int) - (l1.length : Int))) t168 _ A10.out).mono ?_); rintro e w' ⟨rfl, ⟨nd, rfl⟩⟩; (try exact dw))); try go_wp2_with (first | (go_at_call 132; (with_reducible refine (natural_sign.calls (wrap64 ((l0.length : Int) - (l1.length : Int))) t168 _ A10.out).mono ?_); rintro e w' ⟨rfl, ⟨nd, rfl⟩⟩; (try exact dw))))
  go_ret
  exact ⟨fs, dz⟩

-- NOT PRINTED: function 166 (bits_Len32)

/-! ### bits_LeadingZeros32: function 145 (by hand) -/
def bits_LeadingZeros32.f (a0 : Int) : Option (Int) := if 0 ≤ a0 ∧ a0 ≤ 4294967295 then some (32 - (Lib.bitLen a0.toNat : Int)) else none
theorem bits_LeadingZeros32.calls (a0 : Int) (r : Int) (w : World) (h : bits_LeadingZeros32.f a0 = some r) :
  Calls Tryz.prog 145 #[.int .u32 a0] w fun e w' => e = .returned (.int .i64 r) ∧ Drawn0 w w' := by
 unfold bits_LeadingZeros32.f at h
 split at h
 ·rename_i hc
  obtain rfl := Option.some.inj h
  exact (Tryz.bits_LeadingZeros32 a0 w hc.1 hc.2).mono fun e w' ⟨he, hw⟩ => ⟨he, hw ▸ Drawn0.refl _⟩
 ·cases h

/-! ### natural_shift: function 146 -/
def natural_shift.l0 : Nat → Int → Int → List Int → List Int → Int → Int → Option (List Int)
 | 0, _, _, _, _, _, _ => none
 | k + 1, x1, x2, x7, x13, x14, x15 => if x15 < x14 then (if 0 ≤ x15 then (if x15 < (x13.length : Int) then (if 0 ≤ x1 then (if x15 < (x7.length : Int) then ((some (x7.set (x15 : Int).toNat (Go.bits .or .u32 (rd x7 x15) ((shl .u64 (IntKind.u64.wrap (rd x13 x15)) x1) % 4294967296)) : List Int)).bind fun y178 => (if (wrap64 (x15 + 1)) < x2 then (if 0 ≤ (wrap64 (x15 + 1)) then (if (wrap64 (x15 + 1)) < (x7.length : Int) then (natural_shift.l0 k x1 x2 (y178.set ((wrap64 (x15 + 1)) : Int).toNat (Go.bits .or .u32 (rd y178 (wrap64 (x15 + 1))) (((shl .u64 (IntKind.u64.wrap (rd x13 x15)) x1) / 4294967296) % 4294967296))) x13 x14 (wrap64 (x15 + 1))) else (none)) else (none)) else (natural_shift.l0 k x1 x2 y178 x13 x14 (wrap64 (x15 + 1))))) else (none)) else (none)) else (none)) else (none)) else (some x7)
def natural_shift.f (k : Nat) (l0 : List Int) (a1 : Int) (a2 : Int) : Option (List Int) := if 0 ≤ a2 then (if (a2 : Int).toNat ≤ 70368744177664 then (natural_shift.l0 k a1 a2 (List.replicate (a2 : Int).toNat 0) l0 (l0.length : Int) 0) else (none)) else (none)
set_option maxHeartbeats 8000000 in
set_option maxRecDepth 100000 in
theorem natural_shift.calls (k : Nat) (A0 : Option Addr) (c0 : Nat) (l0 : List Int) (a1 : Int) (a2 : Int) (r : List Int) (w : World) (hr0 : Kd.C (Kd.int .u32) w A0 l0.length l0) (hc0 : l0.length ≤ c0) (h : natural_shift.f k l0 a1 a2 = some r) :
  Calls Tryz.prog 146 #[.slice A0 l0.length c0, .int .u64 a1, .int .i64 a2] w fun e w' => ∃ v0_ : Value, e = .returned (v0_) ∧ Kd.R (Kd.int .u32) 52 w' w.heap.size (fun _ => True) v0_ r ∧ Below w.heap.size w w' := by
 have HR0 := Aside0.mk hr0
 have HC0 := Aside0.mk hc0
 clear hr0 hc0
 have HB := Aside0.mk (Below.refl w.heap.size w)
 have H := h
 clear h
 unfold natural_shift.f at H
 obtain ⟨c4, H⟩ := iN H
 have c4b0 := eq_true c4
 have c4b1 : decide (0 ≤ a2) = true := decide_eq_true c4
 clear c4
 obtain ⟨c5, H⟩ := iN H
 have c5b0 := eq_true c5
 have c5b1 : decide ((a2 : Int).toNat ≤ 70368744177664) = true := decide_eq_true c5
 clear c5
 obtain ⟨y173, hy173⟩ : ∃ y_ : List Int, y_ = (List.replicate (a2 : Int).toNat 0) := ⟨_, rfl⟩
 (try first | rw [← hy173] at H | (dsimp only at H; rw [← hy173] at H)); (try rw [Option.bind_some] at H)
 have Ny173 := Aside0.mk hy173
 clear hy173
 have H' := Aside0.mk H
 clear H
 go_enter Tryz.func146, Tryz.ntmps146
 go_wp2_with (first | ((with_reducible refine gd 12 rfl ?_); refine Kd.R_make (Kd.int .u32) _ 52 rfl (N := 12) rfl 88 _ _ rfl a2 rfl rfl Tryz.underlying88 (.int .u32 0) 4 info52 rfl (by decide) (by omega) 0 (ok := fun _ => True) (okp := fun _ => True) rfl (fun _ hk => hk) trivial oa (Nat.le_trans (Nat.mul_le_mul_right _ (oa : a2.toNat ≤ 70368744177664)) (by omega)) (Below.refl _ _) (Nat.le_refl _) ?_; intro v174 w6 ho7 hb hg_ hnew_; clear hg_ hnew_; (first | rw [← Ny173.out] at ho7 | (simp only [Int.reduceToNat] at ho7; rw [← Ny173.out] at ho7)); have HO175 := Aside0.mk (Kd.R_lower ho7 (sz HB.out)); replace HB := Aside0.mk (bs HB.out hb); clear hb ho7))
 go_loopg [15] k (fun kq v15 w' => ∃ (x7_1 : List Int) (x15_1 : Int), v15 = .int .i64 x15_1 ∧ Aside0 (natural_shift.l0 kq a1 a2 x7_1 l0 (l0.length : Int) x15_1 = some r) ∧ Aside0 (kq ≤ k) ∧ Aside0 (Kd.R (Kd.int .u32) 52 w' w.heap.size (fun _ => True) v174 x7_1) ∧ Aside0 (Below w.heap.size w w'))
 case atStart => exact ⟨(y173), (0), fs, H', ⟨Nat.le_refl _⟩, ⟨vs HO175.out⟩, ⟨bz HB.out⟩⟩
 case round =>
  clear H'
  (try clear c4b0); (try clear c4b1); (try clear c5b0); (try clear c5b1)
  obtain ⟨x7_1, x15_1, rfl, HA, HK1, HO_7, HB⟩ := hrel
  cases gk with
  | zero => exact absurd HA.out (by simp [natural_shift.l0])
  | succ k1 =>
   have H := HA.out
   clear HA
   simp only [natural_shift.l0] at H
   by_cases c8 : x15_1 < (l0.length : Int)
   ·rw [if_pos c8] at H
    have c8b0 : decide (x15_1 < (l0.length : Int)) = true := decide_eq_true c8
    clear c8
    obtain ⟨c9, H⟩ := iN H
    have c9b0 : decide (0 ≤ x15_1) = true := decide_eq_true c9
    clear c9
    obtain ⟨c10, H⟩ := iN H
    have c10b0 : decide (x15_1 < (l0.length : Int)) = true := decide_eq_true c10
    clear c10
    obtain ⟨c11, H⟩ := iN H
    have c11b0 := eq_true c11
    have c11b1 : decide (0 ≤ a1) = true := decide_eq_true c11
    clear c11
    obtain ⟨ji12, hji12⟩ : ∃ j_ : Int, (shl .u64 (IntKind.u64.wrap (rd l0 x15_1)) a1) = j_ := ⟨_, rfl⟩
    first | rw [hji12] at H | simp only [hji12] at H
    have hji12_ : (IntKind.u64.wrap ((IntKind.u64.wrap (rd l0 x15_1)) * 2 ^ min a1.toNat 64)) = ji12 := hji12
    have hji12z : a1 ≤ 64 → (IntKind.u64.wrap ((IntKind.u64.wrap (rd l0 x15_1)) * 2 ^ a1.toNat)) = ji12 := shl_small hji12
    obtain ⟨c13, H⟩ := iN H
    have c13b0 : decide (x15_1 < (x7_1.length : Int)) = true := decide_eq_true c13
    clear c13
    obtain ⟨y178, hy178⟩ : ∃ y_ : List Int, y_ = (x7_1.set (x15_1 : Int).toNat (Go.bits .or .u32 (rd x7_1 x15_1) ((ji12) % 4294967296))) := ⟨_, rfl⟩
    (try first | rw [← hy178] at H | (dsimp only at H; rw [← hy178] at H)); (try rw [Option.bind_some] at H)
    have Ny178 := Aside0.mk hy178
    clear hy178
    by_cases c15 : (wrap64 (x15_1 + 1)) < a2
    ·rw [if_pos c15] at H
     have c15b0 : decide ((wrap64 (x15_1 + 1)) < a2) = true := decide_eq_true c15
     clear c15
     obtain ⟨ji16, hji16⟩ : ∃ j_ : Int, (wrap64 (x15_1 + 1)) = j_ := ⟨_, rfl⟩
     first | rw [hji16] at H | simp only [hji16] at H
     (try rw [hji16] at c15b0)
     have hji16w : (IntKind.i64.wrap (x15_1 + 1)) = ji16 := (i64_w _).trans hji16
     obtain ⟨c17, H⟩ := iN H
     have c17b0 : decide (0 ≤ (ji16)) = true := decide_eq_true c17
     clear c17
     obtain ⟨c18, H⟩ := iN H
     have c18b0 : decide ((ji16) < (x7_1.length : Int)) = true := decide_eq_true c18
     clear c18
     obtain ⟨y180, hy180⟩ : ∃ y_ : List Int, y_ = (y178.set ((ji16) : Int).toNat (Go.bits .or .u32 (rd y178 (ji16)) (((ji12) / 4294967296) % 4294967296))) := ⟨_, rfl⟩
     (try first | rw [← hy180] at H | (dsimp only at H; rw [← hy180] at H)); (try rw [Option.bind_some] at H)
     have Ny180 := Aside0.mk hy180
     clear hy180
     have H' := Aside0.mk H
     clear H
     have p176 : 0 ≤ (x15_1 : Int) := oa
     have q176 : x15_1 < (l0.length : Int) := oa
     obtain ⟨ad176, e176, hx176_0⟩ := Kd.at_int HR0.out x15_1 p176 q176
     cases e176
     try replace hx176_0 := (HB.out.cell (World.block_lt_of_cell? w _ hx176_0)).trans hx176_0
     replace p176 := eq_true p176
     replace q176 := eq_true q176
     obtain ⟨Ao20, co20, eo20⟩ := Kd.R_slice HO_7.out
     subst eo20
     have p177 : 0 ≤ (x15_1 : Int) := oa
     have q177 : x15_1 < (x7_1.length : Int) := oa
     obtain ⟨ad177, e177, hx177_0⟩ := Kd.at_int (Kd.R_reads' HO_7.out).2.2 x15_1 p177 q177
     cases e177
     replace p177 := eq_true p177
     replace q177 := eq_true q177
     have p14 : 0 ≤ (x15_1 : Int) := oa
     have q14 : (x15_1 : Int) < ((x7_1.length : Int) : Int) := oa
     obtain ⟨go14, co14, eo14, gb14, gl14, cl14, HG14⟩ := Kd.R_form HO_7.out (by omega)
     (first | cases eo14 | (injection eo14 with ea_ en_ ec_; (first | subst ea_ | (injection ea_ with ea_; subst ea_)); subst ec_; clear en_))
     have GB14 := Aside0.mk gb14
     have GG14 := Aside0.mk HG14
     clear gb14 gl14 HG14
     (first | simp only [add_plain] at hx177_0 | skip)
     obtain ⟨hx14_0, hf14_0⟩ := Kd.R_celln 0 HO_7.out (x15_1 : Int) p14 q14
     replace p14 := eq_true p14
     replace q14 := eq_true q14
     have HP21 := Kd.R_putg HO_7.out (x15_1 : Int) (Go.bits .or .u32 (rd x7_1 x15_1) ((ji12) % 4294967296))
     go_wp2_with (first | ((with_reducible refine gate_store (t := 52) (p := 31) rfl ?_); refine se 52 31 (w1 := (wr.setCell ⟨go14, (x15_1 : Int).toNat, none⟩ (.int .u32 (Go.bits .or .u32 (rd x7_1 x15_1) ((ji12) % 4294967296))))) ?_; intro w22 hw; have hg : wr.grownBy w22 (some go14) := (by rw [hw]; exact HP21.2); have hp_ : Kd.R (Kd.int .u32) 52 w22 w.heap.size (fun _ => True) (.slice (some ⟨go14, 0, none⟩) x7_1.length co20) y178 := (by rw [hw, Ny178.out]; exact HP21.1); clear HP21; replace HO_7 := Aside0.mk (hp_); replace HB := Aside0.mk ((by rw [hw]; exact below_set (HB.out) GB14.out : Below w.heap.size w w22)); clear hg hw hp_; have p179 : 0 ≤ ((ji16) : Int) := oa; have q179 : (ji16) < (y178.length : Int) := (by have h_ : ((ji16) : Int) < ((x7_1.length : Int) : Int) := oa; first | (have e_ := (Kd.R_reads' HO_7.out).1; omega) | simpa only [Ny178.out, List.length_set] using h_); have ql179 : (((ji16) : Int) < ((x7_1.length : Int) : Int)) = True := eq_true oa; obtain ⟨ad179, e179, hx179_0⟩ := Kd.at_int (Kd.R_reads' HO_7.out).2.2 (ji16) p179 q179; obtain rfl : (⟨go14, 0, none⟩ : Addr) = ad179 := (by injection e179); (first | simp only [add_plain] at hx179_0 | simp only [add_at] at hx179_0 | simp only [Addr.add, Nat.zero_add] at hx179_0 | skip); replace p179 := eq_true p179; replace q179 := eq_true q179; have p19 : 0 ≤ ((ji16) : Int) := oa; have q19 : ((ji16) : Int) < ((x7_1.length : Int) : Int) := oa; obtain ⟨hx19_0, hf19_0⟩ := Kd.R_celln 0 HO_7.out ((ji16) : Int) p19 q19; replace p19 := eq_true p19; replace q19 := eq_true q19; obtain ⟨hy23_, hz23_⟩ := Kd.R_celln 0 HO_7.out ((ji16) : Int) oa oa; have HP23 := Kd.R_putg HO_7.out ((ji16) : Int) (Go.bits .or .u32 (rd y178 (ji16)) (((ji12) / 4294967296) % 4294967296))) | ((with_reducible refine gate_store (t := 52) (p := 45) rfl ?_); refine se 52 45 (w1 := (w22.setCell ⟨go14, ((ji16) : Int).toNat, none⟩ (.int .u32 (Go.bits .or .u32 (rd y178 (ji16)) (((ji12) / 4294967296) % 4294967296))))) ?_; intro w24 hw; have hg : w22.grownBy w24 (some go14) := (by rw [hw]; exact HP23.2); have hp_ : Kd.R (Kd.int .u32) 52 w24 w.heap.size (fun _ => True) (.slice (some ⟨go14, 0, none⟩) x7_1.length co20) y180 := (by rw [hw, Ny180.out]; exact HP23.1); clear HP23; replace HO_7 := Aside0.mk (hp_); replace HB := Aside0.mk ((by rw [hw]; exact below_set (HB.out) GB14.out : Below w.heap.size w w24)); clear hg hw hp_))
     go_roundg k1
     case measure => have := HK1.out; omega
     case rel => exact ⟨(y180), (ji16), (by first | rfl | (simp; done) | (simp only [← hji16] <;> (first | rfl | simp)) | (simp [*]; done)), H', ⟨by have := HK1.out; omega⟩, ⟨vs HO_7.out⟩, ⟨bz HB.out⟩⟩
    ·rw [if_neg c15] at H
     have c15b0 : decide ((wrap64 (x15_1 + 1)) < a2) = false := decide_eq_false c15
     clear c15
     have H' := Aside0.mk H
     clear H
     have p176 : 0 ≤ (x15_1 : Int) := oa
     have q176 : x15_1 < (l0.length : Int) := oa
     obtain ⟨ad176, e176, hx176_0⟩ := Kd.at_int HR0.out x15_1 p176 q176
     cases e176
     try replace hx176_0 := (HB.out.cell (World.block_lt_of_cell? w _ hx176_0)).trans hx176_0
     replace p176 := eq_true p176
     replace q176 := eq_true q176
     obtain ⟨Ao25, co25, eo25⟩ := Kd.R_slice HO_7.out
     subst eo25
     have p177 : 0 ≤ (x15_1 : Int) := oa
     have q177 : x15_1 < (x7_1.length : Int) := oa
     obtain ⟨ad177, e177, hx177_0⟩ := Kd.at_int (Kd.R_reads' HO_7.out).2.2 x15_1 p177 q177
     cases e177
     replace p177 := eq_true p177
     replace q177 := eq_true q177
     have p14 : 0 ≤ (x15_1 : Int) := oa
     have q14 : (x15_1 : Int) < ((x7_1.length : Int) : Int) := oa
     obtain ⟨go14, co14, eo14, gb14, gl14, cl14, HG14⟩ := Kd.R_form HO_7.out (by omega)
     (first | cases eo14 | (injection eo14 with ea_ en_ ec_; (first | subst ea_ | (injection ea_ with ea_; subst ea_)); subst ec_; clear en_))
     have GB14 := Aside0.mk gb14
     have GG14 := Aside0.mk HG14
     clear gb14 gl14 HG14
     (first | simp only [add_plain] at hx177_0 | skip)
     obtain ⟨hx14_0, hf14_0⟩ := Kd.R_celln 0 HO_7.out (x15_1 : Int) p14 q14
     replace p14 := eq_true p14
     replace q14 := eq_true q14
     have HP26 := Kd.R_putg HO_7.out (x15_1 : Int) (Go.bits .or .u32 (rd x7_1 x15_1) ((ji12) % 4294967296))
     go_wp2_with (first | ((with_reducible refine gate_store (t := 52) (p := 31) rfl ?_); refine se 52 31 (w1 := (wr.setCell ⟨go14, (x15_1 : Int).toNat, none⟩ (.int .u32 (Go.bits .or .u32 (rd x7_1 x15_1) ((ji12) % 4294967296))))) ?_; intro w27 hw; have hg : wr.grownBy w27 (some go14) := (by rw [hw]; exact HP26.2); have hp_ : Kd.R (Kd.int .u32) 52 w27 w.heap.size (fun _ => True) (.slice (some ⟨go14, 0, none⟩) x7_1.length co25) y178 := (by rw [hw, Ny178.out]; exact HP26.1); clear HP26; replace HO_7 := Aside0.mk (hp_); replace HB := Aside0.mk ((by rw [hw]; exact below_set (HB.out) GB14.out : Below w.heap.size w w27)); clear hg hw hp_))
     go_roundg k1
     case measure => have := HK1.out; omega
     case rel => exact ⟨(y178), (wrap64 (x15_1 + 1)), fs, H', ⟨by have := HK1.out; omega⟩, ⟨vs HO_7.out⟩, ⟨bz HB.out⟩⟩
   ·rw [if_neg c8] at H
    have c8b0 : decide (x15_1 < (l0.length : Int)) = false := decide_eq_false c8
    clear c8
    obtain rfl := Option.some.inj H
    go_wp2
    go_ret
    exact ⟨_, fe, vs HO_7.out, bz HB.out⟩

/-! ### bits_Add32: function 110 -/
def bits_Add32.f (a0 : Int) (a1 : Int) (a2 : Int) : Option (Int × Int) := some ((IntKind.u64.wrap ((IntKind.u64.wrap ((IntKind.u64.wrap (a0)) + (IntKind.u64.wrap (a1)))) + (IntKind.u64.wrap (a2)))) % 4294967296, ((IntKind.u64.wrap ((IntKind.u64.wrap ((IntKind.u64.wrap (a0)) + (IntKind.u64.wrap (a1)))) + (IntKind.u64.wrap (a2)))) / 4294967296) % 4294967296)
set_option maxHeartbeats 8000000 in
set_option maxRecDepth 100000 in
theorem bits_Add32.calls (a0 : Int) (a1 : Int) (a2 : Int) (r1 : Int) (r2 : Int) (w : World) (h : bits_Add32.f a0 a1 a2 = some (r1, r2)) :
  Calls Tryz.prog 110 #[.int .u32 a0, .int .u32 a1, .int .u32 a2] w fun e w' => e = .returned (.tuple #[.int .u32 r1, .int .u32 r2]) ∧ Drawn0 w w' := by
 have H := h
 clear h
 unfold bits_Add32.f at H
 simp only [Option.some.injEq, Prod.mk.injEq] at H
 obtain ⟨rfl, rfl⟩ := H
 go_enter Tryz.func110, Tryz.ntmps110
 go_wp2
 go_ret2
 exact ⟨fs, dz⟩

/-! ### bits_Sub32: function 167 (by hand) -/
def bits_Sub32.f (a0 : Int) (a1 : Int) (a2 : Int) : Option (Int × Int) := some ((a0 - a1 - a2) % 4294967296, (Go.bits .or .u32 (Go.bits .and .u32 (Go.bits .xor .u32 4294967295 a0) a1) (Go.bits .and .u32 (Go.bits .xor .u32 4294967295 (Go.bits .xor .u32 a0 a1)) ((a0 - a1 - a2) % 4294967296))) / 2147483648)
theorem bits_Sub32.calls (a0 : Int) (a1 : Int) (a2 : Int) (r1 : Int) (r2 : Int) (w : World) (h : bits_Sub32.f a0 a1 a2 = some (r1, r2)) :
  Calls Tryz.prog 167 #[.int .u32 a0, .int .u32 a1, .int .u32 a2] w fun e w' => e = .returned (.tuple #[.int .u32 r1, .int .u32 r2]) ∧ Drawn0 w w' := by
 unfold bits_Sub32.f at h
 simp only [Option.some.injEq, Prod.mk.injEq] at h
 obtain ⟨rfl, rfl⟩ := h
 have hs : IntKind.u32.signed = false := rfl
 have hm : IntKind.u32.max = 4294967295 := rfl
 go_enter Tryz.func167, Tryz.ntmps167
 go_wp2
 go_ret2
 have e1 : ((a0 - a1) % 4294967296 - a2) % 4294967296 = (a0 - a1 - a2) % 4294967296 := by omega
 exact ⟨by simp [e1], Drawn0.refl _⟩
end Go.Proofs.YtgepdnoaemeofaaGreatDoor.A
