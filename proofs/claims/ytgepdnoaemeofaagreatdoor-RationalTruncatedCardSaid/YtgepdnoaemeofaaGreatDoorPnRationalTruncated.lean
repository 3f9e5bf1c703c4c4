/- The law's plain function answers true: what the plain functions compute, step by step, and the law. -/
import Derived.Test.YtgepdnoaemeofaaGreatDoorXRationalTruncated5
import Derived.RowKit
import Derived.Laws.BytesArg
import Derived.Laws.BitsLemmas
import Derived.Lib.Strings
import Derived.Lib.ItoaNum
import Derived.KernelRfl
namespace Go.Proofs.YtgepdnoaemeofaaGreatDoor.Pn
open Go.RowKit Go.Proofs.YtgepdnoaemeofaaGreatDoorW.PrintWords Go.Proofs.YtgepdnoaemeofaaGreatDoorW.PrintLast Go.Proofs.YtgepdnoaemeofaaGreatDoorW.PrintMore Go.Proofs.YtgepdnoaemeofaaGreatDoor.A
set_option linter.unusedVariables false
set_option linter.unusedSimpArgs false
set_option linter.unusedSectionVars false
def ev (b : Int) : List Int → Int
 | [] => 0
 | x :: xs => x + b * ev b xs

def Ok (b : Int) (l : List Int) : Prop := ∀ x ∈ l, 0 ≤ x ∧ x < b

theorem ok_nil (b : Int) : Ok b [] := by intro x hx; cases hx
theorem ok_cons {b x : Int} {l : List Int} : Ok b (x :: l) ↔ (0 ≤ x ∧ x < b) ∧ Ok b l := by
 unfold Ok; simp [List.mem_cons]
theorem ok_append {b : Int} {l m : List Int} : Ok b (l ++ m) ↔ Ok b l ∧ Ok b m := by
 unfold Ok; constructor
 ·intro h; exact ⟨fun x hx => h x (List.mem_append.2 (.inl hx)), fun x hx => h x (List.mem_append.2 (.inr hx))⟩
 ·rintro ⟨h1, h2⟩ x hx; rcases List.mem_append.1 hx with h | h
  ·exact h1 x h
  ·exact h2 x h
theorem ok_set {b : Int} {l : List Int} (h : Ok b l) (i : Nat) {v : Int} (h0 : 0 ≤ v) (h1 : v < b) : Ok b (l.set i v) := by
 intro x hx; rcases List.mem_or_eq_of_mem_set hx with h' | rfl
 ·exact h x h'
 ·exact ⟨h0, h1⟩
theorem ok_take {b : Int} {l : List Int} (h : Ok b l) (n : Nat) : Ok b (l.take n) := fun x hx => h x (List.mem_of_mem_take hx)
theorem ok_drop {b : Int} {l : List Int} (h : Ok b l) (n : Nat) : Ok b (l.drop n) := fun x hx => h x (List.mem_of_mem_drop hx)
theorem ok_replicate {b : Int} (hb : 0 < b) (n : Nat) : Ok b (List.replicate n 0) := by
 intro x hx; have := List.eq_of_mem_replicate hx; omega
theorem ok_get {b : Int} {l : List Int} (h : Ok b l) (i : Nat) (hi : i < l.length) : 0 ≤ l.getD i 0 ∧ l.getD i 0 < b := by
 have : l.getD i 0 = l[i] := by simp [List.getD, hi]
 rw [this]; exact h _ (List.getElem_mem hi)
theorem ok_getD {b : Int} (hb : 0 < b) {l : List Int} (h : Ok b l) (i : Nat) : 0 ≤ l.getD i 0 ∧ l.getD i 0 < b := by
 by_cases hi : i < l.length
 ·exact ok_get h i hi
 ·have : l.getD i 0 = 0 := by simp [List.getD, List.getElem?_eq_none (Nat.le_of_not_lt hi)]
  omega

theorem ev_append (b : Int) (l m : List Int) : ev b (l ++ m) = ev b l + b ^ l.length * ev b m := by
 induction l with
 | nil => simp [ev]
 | cons x xs ih => simp only [List.cons_append, ev, ih, List.length_cons, Int.pow_succ]; grind

theorem pow_pos' {b : Int} (hb : 0 < b) (n : Nat) : 0 < b ^ n := Int.pow_pos hb

theorem ev_nonneg {b : Int} (hb : 0 < b) {l : List Int} (h : Ok b l) : 0 ≤ ev b l := by
 induction l with
 | nil => simp [ev]
 | cons x xs ih =>
  have h' := ok_cons.1 h
  have := Int.mul_nonneg (Int.le_of_lt hb) (ih h'.2)
  simp only [ev]; omega

theorem ev_lt {b : Int} (hb : 0 < b) {l : List Int} (h : Ok b l) : ev b l < b ^ l.length := by
 induction l with
 | nil => simp [ev]
 | cons x xs ih =>
  have h' := ok_cons.1 h
  have h2 := ih h'.2
  have : b * ev b xs + b ≤ b * b ^ xs.length := by
   have := Int.mul_le_mul_of_nonneg_left (Int.add_one_le_iff.2 h2) (Int.le_of_lt hb)
   rw [Int.mul_add] at this; omega
  simp only [ev, List.length_cons, Int.pow_succ]
  rw [Int.mul_comm (b ^ xs.length) b]; omega

theorem ev_set (b : Int) (l : List Int) (i : Nat) (v : Int) (hi : i < l.length) :
  ev b (l.set i v) = ev b l + (v - l.getD i 0) * b ^ i := by
 induction l generalizing i with
 | nil => simp at hi
 | cons x xs ih =>
  cases i with
  | zero => simp [ev, List.set]; omega
  | succ i =>
   simp only [List.set_cons_succ, ev, ih i (by simpa using hi), List.getD_cons_succ, Int.pow_succ]; grind

theorem ev_take_succ (b : Int) (l : List Int) (k : Nat) (hk : k < l.length) :
  ev b (l.take (k + 1)) = ev b (l.take k) + l.getD k 0 * b ^ k := by
 rw [List.take_succ_eq_append_getElem hk, ev_append]
 simp [ev, List.length_take, Nat.min_eq_left (Nat.le_of_lt hk), List.getD, hk, Int.mul_comm]

theorem ev_replicate (b : Int) (n : Nat) : ev b (List.replicate n 0) = 0 := by
 induction n with
 | zero => rfl
 | succ n ih => simp [List.replicate_succ, ev, ih]

def Tr (l : List Int) : Prop := l.getLast? ≠ some 0

theorem ev_inj {b : Int} (hb : 0 < b) : ∀ {l m : List Int}, Ok b l → Ok b m → l.length = m.length → ev b l = ev b m → l = m
 | [], [], _, _, _, _ => rfl
 | [], y :: m, _, _, h, _ => by simp at h
 | x :: l, [], _, _, h, _ => by simp at h
 | x :: l, y :: m, hl, hm, hlen, h => by
  have hx := (ok_cons.1 hl).1
  have hy := (ok_cons.1 hm).1
  simp only [ev] at h
  have h1 : x = y := by
   have h2 : (x + b * ev b l) % b = (y + b * ev b m) % b := by rw [h]
   rw [Int.add_mul_emod_self_left, Int.add_mul_emod_self_left] at h2
   rwa [Int.emod_eq_of_lt hx.1 hx.2, Int.emod_eq_of_lt hy.1 hy.2] at h2
  subst h1
  have h3 : b * ev b l = b * ev b m := by omega
  have h4 : ev b l = ev b m := Int.eq_of_mul_eq_mul_left (by omega) h3
  rw [ev_inj hb (ok_cons.1 hl).2 (ok_cons.1 hm).2 (by simpa using hlen) h4]

theorem ev_ge_of_tr {b : Int} (hb : 0 < b) {l : List Int} (hl : Ok b l) (ht : Tr l) (hne : l ≠ []) : b ^ (l.length - 1) ≤ ev b l := by
 obtain ⟨m, x, rfl⟩ : ∃ m x, l = m ++ [x] := ⟨l.dropLast, l.getLast hne, (List.dropLast_concat_getLast hne).symm⟩
 have hx : x ≠ 0 := by intro h; subst h; exact ht (by simp)
 have h1 := (ok_append.1 hl)
 have h2 := (ok_cons.1 h1.2).1
 have h3 := ev_nonneg hb h1.1
 rw [ev_append]; simp only [ev, List.length_append, List.length_singleton, Nat.add_sub_cancel, Int.mul_zero, Int.add_zero]
 have h4 := pow_pos' hb m.length
 have : b ^ m.length * 1 ≤ b ^ m.length * x := Int.mul_le_mul_of_nonneg_left (by omega) (by omega)
 omega

theorem pow_mono {b : Int} (hb : 1 ≤ b) {m n : Nat} (h : m ≤ n) : b ^ m ≤ b ^ n := by
 obtain ⟨d, rfl⟩ : ∃ d, n = m + d := ⟨n - m, by omega⟩
 rw [Int.pow_add]
 have h1 : (1 : Int) ≤ b ^ d := by have := pow_pos' (show 0 < b by omega) d; omega
 have h2 := pow_pos' (show 0 < b by omega) m
 have : b ^ m * 1 ≤ b ^ m * b ^ d := Int.mul_le_mul_of_nonneg_left h1 (by omega)
 omega

theorem len_lt_of_tr {b : Int} (hb : 1 < b) {l m : List Int} (hl : Ok b l) (hm : Ok b m) (htm : Tr m) (h : l.length < m.length) : ev b l < ev b m := by
 have h1 := ev_lt (by omega) hl
 have h2 := ev_ge_of_tr (by omega) hm htm (by intro h'; subst h'; simp at h)
 have h3 := pow_mono (b := b) (by omega) (show l.length ≤ m.length - 1 by omega)
 omega

theorem tr_inj {b : Int} (hb : 1 < b) {l m : List Int} (hl : Ok b l) (hm : Ok b m) (htl : Tr l) (htm : Tr m) (h : ev b l = ev b m) : l = m := by
 rcases Nat.lt_trichotomy l.length m.length with h1 | h1 | h1
 ·have := len_lt_of_tr hb hl hm htm h1; omega
 ·exact ev_inj (by omega) hl hm h1 h
 ·have := len_lt_of_tr hb hm hl htl h1; omega

def dg (b : Nat) (n : Nat) : List Int := if _h : n = 0 ∨ b < 2 then [] else ((n % b : Nat) : Int) :: dg b (n / b)
termination_by n
decreasing_by exact Nat.div_lt_self (by omega) (by omega)

theorem dg_zero (b : Nat) : dg b 0 = [] := by rw [dg]; simp
theorem dg_pos {b n : Nat} (hb : 2 ≤ b) (hn : n ≠ 0) : dg b n = ((n % b : Nat) : Int) :: dg b (n / b) := by
 rw [dg, dif_neg (by omega)]

theorem dg_facts {b : Nat} (hb : 2 ≤ b) : ∀ n : Nat, Ok b (dg b n) ∧ Tr (dg b n) ∧ ev b (dg b n) = n := by
 intro n
 induction n using Nat.strongRecOn with
 | _ n ih =>
  by_cases hn : n = 0
  ·subst hn; rw [dg_zero]; exact ⟨ok_nil _, by simp [Tr], by simp [ev]⟩
  ·obtain ⟨h1, h2, h3⟩ := ih (n / b) (Nat.div_lt_self (by omega) (by omega))
   rw [dg_pos hb hn]
   refine ⟨ok_cons.2 ⟨⟨by omega, by have := Nat.mod_lt n (show 0 < b by omega); omega⟩, h1⟩, ?_, ?_⟩
   ·unfold Tr at *
    cases hd : dg b (n / b) with
    | nil =>
     rw [hd] at h3
     have h4 : n / b = 0 := by simp only [ev] at h3; omega
     have h5 : n % b ≠ 0 := by
      have := Nat.div_add_mod n b; rw [h4] at this; omega
     simp; omega
    | cons y l => rw [List.getLast?_cons_cons, ← hd]; exact h2
   ·simp only [ev, h3]
    have := Nat.div_add_mod n b
    rw [← Int.natCast_mul]; omega

theorem dg_ok {b : Nat} (hb : 2 ≤ b) (n : Nat) : Ok b (dg b n) := (dg_facts hb n).1
theorem dg_tr {b : Nat} (hb : 2 ≤ b) (n : Nat) : Tr (dg b n) := (dg_facts hb n).2.1
theorem dg_ev {b : Nat} (hb : 2 ≤ b) (n : Nat) : ev b (dg b n) = n := (dg_facts hb n).2.2
theorem dg_eq {b : Nat} (hb : 2 ≤ b) {l : List Int} {n : Nat} (hl : Ok b l) (ht : Tr l) (h : ev b l = n) : l = dg b n :=
 tr_inj (by omega) hl (dg_ok hb n) ht (dg_tr hb n) (by rw [h, dg_ev hb])
theorem dg_nil {b n : Nat} (hb : 2 ≤ b) : dg b n = [] ↔ n = 0 := by
 constructor
 ·intro h; have := dg_ev hb n; rw [h] at this; simp only [ev] at this; omega
 ·rintro rfl; exact dg_zero b
theorem natPow_cast (b m : Nat) : ((b : Int)) ^ m = ((b ^ m : Nat) : Int) := by rw [Int.natCast_pow]
theorem dg_len_le {b n m : Nat} (hb : 2 ≤ b) (h : n < b ^ m) : (dg b n).length ≤ m := by
 rcases Nat.lt_or_ge m (dg b n).length with h1 | h1
 ·exfalso
  have h2 := ev_ge_of_tr (b := b) (by omega) (dg_ok hb n) (dg_tr hb n) (by intro h'; rw [h'] at h1; simp at h1)
  have h3 := pow_mono (b := b) (by omega) (show m ≤ (dg b n).length - 1 by omega)
  rw [dg_ev hb, ] at h2
  rw [natPow_cast] at h3
  omega
 ·exact h1
theorem lt_pow_len {b : Nat} (hb : 2 ≤ b) (n : Nat) : n < b ^ (dg b n).length := by
 have h := ev_lt (b := b) (by omega) (dg_ok hb n)
 rw [dg_ev hb, natPow_cast] at h
 omega
def nv (b : Nat) (l : List Int) : Nat := (ev b l).toNat
theorem nv_cast {b : Nat} (hb : 0 < b) {l : List Int} (h : Ok b l) : ((nv b l : Nat) : Int) = ev b l := by
 unfold nv; rw [Int.toNat_of_nonneg (ev_nonneg (by omega) h)]
theorem nv_dg {b : Nat} (hb : 2 ≤ b) (n : Nat) : nv b (dg b n) = n := by unfold nv; rw [dg_ev hb]; omega
def rb (s : ByteArray) : List Int := (bytesOf s).reverse
def sv (s : ByteArray) : Nat := nv 256 (rb s)
def by_ (n : Nat) : ByteArray := strOfNums (dg 256 n).reverse

theorem rb_ok (s : ByteArray) : Ok 256 (rb s) := by
 intro x hx
 unfold rb bytesOf at hx
 rw [List.mem_reverse, List.mem_map] at hx
 obtain ⟨c, _, rfl⟩ := hx
 have := c.toNat_lt
 omega
theorem rb_length (s : ByteArray) : (rb s).length = s.size := by unfold rb; rw [List.length_reverse, bytesOf_length]
theorem sv_cast (s : ByteArray) : ((sv s : Nat) : Int) = ev 256 (rb s) := nv_cast (b := 256) (by omega) (rb_ok s)
theorem bytesOf_strOfNums {l : List Int} (h : Ok 256 l) : bytesOf (strOfNums l) = l := by
 unfold bytesOf
 rw [strOfNums_data, List.map_map]
 have : ∀ x ∈ l, ((fun b : UInt8 => (b.toNat : Int)) ∘ fun n : Int => UInt8.ofNat n.toNat) x = id x := by
  intro x hx
  have := h x hx
  simp only [Function.comp, UInt8.toNat_ofNat', id]
  omega
 rw [List.map_congr_left this, List.map_id]
theorem ok_reverse {b : Int} {l : List Int} (h : Ok b l) : Ok b l.reverse := fun x hx => h x (List.mem_reverse.1 hx)
theorem rb_strOfNums {l : List Int} (h : Ok 256 l) : rb (strOfNums l.reverse) = l := by
 unfold rb; rw [bytesOf_strOfNums (ok_reverse h), List.reverse_reverse]
theorem rb_by (n : Nat) : rb (by_ n) = dg 256 n := rb_strOfNums (dg_ok (b := 256) (by omega) n)
theorem sv_by (n : Nat) : sv (by_ n) = n := by unfold sv; rw [rb_by, nv_dg (by omega)]
theorem bytesOf_inj {s t : ByteArray} (h : bytesOf s = bytesOf t) : s = t := by
 unfold bytesOf at h
 have hi : Function.Injective (fun b : UInt8 => (b.toNat : Int)) := by
  intro a b hab
  have hab' : (a.toNat : Int) = (b.toNat : Int) := hab
  have : a.toNat = b.toNat := by omega
  exact UInt8.toNat_inj.1 this
 have h1 : s.data.toList = t.data.toList := List.map_inj_right hi |>.1 h
 have h2 : s.data = t.data := Array.toList_inj.1 h1
 cases s; cases t; simp at h2; rw [h2]
theorem rb_inj {s t : ByteArray} (h : rb s = rb t) : s = t := bytesOf_inj (List.reverse_inj.1 h)
theorem by_eq {s : ByteArray} {n : Nat} (ht : Tr (rb s)) (h : sv s = n) : s = by_ n := by
 apply rb_inj
 rw [rb_by]
 exact dg_eq (b := 256) (by omega) (rb_ok s) ht (by have := sv_cast s; rw [h] at this; exact this.symm)
theorem by_inj {m n : Nat} (h : by_ m = by_ n) : m = n := by rw [← sv_by m, h, sv_by]
theorem by_size (n : Nat) : (by_ n).size = (dg 256 n).length := by rw [← rb_length, rb_by]
theorem by_size_le {n m : Nat} (h : n < 256 ^ m) : (by_ n).size ≤ m := by rw [by_size]; exact dg_len_le (by omega) h
theorem lt_by_size (n : Nat) : n < 256 ^ (by_ n).size := by rw [by_size]; exact lt_pow_len (by omega) n
theorem sv_lt (s : ByteArray) : sv s < 256 ^ s.size := by
 have h := ev_lt (b := 256) (by omega) (rb_ok s)
 rw [← sv_cast, rb_length] at h
 have : ((256 : Int)) ^ s.size = ((256 ^ s.size : Nat) : Int) := by rw [Int.natCast_pow]; rfl
 omega
theorem by_zero : by_ 0 = ⟨#[]⟩ := by unfold by_; rw [dg_zero]; rfl
theorem by_nil {n : Nat} : by_ n = ⟨#[]⟩ ↔ n = 0 := by
 constructor
 ·intro h; apply by_inj; rw [h, by_zero]
 ·rintro rfl; exact by_zero
theorem toList_nil {s : ByteArray} : s.toList = [] ↔ s = ⟨#[]⟩ := by
 constructor
 ·intro h
  apply bytesOf_inj
  rw [Go.Lib.toList_data] at h
  unfold bytesOf; rw [h]
 ·rintro rfl; rw [Go.Lib.toList_data]
theorem by_toList_nil {n : Nat} : (by_ n).toList = [] ↔ n = 0 := by rw [toList_nil, by_nil]
theorem rd_getD (l : List Int) (i : Nat) : rd l (i : Int) = l.getD i 0 := rfl
theorem bt_rb (s : ByteArray) (i : Nat) (hi : i < s.size) : bt s ((s.size - 1 - i : Nat) : Int) = (rb s).getD i 0 := by
 have h : (bytesOf s).length = s.size := bytesOf_length s
 rw [← rd_bytesOf, rd_getD]
 unfold rb
 simp only [List.getD_eq_getElem?_getD]
 rw [List.getElem?_reverse (by omega), h]


theorem w64 {x : Int} (h0 : -9223372036854775808 ≤ x) (h1 : x < 9223372036854775808) : wrap64 x = x := by unfold wrap64; omega
theorem u64w {x : Int} (h0 : 0 ≤ x) (h1 : x < 18446744073709551616) : IntKind.u64.wrap x = x := by
 have : IntKind.u64.wrap x = x % 18446744073709551616 := by simp [IntKind.wrap, IntKind.bits, IntKind.signed]
 rw [this]; omega
theorem u32w {x : Int} (h0 : 0 ≤ x) (h1 : x < 4294967296) : IntKind.u32.wrap x = x := by rw [IntKind.wrap_u32]; omega

abbrev lm (n : Nat) : List Int := dg 4294967296 n
abbrev OkL (l : List Int) : Prop := Ok 4294967296 l
abbrev vl (l : List Int) : Nat := nv 4294967296 l
theorem vl_cast {l : List Int} (h : OkL l) : ((vl l : Nat) : Int) = ev 4294967296 l := nv_cast (b := 4294967296) (by omega) h
theorem lm_ok (n : Nat) : OkL (lm n) := dg_ok (b := 4294967296) (by omega) n
theorem lm_tr (n : Nat) : Tr (lm n) := dg_tr (by omega) n
theorem lm_ev (n : Nat) : ev 4294967296 (lm n) = n := dg_ev (b := 4294967296) (by omega) n
theorem vl_lm (n : Nat) : vl (lm n) = n := nv_dg (by omega) n
theorem lm_eq {l : List Int} {n : Nat} (h : OkL l) (ht : Tr l) (he : ev 4294967296 l = n) : l = lm n := dg_eq (b := 4294967296) (by omega) h ht he
def tz (l : List Int) : Nat → List Int
 | 0 => []
 | n + 1 => if l.getD n 0 = 0 then tz l n else l.take (n + 1)
theorem tz_facts {b : Int} {l : List Int} (h : Ok b l) : ∀ n, n ≤ l.length → Ok b (tz l n) ∧ Tr (tz l n) ∧ ev b (tz l n) = ev b (l.take n) := by
 intro n hn
 induction n with
 | zero => exact ⟨ok_nil _, by simp [tz, Tr], by simp [tz]⟩
 | succ n ih =>
  unfold tz
  by_cases h0 : l.getD n 0 = 0
  ·rw [if_pos h0]
   obtain ⟨h1, h2, h3⟩ := ih (by omega)
   exact ⟨h1, h2, by rw [h3, ev_take_succ _ _ _ (by omega), h0]; simp⟩
  ·rw [if_neg h0]
   refine ⟨ok_take h _, ?_, rfl⟩
   unfold Tr
   rw [List.getLast?_eq_getElem?, List.length_take, Nat.min_eq_left hn, Nat.add_sub_cancel, List.getElem?_take, if_pos (by omega)]
   simp only [List.getD_eq_getElem?_getD, List.getElem?_eq_getElem (show n < l.length by omega), Option.getD_some] at h0
   rw [List.getElem?_eq_getElem (show n < l.length by omega)]
   simpa using h0
theorem tz_lm {l : List Int} (h : OkL l) : tz l l.length = lm (vl l) := by
 obtain ⟨h1, h2, h3⟩ := tz_facts h l.length (Nat.le_refl _)
 exact lm_eq h1 h2 (by rw [h3, List.take_length, vl_cast h])
theorem trim_l0 (l : List Int) (hl : l.length < 4611686018427387904) : ∀ n, n ≤ l.length → Ev (fun k => natural_limbs_trim.l0 k l (n : Int)) (tz l n) := by
 intro n hn
 induction n with
 | zero =>
  refine Ev.step (f := fun _ => some []) (fun k => ?_) (Ev.now _)
  simp only [natural_limbs_trim.l0]
  rw [if_neg (by omega), if_pos (by omega), if_pos (by omega)]; rfl
 | succ n ih =>
  have e : wrap64 (((n + 1 : Nat) : Int) - 1) = (n : Int) := by rw [w64 (by omega) (by omega)]; omega
  unfold tz
  by_cases h0 : l.getD n 0 = 0
  ·rw [if_pos h0]
   refine Ev.step (fun k => ?_) (ih (by omega))
   simp only [natural_limbs_trim.l0]
   rw [if_pos (by omega), e, if_pos (by omega), if_pos (by omega), if_pos (by exact h0)]
  ·rw [if_neg h0]
   refine Ev.step (f := fun _ => some (l.take (n + 1))) (fun k => ?_) (Ev.now _)
   simp only [natural_limbs_trim.l0]
   rw [if_pos (by omega), e, if_pos (by omega), if_pos (by omega), if_neg (by exact h0), if_pos (by omega), if_pos (by omega)]; rfl
theorem trim_ev {l : List Int} (h : OkL l) (hl : l.length < 4611686018427387904) : Ev (fun k => natural_limbs_trim.f k l) (lm (vl l)) := by
 rw [← tz_lm h]; exact trim_l0 l hl l.length (Nat.le_refl _)

theorem wraps_u32 (n : Int) (h₀ : 0 ≤ n) (h₁ : n < 2 ^ 32) : IntKind.u32.wrap n = n := by rw [IntKind.wrap_u32]; omega
theorem wraps_u64 (n : Int) (h₀ : 0 ≤ n) (h₁ : n < 2 ^ 64) : IntKind.u64.wrap n = n := u64w h₀ (by omega)
theorem or_comm' {k : IntKind} {j : Nat} (hj : j ≤ k.bits) (hk : ∀ n : Int, 0 ≤ n → n < 2 ^ j → k.wrap n = n) {x y : Int} (hx : 0 ≤ x) (hx' : x < 2 ^ j) (hy : 0 ≤ y) (hy' : y < 2 ^ j) : Go.bits .or k x y = Go.bits .or k y x := by
 obtain ⟨a, rfl⟩ := Int.eq_ofNat_of_zero_le hx
 obtain ⟨b, rfl⟩ := Int.eq_ofNat_of_zero_le hy
 have ha : a < 2 ^ j := by exact_mod_cast hx'
 have hb : b < 2 ^ j := by exact_mod_cast hy'
 rw [(bits_nat k j hj hk a b ha hb).2, (bits_nat k j hj hk b a hb ha).2, Nat.or_comm]
theorem or32 (i : Nat) {x y : Int} (hx : 0 ≤ x) (hxi : x < 2 ^ i) (hx' : x < 4294967296) (hy : 0 ≤ y) (hyi : y % 2 ^ i = 0) (hy' : y < 4294967296) : Go.bits .or .u32 x y = x + y := by
 rw [or_comm' (j := 32) (by decide) wraps_u32 hx (by omega) hy (by omega), bits_join .u32 32 (by decide) wraps_u32 i y x hy hyi (by omega) hx hxi (by omega), Int.add_comm]
theorem or64 {x y : Int} (hx : 0 ≤ x) (hx' : x < 4294967296) (hy : 0 ≤ y) (hy' : y < 4294967296) : Go.bits .or .u64 (IntKind.u64.wrap ((IntKind.u64.wrap x) * 4294967296)) (IntKind.u64.wrap y) = x * 4294967296 + y := by
 rw [u64w (x := x) hx (by omega), u64w (by omega) (by omega), u64w (x := y) hy (by omega)]
 exact bits_join .u64 64 (by decide) wraps_u64 32 _ _ (by omega) (by omega) (by omega) hy (by omega) (by omega)
theorem or64' {x y : Int} (hx : 0 ≤ x) (hx' : x < 4294967296) (hy : 0 ≤ y) (hy' : y < 4294967296) : Go.bits .or .u64 (IntKind.u64.wrap (x * 4294967296)) (IntKind.u64.wrap y) = x * 4294967296 + y := by
 rw [u64w (by omega) (by omega), u64w (x := y) hy (by omega)]
 exact bits_join .u64 64 (by decide) wraps_u64 32 _ _ (by omega) (by omega) (by omega) hy (by omega) (by omega)

theorem pow_split (q r : Nat) : (4294967296 : Int) ^ q * 256 ^ r = 256 ^ (4 * q + r) := by
 rw [Int.pow_add, Int.pow_mul]; rfl
theorem tdiv4 (i : Nat) : Int.tdiv (i : Int) 4 = ((i / 4 : Nat) : Int) := by rw [Int.tdiv_eq_ediv_of_nonneg (by omega)]; omega
theorem tmod4 (i : Nat) : Int.tmod (i : Int) 4 = ((i % 4 : Nat) : Int) := by rw [Int.tmod_eq_emod_of_nonneg (by omega)]; omega
theorem getD_set (l : List Int) (i j : Nat) (v : Int) (hi : i < l.length) : (l.set i v).getD j 0 = if i = j then v else l.getD j 0 := by
 simp only [List.getD_eq_getElem?_getD, List.getElem?_set]
 by_cases h : i = j
 ·subst h; simp [hi]
 ·simp [h]
theorem getD_out (l : List Int) (j : Nat) (h : l.length ≤ j) : l.getD j 0 = 0 := by
 simp [List.getD_eq_getElem?_getD, List.getElem?_eq_none h]

theorem join_byte {x c : Int} {r : Nat} (hr : r < 4) (hx : 0 ≤ x) (hxr : x < 256 ^ r) (hc : 0 ≤ c) (hc' : c < 256) :
  Go.bits .or .u32 x (shl .u32 (c % 4294967296) (wrap64 (8 * ((r : Nat) : Int)))) = x + c * 256 ^ r := by
 have e1 : wrap64 (8 * ((r : Nat) : Int)) = ((8 * r : Nat) : Int) := by rw [w64 (by omega) (by omega)]; omega
 have e2 : c % 4294967296 = c := by omega
 rw [e1, e2]
 have e3 : shl .u32 c ((8 * r : Nat) : Int) = IntKind.u32.wrap (c * 2 ^ (8 * r)) := by
  unfold shl
  rw [Int.toNat_natCast, show IntKind.u32.bits = 32 from rfl, Nat.min_eq_left (by omega)]
 rw [e3]
 obtain rfl | rfl | rfl | rfl : r = 0 ∨ r = 1 ∨ r = 2 ∨ r = 3 := by omega
 ·simp only [Nat.reduceMul, Int.reducePow] at *
  rw [u32w (by omega) (by omega), or32 0 hx (by omega) (by omega) (by omega) (by omega) (by omega)]
 ·simp only [Nat.reduceMul, Int.reducePow] at *
  rw [u32w (by omega) (by omega), or32 8 hx (by omega) (by omega) (by omega) (by omega) (by omega)]
 ·simp only [Nat.reduceMul, Int.reducePow] at *
  rw [u32w (by omega) (by omega), or32 16 hx (by omega) (by omega) (by omega) (by omega) (by omega)]
 ·simp only [Nat.reduceMul, Int.reducePow] at *
  rw [u32w (by omega) (by omega), or32 24 hx (by omega) (by omega) (by omega) (by omega) (by omega)]

def Few (i : Nat) (l : List Int) : Prop := ∀ j, l.getD j 0 < 256 ^ (min (i - 4 * j) 4)
theorem few_step {i : Nat} {l : List Int} {c : Int} (h : Few i l) (hq : i / 4 < l.length) (hc' : c < 256) : Few (i + 1) (l.set (i / 4) (l.getD (i / 4) 0 + c * 256 ^ (i % 4))) := by
 intro j
 rw [getD_set _ _ _ _ hq]
 by_cases hj : i / 4 = j
 ·rw [if_pos hj]
  subst hj
  have h1 := h (i / 4)
  have e1 : min (i - 4 * (i / 4)) 4 = i % 4 := by omega
  have e2 : min (i + 1 - 4 * (i / 4)) 4 = i % 4 + 1 := by omega
  rw [e1] at h1; rw [e2, Int.pow_succ]
  have h2 : (c + 1) * 256 ^ (i % 4) ≤ 256 * 256 ^ (i % 4) := Int.mul_le_mul_of_nonneg_right (by omega) (Int.le_of_lt (pow_pos' (by omega) _))
  rw [Int.add_mul] at h2
  omega
 ·rw [if_neg hj]
  have h1 := h j
  rcases Nat.lt_or_gt_of_ne hj with h2 | h2
  ·have : min (i + 1 - 4 * j) 4 = min (i - 4 * j) 4 := by omega
   rw [this]; exact h1
  ·have : min (i + 1 - 4 * j) 4 = min (i - 4 * j) 4 := by omega
   rw [this]; exact h1
theorem few_ok {i : Nat} {l : List Int} (h : Few i l) (h0 : ∀ x ∈ l, 0 ≤ x) : OkL l := by
 intro x hx
 obtain ⟨j, hj, rfl⟩ := List.getElem_of_mem hx
 refine ⟨h0 _ hx, ?_⟩
 have h1 := h j
 rw [List.getD_eq_getElem?_getD, List.getElem?_eq_getElem hj, Option.getD_some] at h1
 have h2 := pow_mono (b := 256) (by omega) (show min (i - 4 * j) 4 ≤ 4 by omega)
 have h3 : (256 : Int) ^ 4 = 4294967296 := rfl
 omega

theorem parse_arith (n i d L : Nat) (hs : n ≤ 140737488355328) (hi : i + (d + 1) = n) (hl : L = (n + 3) / 4) :
  i / 4 < L ∧ i < n ∧ wrap64 ((i / 4 : Nat) : Int) = ((i / 4 : Nat) : Int) ∧ wrap64 ((wrap64 ((n : Int) - 1)) - (i : Int)) = ((n - 1 - i : Nat) : Int) ∧ wrap64 ((i : Int) + 1) = ((i + 1 : Nat) : Int) ∧
  0 ≤ wrap64 (8 * ((i % 4 : Nat) : Int)) ∧ (i : Int) < (n : Int) ∧ 0 ≤ ((i / 4 : Nat) : Int) ∧ ((i / 4 : Nat) : Int) < (L : Int) ∧ 0 ≤ ((n - 1 - i : Nat) : Int) ∧ ((n - 1 - i : Nat) : Int) < (n : Int) ∧
  i % 4 < 4 ∧ min (i - 4 * (i / 4)) 4 = i % 4 ∧ 4 * (i / 4) + i % 4 = i ∧ i + 1 + d = n := by
 refine ⟨by omega, by omega, w64 (by omega) (by omega), ?_, ?_, ?_, by omega, by omega, by omega, by omega, by omega, by omega, by omega, by omega, by omega⟩
 ·rw [w64 (x := (n : Int) - 1) (by omega) (by omega), w64 (by omega) (by omega)]; omega
 ·rw [w64 (by omega) (by omega)]; omega
 ·rw [w64 (by omega) (by omega)]; omega
theorem parse_l0 (s : ByteArray) (hs : s.size ≤ 140737488355328) : ∀ (d i : Nat) (out : List Int), i + d = s.size → out.length = (s.size + 3) / 4 → (∀ x ∈ out, 0 ≤ x) → Few i out → ev 4294967296 out = ev 256 ((rb s).take i) →
  Ev (fun k => natural_parse.l0 k s out (s.size : Int) (i : Int)) (lm (sv s)) := by
 intro d
 induction d with
 | zero =>
  intro i out hi hl h0 hf he
  have hok := few_ok hf h0
  have hv : vl out = sv s := by
   have h1 := vl_cast hok
   have h2 := sv_cast s
   rw [he, List.take_of_length_le (by rw [rb_length]; omega)] at h1
   omega
  refine Ev.step (f := fun k => (natural_limbs_trim.f k out).bind fun t => some t) (fun k => ?_) ?_
  ·simp only [natural_parse.l0]; rw [if_neg (by omega)]
  ·exact Ev.bind (by rw [← hv]; exact trim_ev hok (by omega)) (Ev.now _)
 | succ d ih =>
  intro i out hi hl h0 hf he
  obtain ⟨hq, hi2, e1, e2, e4, e5, c1, c2, c3, c4, c5, r4, em, eq4, hi1⟩ := parse_arith s.size i d out.length hs hi hl
  have hi3 : i < (rb s).length := by rw [rb_length]; exact hi2
  have e0 := tdiv4 i
  have e3 := tmod4 i
  have hc := ok_get (rb_ok s) i hi3
  have hf1 := hf (i / 4)
  rw [em] at hf1
  have hx0 : 0 ≤ out.getD (i / 4) 0 := by
   rw [List.getD_eq_getElem?_getD, List.getElem?_eq_getElem hq]; exact h0 _ (List.getElem_mem hq)
  have hjoin := join_byte (x := out.getD (i / 4) 0) (c := (rb s).getD i 0) (r := i % 4) r4 hx0 hf1 hc.1 hc.2
  have hP : 0 ≤ (rb s).getD i 0 * 256 ^ (i % 4) := Int.mul_nonneg hc.1 (Int.le_of_lt (pow_pos' (b := 256) (by decide) (i % 4)))
  refine Ev.step (fun k => ?_) (ih (i + 1) (out.set (i / 4) (out.getD (i / 4) 0 + (rb s).getD i 0 * 256 ^ (i % 4))) hi1 (by rw [List.length_set]; exact hl) ?_ (few_step hf hq hc.2) ?_)
  ·simp only [natural_parse.l0]
   rw [if_pos c1, e0, e1, e2, if_pos c2, if_pos c3, if_pos c4, if_pos c5, e3, if_pos e5, bt_rb s i hi2, Int.toNat_natCast, rd_getD, hjoin, e4]
  ·intro x hx
   rcases List.mem_or_eq_of_mem_set hx with h' | rfl
   ·exact h0 x h'
   ·exact Int.add_nonneg hx0 hP
  ·rw [ev_set _ _ _ _ hq, ev_take_succ _ _ _ hi3, he]
   have : out.getD (i / 4) 0 + (rb s).getD i 0 * 256 ^ (i % 4) - out.getD (i / 4) 0 = (rb s).getD i 0 * 256 ^ (i % 4) := by
    rw [Int.add_comm, Int.add_sub_cancel]
   rw [this, Int.mul_assoc, Int.mul_comm (256 ^ (i % 4)), pow_split, eq4]

theorem parse_ev (s : ByteArray) (hs : s.size ≤ 140737488355328) : Ev (fun k => natural_parse.f k s) (lm (sv s)) := by
 have e : wrap64 (Int.tdiv (wrap64 ((wrap64 ((s.size : Int) + 4)) - 1)) 4) = (((s.size + 3) / 4 : Nat) : Int) := by
  rw [w64 (x := (s.size : Int) + 4) (by omega) (by omega), w64 (x := (s.size : Int) + 4 - 1) (by omega) (by omega), show (s.size : Int) + 4 - 1 = ((s.size + 3 : Nat) : Int) by omega, tdiv4, w64 (by omega) (by omega)]
 refine Ev.congr (f := fun k => natural_parse.l0 k s (List.replicate ((s.size + 3) / 4) 0) (s.size : Int) ((0 : Nat) : Int)) (fun k => ?_) (parse_l0 s hs s.size 0 _ (by omega) (by simp) ?_ ?_ ?_)
 ·unfold natural_parse.f
  rw [e, if_pos (by omega), if_pos (by omega), Int.toNat_natCast]; rfl
 ·intro x hx; rw [List.eq_of_mem_replicate hx]; omega
 ·intro j
  have : (List.replicate ((s.size + 3) / 4) (0 : Int)).getD j 0 = 0 := by
   simp only [List.getD_eq_getElem?_getD, List.getElem?_replicate]; split <;> rfl
  rw [this]; exact pow_pos' (by omega) _
 ·rw [ev_replicate]; simp [ev]


def mkS (l : List UInt8) : ByteArray := ⟨l.toArray⟩
theorem mkS_data (s : ByteArray) : mkS s.data.toList = s := by unfold mkS; simp
theorem mkS_toList (l : List UInt8) : (mkS l).data.toList = l := by unfold mkS; simp
theorem mkS_size (l : List UInt8) : (mkS l).size = l.length := by unfold mkS; simp [ByteArray.size]
theorem size_data (s : ByteArray) : s.size = s.data.toList.length := by rw [Array.length_toList]; rfl
theorem bt_cons (c : UInt8) (l : List UInt8) : bt (mkS (c :: l)) 0 = (c.toNat : Int) := by
 rw [← rd_bytesOf]
 unfold bytesOf
 rw [mkS_toList]
 rfl
theorem extract_cons (c : UInt8) (l : List UInt8) : (mkS (c :: l)).extract 1 (mkS (c :: l)).size = mkS l := by
 apply ByteArray.ext
 simp only [ByteArray.data_extract, mkS, ByteArray.size]
 simp

theorem tlb_ev (c : UInt8) : ∀ l : List UInt8, Ev (fun k => strings_trimLeftByte.l0 k (mkS l) (c.toNat : Int)) (mkS (l.dropWhile (· == c))) := by
 intro l
 induction l with
 | nil =>
  refine Ev.step (f := fun _ => some (mkS [])) (fun k => ?_) (Ev.now _)
  simp only [strings_trimLeftByte.l0]
  rw [if_neg (by simp [mkS_size])]
 | cons x l ih =>
  have hs : ((mkS (x :: l)).size : Int) > 0 := by rw [mkS_size, List.length_cons]; omega
  by_cases hx : x = c
  ·subst hx
   have e : (x :: l).dropWhile (· == x) = l.dropWhile (· == x) := by simp
   rw [e]
   refine Ev.step (fun k => ?_) ih
   simp only [strings_trimLeftByte.l0]
   rw [if_pos hs, if_pos (by omega), if_pos (bt_cons x l), if_pos (by omega), extract_cons]
  ·have e : (x :: l).dropWhile (· == c) = x :: l := by simp [hx]
   rw [e]
   refine Ev.step (f := fun _ => some (mkS (x :: l))) (fun k => ?_) (Ev.now _)
   simp only [strings_trimLeftByte.l0]
   rw [if_pos hs, if_pos (by omega), if_neg]
   rw [bt_cons]
   intro h
   exact hx (UInt8.toNat_inj.1 (by omega))

theorem toList_eq_nil_iff {s : ByteArray} : s.toList = ([] : List UInt8) ↔ s.data.toList = [] := by rw [Go.Lib.toList_data]

theorem trimLeft_ev (s : ByteArray) (c : UInt8) (hc : c.toNat < 128) : Ev (fun k => strings_TrimLeft.f k s ⟨#[c]⟩) (mkS (s.data.toList.dropWhile (· == c))) := by
 unfold strings_TrimLeft.f
 by_cases h : s.toList = ([] : List UInt8)
 ·refine Ev.congr (f := fun k => strings_TrimLeft.j0 k s ⟨#[c]⟩ true) (fun k => by rw [if_pos h]) ?_
  refine Ev.step (f := fun _ => some s) (fun k => by simp only [strings_TrimLeft.j0]; rfl) ?_
  have h' := toList_eq_nil_iff.1 h
  rw [h', List.dropWhile_nil, show mkS [] = s by rw [← h', mkS_data]]
  exact Ev.now _
 ·have e : ((⟨#[c]⟩ : ByteArray).toList == ([] : List UInt8)) = false := by rw [Go.Lib.toList_data]; rfl
  have hb : bt (⟨#[c]⟩ : ByteArray) 0 = (c.toNat : Int) := bt_cons c []
  have hsz : ((⟨#[c]⟩ : ByteArray).size : Int) = 1 := rfl
  refine Ev.congr (f := fun k => strings_TrimLeft.j0 k s ⟨#[c]⟩ false) (fun k => by rw [if_neg h, e]) ?_
  refine Ev.step (f := fun k => strings_TrimLeft.j1 k s ⟨#[c]⟩ true) (fun k => ?_) ?_
  ·simp only [strings_TrimLeft.j0]
   rw [if_neg (by decide), hsz, if_pos rfl, if_pos (by decide), hb, decide_eq_true (by omega)]
  ·refine Ev.step (f := fun k => (strings_trimLeftByte.f k s (bt (⟨#[c]⟩ : ByteArray) 0)).bind fun t => some t) (fun k => ?_) ?_
   ·simp only [strings_TrimLeft.j1]
    rw [if_pos trivial, hsz, if_pos (by decide)]
   ·refine Ev.bind (a := mkS (s.data.toList.dropWhile (· == c))) ?_ (Ev.now _)
    rw [hb]
    have := tlb_ev c s.data.toList
    rw [mkS_data] at this
    exact this

theorem drop_zeros (s : ByteArray) : mkS (s.data.toList.dropWhile (· == 0)) = by_ (sv s) := by
 have h1 : bytesOf (mkS (s.data.toList.dropWhile (· == 0))) = (s.data.toList.dropWhile (· == 0)).map fun b => (b.toNat : Int) := by
  unfold bytesOf; rw [mkS_toList]
 apply by_eq
 ·unfold Tr rb
  rw [h1, List.getLast?_reverse, List.head?_map]
  intro h
  cases hd : (s.data.toList.dropWhile (· == 0)) with
  | nil => rw [hd] at h; simp at h
  | cons x l =>
   rw [hd] at h
   have h2 := List.head?_dropWhile_not (fun b : UInt8 => b == 0) s.data.toList
   rw [hd] at h2
   simp only [List.head?_cons, Option.map_some, Option.some.injEq] at h
   have : x = 0 := UInt8.toNat_inj.1 (by simpa using h)
   subst this
   simp at h2
 ·have h3 : bytesOf s = (s.data.toList.takeWhile (· == 0)).map (fun b => (b.toNat : Int)) ++ (s.data.toList.dropWhile (· == 0)).map fun b => (b.toNat : Int) := by
   unfold bytesOf; rw [← List.map_append, List.takeWhile_append_dropWhile]
  have h4 : (s.data.toList.takeWhile (· == 0)).map (fun b => (b.toNat : Int)) = List.replicate (s.data.toList.takeWhile (· == 0)).length 0 := by
   rw [List.eq_replicate_iff]
   refine ⟨by simp, fun b hb => ?_⟩
   obtain ⟨c, hc, rfl⟩ := List.mem_map.1 hb
   have h5 : (c == 0) = true := List.all_eq_true.1 (List.all_takeWhile (p := fun b : UInt8 => b == 0)) c hc
   have : c = 0 := by simpa using h5
   subst this; rfl
  have e1 := sv_cast s
  have e2 := sv_cast (mkS (s.data.toList.dropWhile (· == 0)))
  unfold rb at e1 e2
  rw [h1] at e2
  rw [h3, h4, List.reverse_append, List.reverse_replicate, ev_append, ev_replicate, Int.mul_zero, Int.add_zero] at e1
  omega
theorem normalize_ev (s : ByteArray) : Ev (fun k => natural_Normalize.f k s) (by_ (sv s)) := by
 unfold natural_Normalize.f
 refine Ev.bind (a := by_ (sv s)) ?_ (Ev.now _)
 rw [← drop_zeros]
 exact trimLeft_ev s 0 (by decide)

def wb (l : List Int) : Nat → List Int
 | 0 => []
 | i + 1 => wb l i ++ [l.getD (i / 4) 0 / 256 ^ (i % 4) % 256]
theorem wb_length (l : List Int) : ∀ i, (wb l i).length = i
 | 0 => rfl
 | i + 1 => by simp [wb, wb_length l i]
theorem wb_ok (l : List Int) : ∀ i, Ok 256 (wb l i)
 | 0 => ok_nil _
 | i + 1 => ok_append.2 ⟨wb_ok l i, ok_cons.2 ⟨⟨Int.emod_nonneg _ (by decide), Int.emod_lt_of_pos _ (by decide)⟩, ok_nil _⟩⟩
theorem four_bytes (x : Int) (h0 : 0 ≤ x) (h1 : x < 4294967296) : x / 1 % 256 + 256 * (x / 256 % 256) + 65536 * (x / 65536 % 256) + 16777216 * (x / 16777216 % 256) = x := by omega
theorem four_sum (E P a b c d : Int) : E + P * a + P * 256 * b + P * 256 * 256 * c + P * 256 * 256 * 256 * d = E + (a + 256 * b + 65536 * c + 16777216 * d) * P := by grind
theorem wb_four (l : List Int) (h : OkL l) : ∀ m, m ≤ l.length → ev 256 (wb l (4 * m)) = ev 4294967296 (l.take m) := by
 intro m hm
 induction m with
 | zero => simp [wb, ev]
 | succ m ih =>
  have hx := ok_get h m (by omega)
  have hb := four_bytes _ hx.1 hx.2
  have d0 : (4 * m) / 4 = m := by omega
  have d1 : (4 * m + 1) / 4 = m := by omega
  have d2 : (4 * m + 2) / 4 = m := by omega
  have d3 : (4 * m + 3) / 4 = m := by omega
  have m0 : (4 * m) % 4 = 0 := by omega
  have m1 : (4 * m + 1) % 4 = 1 := by omega
  have m2 : (4 * m + 2) % 4 = 2 := by omega
  have m3 : (4 * m + 3) % 4 = 3 := by omega
  have hP : (4294967296 : Int) ^ m = 256 ^ (4 * m) := by rw [Int.pow_mul]; rfl
  rw [show 4 * (m + 1) = 4 * m + 3 + 1 by omega]
  simp only [wb, d0, d1, d2, d3, m0, m1, m2, m3, ev_append, List.length_append, wb_length, List.length_singleton, ev, Int.mul_zero, Int.add_zero]
  have p1 : (256 : Int) ^ (4 * m + 1) = 256 ^ (4 * m) * 256 := Int.pow_succ _ _
  have p2 : (256 : Int) ^ (4 * m + 1 + 1) = 256 ^ (4 * m) * 256 * 256 := by rw [Int.pow_succ, p1]
  have p3 : (256 : Int) ^ (4 * m + 1 + 1 + 1) = 256 ^ (4 * m) * 256 * 256 * 256 := by rw [Int.pow_succ, p2]
  rw [ih (by omega), ev_take_succ _ _ _ (by omega), hP, p1, p2, p3]
  have key := four_sum (ev 4294967296 (l.take m)) (256 ^ (4 * m)) (l.getD m 0 / 1 % 256) (l.getD m 0 / 256 % 256) (l.getD m 0 / 65536 % 256) (l.getD m 0 / 16777216 % 256)
  rw [hb] at key
  simp only [Int.reducePow]
  exact key

theorem set_back (n : Nat) (l : List Int) (v : Int) : (List.replicate (n + 1) 0 ++ l).set n v = List.replicate n 0 ++ v :: l := by
 rw [List.replicate_succ', List.append_assoc, List.set_append_right _ _ (by simp)]
 simp
theorem text_arith (n i d : Nat) (hn : n ≤ 17592186044416) (hi : i + (d + 1) = 4 * n) :
  i / 4 < n ∧ wrap64 ((i / 4 : Nat) : Int) = ((i / 4 : Nat) : Int) ∧ wrap64 ((wrap64 (((4 * n : Nat) : Int) - 1)) - (i : Int)) = (d : Int) ∧ wrap64 ((i : Int) + 1) = ((i + 1 : Nat) : Int) ∧
  0 ≤ wrap64 (8 * ((i % 4 : Nat) : Int)) ∧ wrap64 (8 * ((i % 4 : Nat) : Int)) = ((8 * (i % 4) : Nat) : Int) ∧ (i : Int) < ((4 * n : Nat) : Int) ∧ 0 ≤ ((i / 4 : Nat) : Int) ∧ ((i / 4 : Nat) : Int) < (n : Int) ∧ (d : Int) < ((4 * n : Nat) : Int) ∧
  i % 4 < 4 ∧ i + 1 + d = 4 * n ∧ 4 * n - i = d + 1 ∧ 4 * n - (i + 1) = d := by
 refine ⟨by omega, w64 (by omega) (by omega), ?_, ?_, ?_, ?_, by omega, by omega, by omega, by omega, by omega, by omega, by omega, by omega⟩
 ·rw [w64 (x := ((4 * n : Nat) : Int) - 1) (by omega) (by omega), w64 (by omega) (by omega)]; omega
 ·rw [w64 (by omega) (by omega)]; omega
 ·rw [w64 (by omega) (by omega)]; omega
 ·rw [w64 (by omega) (by omega)]; omega
theorem shr_byte (x : Int) (r : Nat) (hr : r < 4) : shr .u32 x ((8 * r : Nat) : Int) = x / 256 ^ r := by
 unfold shr
 rw [Int.toNat_natCast, show IntKind.u32.bits = 32 from rfl, Nat.min_eq_left (by omega), Int.pow_mul]
 rfl
theorem text_l0 (l : List Int) (h : OkL l) (hl : l.length ≤ 17592186044416) : ∀ (d i : Nat), i + d = 4 * l.length →
  Ev (fun k => natural_limbs_text.l0 k l (List.replicate (4 * l.length - i) 0 ++ (wb l i).reverse) ((4 * l.length : Nat) : Int) (i : Int)) (by_ (vl l)) := by
 intro d
 induction d with
 | zero =>
  intro i hi
  obtain rfl : i = 4 * l.length := by omega
  rw [Nat.sub_self, List.replicate_zero, List.nil_append]
  refine Ev.step (f := fun k => (natural_Normalize.f k (strOfNums (wb l (4 * l.length)).reverse)).bind fun t => some t) (fun k => ?_) (Ev.bind (a := by_ (vl l)) ?_ (Ev.now _))
  ·simp only [natural_limbs_text.l0]; rw [if_neg (Int.lt_irrefl _)]
  ·have := normalize_ev (strOfNums (wb l (4 * l.length)).reverse)
   have e : sv (strOfNums (wb l (4 * l.length)).reverse) = vl l := by
    have h1 := sv_cast (strOfNums (wb l (4 * l.length)).reverse)
    have h2 := vl_cast h
    rw [rb_strOfNums (wb_ok l _), wb_four l h _ (Nat.le_refl _), List.take_length] at h1
    omega
   rw [e] at this
   exact this
 | succ d ih =>
  intro i hi
  obtain ⟨c1, e1, e2, e3, c2, e4, c3, c4, c5, c6, r4, hi1, s1, s2⟩ := text_arith l.length i d hl hi
  have hlen : (List.replicate (4 * l.length - i) (0 : Int) ++ (wb l i).reverse).length = 4 * l.length := by
   rw [List.length_append, List.length_replicate, List.length_reverse, wb_length]; omega
  have e0 := tdiv4 i
  have e5 := tmod4 i
  have hs := shr_byte (l.getD (i / 4) 0) (i % 4) r4
  refine Ev.step (fun k => ?_) (ih (i + 1) hi1)
  simp only [natural_limbs_text.l0]
  rw [hlen, if_pos c3, e0, e1, if_pos c4, if_pos c5, e5, if_pos c2, e2, if_pos (Int.natCast_nonneg _), if_pos c6, e3, e4, rd_getD, hs, Int.toNat_natCast, s1, s2, set_back, wb, List.reverse_append]
  rfl
theorem text_ev {l : List Int} (h : OkL l) (hl : l.length ≤ 17592186044416) : Ev (fun k => natural_limbs_text.f k l) (by_ (vl l)) := by
 have e : wrap64 ((l.length : Int) * 4) = ((4 * l.length : Nat) : Int) := by rw [w64 (by omega) (by omega)]; omega
 have h0 := text_l0 l h hl (4 * l.length) 0 (by omega)
 refine Ev.congr (fun k => ?_) h0
 unfold natural_limbs_text.f
 rw [e, if_pos (Int.natCast_nonneg _), if_pos (by omega)]
 simp only [Option.bind_some, Int.toNat_natCast, List.length_replicate, wb, List.reverse_nil, List.append_nil, Nat.sub_zero]
 rfl


structure EqI (a b : Int) : Prop where
 out : a = b

def sg (a b : Int) : Int := if a < b then -1 else if a = b then 0 else 1
theorem sg_add (a b c : Int) : sg (a + c) (b + c) = sg a b := by
 unfold sg
 by_cases h : a < b
 ·rw [if_pos h, if_pos (by omega)]
 ·rw [if_neg h, if_neg (by omega)]
  by_cases h2 : a = b
  ·rw [if_pos h2, if_pos (by omega)]
  ·rw [if_neg h2, if_neg (by omega)]
theorem sg_lt {a b : Int} (h : a < b) : sg a b = -1 := by unfold sg; rw [if_pos h]
theorem sg_gt {a b : Int} (h : b < a) : sg a b = 1 := by unfold sg; rw [if_neg (by omega), if_neg (by omega)]
theorem digit_lt {x y u v P : Int} (hu : u < P) (hv : 0 ≤ v) (h : x < y) (hP : 0 < P) : u + x * P < v + y * P := by
 have : (x + 1) * P ≤ y * P := Int.mul_le_mul_of_nonneg_right (by omega) (by omega)
 rw [Int.add_mul] at this
 omega
theorem take_lt {l : List Int} (h : OkL l) (n : Nat) (hn : n ≤ l.length) : ev 4294967296 (l.take n) < 4294967296 ^ n := by
 have := ev_lt (b := 4294967296) (by omega) (ok_take h n)
 rwa [List.length_take, Nat.min_eq_left hn] at this
theorem take_nonneg {l : List Int} (h : OkL l) (n : Nat) : 0 ≤ ev 4294967296 (l.take n) := ev_nonneg (by omega) (ok_take h n)
theorem cmp_l0 {l m : List Int} (hl : OkL l) (hm : OkL m) (hlen : l.length = m.length) (hb : l.length < 4611686018427387904) : ∀ n : Nat, n ≤ l.length →
  Ev (fun k => natural_compare.l0 k l m ((n : Int) - 1)) (sg (ev 4294967296 (l.take n)) (ev 4294967296 (m.take n))) := by
 intro n hn
 induction n with
 | zero =>
  refine Ev.step (f := fun _ => some 0) (fun k => ?_) (by simp [ev, sg]; exact Ev.now _)
  simp only [natural_compare.l0]; rw [if_neg (by omega)]
 | succ n ih =>
  have e1 : ((n + 1 : Nat) : Int) - 1 = (n : Int) := by omega
  have e2 : wrap64 ((n : Int) - 1) = (n : Int) - 1 := w64 (by omega) (by omega)
  have c1 : (n : Int) < (l.length : Int) := by omega
  have c2 : (n : Int) < (m.length : Int) := by omega
  have hn1 : n < l.length := by omega
  have hn2 : n < m.length := by omega
  have ht1 := ev_take_succ 4294967296 l n hn1
  have ht2 := ev_take_succ 4294967296 m n hn2
  have hP := pow_pos' (b := 4294967296) (by decide) n
  rw [e1]
  by_cases h0 : rd l n = rd m n
  ·have h0' : l.getD n 0 = m.getD n 0 := h0
   rw [ht1, ht2, h0', sg_add]
   refine Ev.step (fun k => ?_) (ih (by omega))
   simp only [natural_compare.l0]
   rw [if_pos (Int.natCast_nonneg n), if_pos (Int.natCast_nonneg n), if_pos c1, if_pos c2, if_pos h0, e2]
  ·by_cases h1 : rd l n < rd m n
   ·have h1' : l.getD n 0 < m.getD n 0 := h1
    rw [ht1, ht2, sg_lt (digit_lt (take_lt hl n (Nat.le_of_lt hn1)) (take_nonneg hm n) h1' hP)]
    refine Ev.step (f := fun _ => some (-1)) (fun k => ?_) (Ev.now _)
    simp only [natural_compare.l0]
    rw [if_pos (Int.natCast_nonneg n), if_pos (Int.natCast_nonneg n), if_pos c1, if_pos c2, if_neg h0, if_pos h1]
   ·have h1' : m.getD n 0 < l.getD n 0 := by
     have a1 : rd l n = l.getD n 0 := rfl
     have a2 : rd m n = m.getD n 0 := rfl
     omega
    rw [ht1, ht2, sg_gt (digit_lt (take_lt hm n (Nat.le_of_lt hn2)) (take_nonneg hl n) h1' hP)]
    refine Ev.step (f := fun _ => some 1) (fun k => ?_) (Ev.now _)
    simp only [natural_compare.l0]
    rw [if_pos (Int.natCast_nonneg n), if_pos (Int.natCast_nonneg n), if_pos c1, if_pos c2, if_neg h0, if_neg h1]
def sgn (a b : Nat) : Int := if a < b then -1 else if a = b then 0 else 1
theorem sg_sgn (a b : Nat) : sg (a : Int) (b : Int) = sgn a b := by
 unfold sg sgn
 by_cases h : a < b
 ·rw [if_pos h, if_pos (by omega)]
 ·rw [if_neg h, if_neg (by omega)]
  by_cases h2 : a = b
  ·rw [if_pos h2, if_pos (by omega)]
  ·rw [if_neg h2, if_neg (by omega)]
theorem lm_len_lt {a b : Nat} (h : (lm a).length < (lm b).length) : a < b := by
 have := len_lt_of_tr (b := 4294967296) (by decide) (lm_ok a) (lm_ok b) (lm_tr b) h
 rw [lm_ev, lm_ev] at this
 omega
theorem sign_f (n : Int) : natural_sign.f n = some (if n < 0 then -1 else if n > 0 then 1 else 0) := by
 unfold natural_sign.f
 by_cases h : n < 0
 ·rw [if_pos h, if_pos h]
 ·rw [if_neg h, if_neg h]
  by_cases h2 : n > 0
  ·rw [if_pos h2, if_pos h2]
  ·rw [if_neg h2, if_neg h2]
theorem compare_ev (a b : Nat) (ha : (lm a).length < 4611686018427387904) (hb : (lm b).length < 4611686018427387904) : Ev (fun k => natural_compare.f k (lm a) (lm b)) (sgn a b) := by
 unfold natural_compare.f
 by_cases h : (lm a).length = (lm b).length
 ·have h' : ((lm a).length : Int) = ((lm b).length : Int) := by omega
  have h1 := cmp_l0 (lm_ok a) (lm_ok b) h ha (lm a).length (Nat.le_refl _)
  rw [List.take_length, List.take_of_length_le (by omega), lm_ev, lm_ev, sg_sgn] at h1
  refine Ev.congr (fun k => ?_) h1
  rw [if_pos h', w64 (by omega) (by omega)]
 ·have h' : ¬ ((lm a).length : Int) = ((lm b).length : Int) := by omega
  have e : wrap64 (((lm a).length : Int) - ((lm b).length : Int)) = ((lm a).length : Int) - ((lm b).length : Int) := w64 (by omega) (by omega)
  have hs : (if wrap64 (((lm a).length : Int) - ((lm b).length : Int)) < 0 then (-1 : Int) else if wrap64 (((lm a).length : Int) - ((lm b).length : Int)) > 0 then 1 else 0) = sgn a b := by
   rw [e]
   rcases Nat.lt_or_gt_of_ne h with h2 | h2
   ·have := lm_len_lt h2
    unfold sgn; rw [if_pos this, if_pos (by omega)]
   ·have := lm_len_lt h2
    unfold sgn; rw [if_neg (by omega), if_pos (by omega), if_neg (by omega), if_neg (by omega)]
  refine Ev.congr (f := fun _ => some (sgn a b)) (fun k => ?_) (Ev.now _)
  rw [if_neg h', sign_f, hs]; rfl

theorem carry_step (P s : Int) : (s % 4294967296) * P + (s / 4294967296) * (P * 4294967296) = s * P := by
 have h := Int.emod_add_mul_ediv s 4294967296
 generalize s % 4294967296 = r at *
 generalize s / 4294967296 = q at *
 rw [← h]; grind
theorem add32_f {a b c : Int} (ha : 0 ≤ a) (ha' : a < 4294967296) (hb : 0 ≤ b) (hb' : b < 4294967296) (hc : 0 ≤ c) (hc' : c ≤ 1) : bits_Add32.f a b c = some ((a + b + c) % 4294967296, (a + b + c) / 4294967296) := by
 unfold bits_Add32.f
 rw [u64w (x := a) ha (by omega), u64w (x := b) hb (by omega), u64w (x := c) hc (by omega), u64w (x := a + b) (by omega) (by omega), u64w (by omega) (by omega)]
 congr 2
 omega
theorem set_zero {l : List Int} {i : Nat} {v : Int} (hi : i < l.length) (h0 : ∀ j, i ≤ j → l.getD j 0 = 0) : ∀ j, i + 1 ≤ j → (l.set i v).getD j 0 = 0 := by
 intro j hj
 rw [getD_set _ _ _ _ hi, if_neg (by omega)]
 exact h0 j (by omega)
theorem add_arith (n i d : Nat) (hn : n ≤ 17592186044416) (hi : i + (d + 1) = n) : (i : Int) < (n : Int) ∧ wrap64 ((i : Int) + 1) = ((i + 1 : Nat) : Int) ∧ i < n ∧ i + 1 + d = n ∧ i < n + 1 ∧ (i : Int) < ((n + 1 : Nat) : Int) := by
 refine ⟨by omega, ?_, by omega, by omega, by omega, by omega⟩
 rw [w64 (by omega) (by omega)]; omega
theorem take_all (y : List Int) (i : Nat) (h : y.length ≤ i) : ev 4294967296 (y.take (i + 1)) = ev 4294967296 (y.take i) := by
 rw [List.take_of_length_le h, List.take_of_length_le (by omega)]
theorem add_l0 {x y : List Int} (hx : OkL x) (hy : OkL y) (hxy : y.length ≤ x.length) (hn : x.length ≤ 17592186044415) : ∀ (d i : Nat) (out : List Int) (c : Int), i + d = x.length → out.length = x.length + 1 → OkL out → (∀ j, i ≤ j → out.getD j 0 = 0) → 0 ≤ c → c ≤ 1 →
  EqI (ev 4294967296 out + c * 4294967296 ^ i) (ev 4294967296 (x.take i) + ev 4294967296 (y.take i)) → Ev (fun k => natural_Add.l0 k x y out c (x.length : Int) (i : Int)) (by_ (vl x + vl y)) := by
 intro d
 induction d with
 | zero =>
  intro i out c hi hl ho hz hc0 hc1 he
  obtain rfl : i = x.length := by omega
  have hlt : x.length < out.length := by omega
  have ho' : OkL (out.set x.length c) := ok_set ho _ hc0 (by omega)
  have hv : vl (out.set x.length c) = vl x + vl y := by
   have h1 := vl_cast ho'
   rw [ev_set _ _ _ _ hlt, hz _ (Nat.le_refl _), Int.sub_zero, he.out, List.take_length, List.take_of_length_le hxy, ← vl_cast hx, ← vl_cast hy] at h1
   clear he hz hi hl
   omega
  have ht := text_ev ho' (by rw [List.length_set]; omega)
  rw [hv] at ht
  refine Ev.step (f := fun k => (natural_limbs_text.f k (out.set x.length c)).bind fun t => some t) (fun k => ?_) (Ev.bind ht (Ev.now _))
  simp only [natural_Add.l0]
  rw [if_neg (Int.lt_irrefl _), if_pos (Int.natCast_nonneg _), if_pos (by omega), Int.toNat_natCast]
 | succ d ih =>
  intro i out c hi hl ho hz hc0 hc1 he
  obtain ⟨c1, e1, hi1, hi2, hi3, c2⟩ := add_arith x.length i d (by omega) hi
  have hlt : i < out.length := by rw [hl]; exact hi3
  have c3 : (i : Int) < (out.length : Int) := by rw [hl]; exact c2
  have hxi := ok_get hx i hi1
  have hz0 := hz i (Nat.le_refl _)
  have key : ∀ yi : Int, 0 ≤ yi → yi < 4294967296 → ev 4294967296 (y.take (i + 1)) = ev 4294967296 (y.take i) + yi * 4294967296 ^ i →
    Ev (fun k => natural_Add.l0 k x y (out.set i ((x.getD i 0 + yi + c) % 4294967296)) ((x.getD i 0 + yi + c) / 4294967296) (x.length : Int) ((i + 1 : Nat) : Int)) (by_ (vl x + vl y)) := by
   intro yi h0 h1 hy'
   refine ih (i + 1) _ _ hi2 (by rw [List.length_set]; exact hl) (ok_set ho _ (Int.emod_nonneg _ (by decide)) (Int.emod_lt_of_pos _ (by decide))) (set_zero hlt hz) (Int.ediv_nonneg (by omega) (by decide)) ?_ ?_
   ·have hxi1 := hxi.1
    have hxi2 := hxi.2
    clear he hz hz0 ih
    omega
   ·constructor
    have hcs := carry_step (4294967296 ^ i) (x.getD i 0 + yi + c)
    rw [ev_set _ _ _ _ hlt, hz0, Int.sub_zero, Int.pow_succ, Int.add_assoc, hcs, ev_take_succ _ _ _ hi1, hy']
    have hd : (x.getD i 0 + yi + c) * (4294967296 : Int) ^ i = x.getD i 0 * 4294967296 ^ i + yi * 4294967296 ^ i + c * 4294967296 ^ i := by rw [Int.add_mul, Int.add_mul]
    rw [hd]
    have he' := he.out
    clear hcs hd he hz hz0 hi hl hi2 hi3 c1 c2 c3 e1
    generalize (4294967296 : Int) ^ i = P at *
    generalize ev 4294967296 out = E at *
    generalize ev 4294967296 (x.take i) = X at *
    generalize ev 4294967296 (y.take i) = Y at *
    generalize x.getD i 0 * P = A
    generalize yi * P = B
    generalize c * P = C at *
    omega
  by_cases hyi : i < y.length
  ·have hyi' := ok_get hy i hyi
   have k1 := key (y.getD i 0) hyi'.1 hyi'.2 (ev_take_succ _ _ _ hyi)
   refine Ev.step (fun k => ?_) k1
   simp only [natural_Add.l0]
   rw [if_pos c1, if_pos (by omega), if_pos (Int.natCast_nonneg i), if_pos c1, rd_getD, rd_getD, add32_f hxi.1 hxi.2 hyi'.1 hyi'.2 hc0 hc1, Option.bind_some, if_pos c3, e1, Int.toNat_natCast]
  ·have k1 := key 0 (by decide) (by decide) (by rw [take_all _ _ (by omega), Int.zero_mul, Int.add_zero])
   refine Ev.step (fun k => ?_) k1
   simp only [natural_Add.l0]
   rw [if_pos c1, if_neg (by omega), if_pos (Int.natCast_nonneg i), if_pos c1, rd_getD, add32_f hxi.1 hxi.2 (by decide) (by decide) hc0 hc1, Option.bind_some, if_pos c3, e1, Int.toNat_natCast]
theorem lm_len {n m : Nat} (h : n < 4294967296 ^ m) : (lm n).length ≤ m := dg_len_le (by omega) h
theorem sv_len (s : ByteArray) (m : Nat) (h : s.size ≤ 4 * m) : (lm (sv s)).length ≤ m := by
 apply lm_len
 refine Nat.lt_of_lt_of_le (sv_lt s) ?_
 rw [show 4294967296 = 256 ^ 4 from rfl, ← Nat.pow_mul]
 exact Nat.pow_le_pow_right (by decide) h
abbrev Lim (s : ByteArray) : Prop := s.size ≤ 1073741824
theorem lim_len {s : ByteArray} (h : Lim s) : (lm (sv s)).length ≤ 268435456 := sv_len s 268435456 h
theorem zeros_getD (n j : Nat) : (List.replicate n (0 : Int)).getD j 0 = 0 := by
 simp only [List.getD_eq_getElem?_getD, List.getElem?_replicate]; split <;> rfl
theorem add_ev {a b : ByteArray} (ha : Lim a) (hb : Lim b) : Ev (fun k => natural_Add.f k a b) (by_ (sv a + sv b)) := by
 have la := lim_len ha
 have lb := lim_len hb
 have main : ∀ m n : Nat, (lm m).length ≤ 268435456 → (lm n).length ≤ (lm m).length → Ev (fun k => natural_Add.l0 k (lm m) (lm n) (List.replicate ((lm m).length + 1) 0) 0 ((lm m).length : Int) ((0 : Nat) : Int)) (by_ (m + n)) := by
  intro m n h1 h2
  have h := add_l0 (lm_ok m) (lm_ok n) h2 (by omega) (lm m).length 0 (List.replicate ((lm m).length + 1) 0) 0 (by omega) (by simp) (ok_replicate (by decide) _) (fun j _ => zeros_getD _ j) (by decide) (by decide) ⟨by rw [ev_replicate]; simp [ev]⟩
  rwa [vl_lm, vl_lm] at h
 unfold natural_Add.f
 refine Ev.bind (parse_ev a (by omega)) (Ev.bind (parse_ev b (by omega)) ?_)
 by_cases h : ((lm (sv a)).length : Int) < ((lm (sv b)).length : Int)
 ·have e : wrap64 (((lm (sv b)).length : Int) + 1) = (((lm (sv b)).length + 1 : Nat) : Int) := by rw [w64 (by omega) (by omega)]; omega
  have := main (sv b) (sv a) lb (by omega)
  rw [Nat.add_comm (sv b) (sv a)] at this
  refine Ev.congr (fun k => ?_) this
  rw [if_pos h, e, if_pos (Int.natCast_nonneg _), if_pos (by omega), Int.toNat_natCast]; rfl
 ·have e : wrap64 (((lm (sv a)).length : Int) + 1) = (((lm (sv a)).length + 1 : Nat) : Int) := by rw [w64 (by omega) (by omega)]; omega
  refine Ev.congr (fun k => ?_) (main (sv a) (sv b) la (by omega))
  rw [if_neg h, e, if_pos (Int.natCast_nonneg _), if_pos (by omega), Int.toNat_natCast]; rfl


theorem mul_bound {u v : Int} (hu : 0 ≤ u) (hu' : u < 4294967296) (hv : 0 ≤ v) (hv' : v < 4294967296) : 0 ≤ u * v ∧ u * v ≤ 18446744065119617025 := by
 refine ⟨Int.mul_nonneg hu hv, ?_⟩
 have h1 : u * v ≤ 4294967295 * v := Int.mul_le_mul_of_nonneg_right (by omega) hv
 omega
theorem mul_acc {u v w c : Int} (hu : 0 ≤ u) (hu' : u < 4294967296) (hv : 0 ≤ v) (hv' : v < 4294967296) (hw : 0 ≤ w) (hw' : w < 4294967296) (hc : 0 ≤ c) (hc' : c < 4294967296) :
  IntKind.u64.wrap ((IntKind.u64.wrap ((IntKind.u64.wrap ((IntKind.u64.wrap u) * (IntKind.u64.wrap v))) + (IntKind.u64.wrap w))) + c) = u * v + w + c ∧ 0 ≤ u * v + w + c ∧ u * v + w + c < 18446744073709551616 := by
 obtain ⟨h0, h1⟩ := mul_bound hu hu' hv hv'
 generalize hp : u * v = p at *
 rw [u64w (x := u) hu (by omega), u64w (x := v) hv (by omega), hp, u64w (x := p) h0 (by omega), u64w (x := w) hw (by omega), u64w (x := p + w) (by omega) (by omega), u64w (by omega) (by omega)]
 exact ⟨rfl, by omega, by omega⟩
theorem div_lt_b {t : Int} (h0 : 0 ≤ t) (h1 : t < 18446744073709551616) : 0 ≤ t / 4294967296 ∧ t / 4294967296 < 4294967296 := by omega
theorem mod_ok (t : Int) : 0 ≤ t % 4294967296 ∧ t % 4294967296 < 4294967296 := by omega
theorem mul_arith (i j d n N : Nat) (hN : N ≤ 17592186044416) (hj : j + (d + 1) = n) (hi : i + n < N) : (j : Int) < (n : Int) ∧ wrap64 ((j : Int) + 1) = ((j + 1 : Nat) : Int) ∧ j < n ∧ j + 1 + d = n ∧ wrap64 ((i : Int) + (j : Int)) = ((i + j : Nat) : Int) ∧ i + j < N ∧ ((i + j : Nat) : Int) < (N : Int) := by
 refine ⟨by omega, ?_, by omega, by omega, ?_, by omega, by omega⟩
 ·rw [w64 (by omega) (by omega)]; omega
 ·rw [w64 (by omega) (by omega)]; omega
theorem mul_step_eq {E0 Eo U V Y w c P Q : Int} (he : Eo + c * Q = E0 + U * Y * P) (t : Int) (ht : t = U * V + w + c) (Z : Int) (hQ : Q = P * Z) :
  Eo + (t % 4294967296 - w) * Q + t / 4294967296 * (Q * 4294967296) = E0 + U * (Y + V * Z) * P := by
 have h := carry_step Q t
 have h2 : (t % 4294967296 - w) * Q = (t % 4294967296) * Q - w * Q := Int.sub_mul _ _ _
 rw [h2]
 have h3 : Eo + (t % 4294967296 * Q - w * Q) + t / 4294967296 * (Q * 4294967296) = Eo + (t % 4294967296 * Q + t / 4294967296 * (Q * 4294967296)) - w * Q := by
  generalize t % 4294967296 * Q = a
  generalize t / 4294967296 * (Q * 4294967296) = b
  generalize w * Q = e
  omega
 rw [h3, h, ht]
 have h4 : Eo = E0 + U * Y * P - c * Q := by rw [← he]; generalize c * Q = e; omega
 rw [h4, hQ]
 grind

theorem mul_l1 {x y : List Int} (hy : OkL y) (i : Nat) (u : Int) (hu : 0 ≤ u) (hu' : u < 4294967296) (xl : Int) (N : Nat) (hN : N ≤ 17592186044416) (hiN : i + y.length < N) (E0 : Int) (R : ByteArray)
  (cont : ∀ out' : List Int, out'.length = N → OkL out' → EqI (ev 4294967296 out') (E0 + u * ev 4294967296 y * 4294967296 ^ i) → (∀ j, i + y.length + 1 ≤ j → out'.getD j 0 = 0) → Ev (fun k => natural_Multiply.l0 k y out' x xl (wrap64 ((i : Int) + 1))) R) :
  ∀ (d j : Nat) (out : List Int) (c : Int), j + d = y.length → out.length = N → OkL out → (∀ j, i + y.length ≤ j → out.getD j 0 = 0) → 0 ≤ c → c < 4294967296 → EqI (ev 4294967296 out + c * 4294967296 ^ (i + j)) (E0 + u * ev 4294967296 (y.take j) * 4294967296 ^ i) →
   Ev (fun k => natural_Multiply.l1 k y out (i : Int) u c x xl (i : Int) y (y.length : Int) (j : Int)) R := by
 intro d
 induction d with
 | zero =>
  intro j out c hj hl ho hz hc0 hc1 he
  obtain rfl : j = y.length := by omega
  have hlt : i + y.length < out.length := by rw [hl]; exact hiN
  have e1 : wrap64 ((i : Int) + (y.length : Int)) = ((i + y.length : Nat) : Int) := by rw [w64 (by omega) (by omega)]; omega
  have e2 : c % 4294967296 = c := Int.emod_eq_of_lt hc0 hc1
  have hz0 := hz (i + y.length) (Nat.le_refl _)
  refine Ev.step (fun k => ?_) (cont (out.set (i + y.length) c) (by rw [List.length_set]; exact hl) (ok_set ho _ hc0 hc1) ⟨?_⟩ (set_zero hlt hz))
  ·simp only [natural_Multiply.l1]
   rw [if_neg (Int.lt_irrefl _), e1, if_pos (Int.natCast_nonneg _), if_pos (by omega), Int.toNat_natCast, e2]
  ·rw [ev_set _ _ _ _ hlt, hz0, Int.sub_zero, he.out, List.take_length]
 | succ d ih =>
  intro j out c hj hl ho hz hc0 hc1 he
  obtain ⟨c1, e1, hj1, hj2, e2, hij, c2⟩ := mul_arith i j d y.length N hN hj hiN
  have hlt : i + j < out.length := by rw [hl]; exact hij
  have c3 : ((i + j : Nat) : Int) < (out.length : Int) := by rw [hl]; exact c2
  have hv := ok_get hy j hj1
  have hw := ok_get ho (i + j) hlt
  obtain ⟨e3, t0, t1⟩ := mul_acc hu hu' hv.1 hv.2 hw.1 hw.2 hc0 hc1
  have hd := div_lt_b t0 t1
  have hm := mod_ok (u * y.getD j 0 + out.getD (i + j) 0 + c)
  refine Ev.step (fun k => ?_) (ih (j + 1) (out.set (i + j) ((u * y.getD j 0 + out.getD (i + j) 0 + c) % 4294967296)) ((u * y.getD j 0 + out.getD (i + j) 0 + c) / 4294967296) hj2 (by rw [List.length_set]; exact hl) (ok_set ho _ hm.1 hm.2) ?_ hd.1 hd.2 ⟨?_⟩)
  ·simp only [natural_Multiply.l1]
   rw [if_pos c1, if_pos (Int.natCast_nonneg j), if_pos c1, e2, if_pos (Int.natCast_nonneg _), if_pos c3, rd_getD, rd_getD, e3, e1, Int.toNat_natCast]
  ·intro q hq
   rw [getD_set _ _ _ _ hlt, if_neg (by omega)]
   exact hz q hq
  ·rw [ev_set _ _ _ _ hlt, ev_take_succ _ _ _ hj1, show i + (j + 1) = i + j + 1 from rfl, Int.pow_succ]
   exact mul_step_eq he.out _ rfl _ (Int.pow_add _ _ _)

theorem mul_l0 {x y : List Int} (hx : OkL x) (hy : OkL y) (N : Nat) (hN : N ≤ 17592186044416) (hxy : x.length + y.length = N) : ∀ (d i : Nat) (out : List Int), i + d = x.length → out.length = N → OkL out → (∀ j, i + y.length ≤ j → out.getD j 0 = 0) → EqI (ev 4294967296 out) (ev 4294967296 (x.take i) * ev 4294967296 y) →
  Ev (fun k => natural_Multiply.l0 k y out x (x.length : Int) (i : Int)) (by_ (vl x * vl y)) := by
 intro d
 induction d with
 | zero =>
  intro i out hi hl ho hz he
  obtain rfl : i = x.length := by omega
  have hv : vl out = vl x * vl y := by
   have h1 := vl_cast ho
   rw [he.out, List.take_length, ← vl_cast hx, ← vl_cast hy, ← Int.natCast_mul] at h1
   exact Int.ofNat_inj.1 h1
  have ht := text_ev ho (by rw [hl]; exact hN)
  rw [hv] at ht
  refine Ev.step (f := fun k => (natural_limbs_text.f k out).bind fun t => some t) (fun k => ?_) (Ev.bind ht (Ev.now _))
  simp only [natural_Multiply.l0]
  rw [if_neg (Int.lt_irrefl _)]
 | succ d ih =>
  intro i out hi hl ho hz he
  obtain ⟨c1, e1, hi1, hi2, _, _⟩ := add_arith x.length i d (by omega) hi
  have hu := ok_get hx i hi1
  refine Ev.step (fun k => ?_) (mul_l1 (x := x) hy i (x.getD i 0) hu.1 hu.2 (x.length : Int) N hN (by omega) (ev 4294967296 out) (by_ (vl x * vl y)) ?_ y.length 0 out 0 (by omega) hl ho hz (by decide) (by decide) ⟨by simp [ev]⟩)
  ·simp only [natural_Multiply.l0]
   rw [if_pos c1, if_pos (Int.natCast_nonneg i), if_pos c1, rd_getD]
   rfl
  ·intro out' hl' ho' he' hz'
   rw [e1]
   refine ih (i + 1) out' hi2 hl' ho' (fun j hj => hz' j (by omega)) ⟨?_⟩
   rw [he'.out, he.out, ev_take_succ _ _ _ hi1]
   grind
theorem mul_ev {a b : ByteArray} (ha : Lim a) (hb : Lim b) : Ev (fun k => natural_Multiply.f k a b) (by_ (sv a * sv b)) := by
 have la := lim_len ha
 have lb := lim_len hb
 have e : wrap64 (((lm (sv a)).length : Int) + ((lm (sv b)).length : Int)) = (((lm (sv a)).length + (lm (sv b)).length : Nat) : Int) := by rw [w64 (by omega) (by omega)]; omega
 have h := mul_l0 (lm_ok (sv a)) (lm_ok (sv b)) ((lm (sv a)).length + (lm (sv b)).length) (by omega) rfl (lm (sv a)).length 0 (List.replicate ((lm (sv a)).length + (lm (sv b)).length) 0) (by omega) (by simp) (ok_replicate (by decide) _) (fun j _ => zeros_getD _ j) ⟨by rw [ev_replicate]; simp [ev]⟩
 rw [vl_lm, vl_lm] at h
 unfold natural_Multiply.f
 refine Ev.bind (parse_ev a (by omega)) (Ev.bind (parse_ev b (by omega)) (Ev.congr (fun k => ?_) h))
 rw [e, if_pos (Int.natCast_nonneg _), if_pos (by omega), Int.toNat_natCast]; rfl


theorem bits_xor32 (a b : Nat) (ha : a < 2 ^ 32) (hb : b < 2 ^ 32) : Go.bits .xor .u32 (a : Int) (b : Int) = ((a ^^^ b : Nat) : Int) := by
 have ha' : a % 2 ^ IntKind.u32.bits = a := Nat.mod_eq_of_lt ha
 have hb' : b % 2 ^ IntKind.u32.bits = b := Nat.mod_eq_of_lt hb
 simp only [bits, BitVec.ofInt_natCast, BitVec.toNat_xor, BitVec.toNat_ofNat, ha', hb']
 exact wraps_u32 _ (Int.natCast_nonneg _) (by exact_mod_cast Nat.xor_lt_two_pow ha hb)
theorem bits_and32 (a b : Nat) (ha : a < 2 ^ 32) (hb : b < 2 ^ 32) : Go.bits .and .u32 (a : Int) (b : Int) = ((a &&& b : Nat) : Int) := (bits_nat .u32 32 (by decide) wraps_u32 a b ha hb).1
theorem bits_or32 (a b : Nat) (ha : a < 2 ^ 32) (hb : b < 2 ^ 32) : Go.bits .or .u32 (a : Int) (b : Int) = ((a ||| b : Nat) : Int) := (bits_nat .u32 32 (by decide) wraps_u32 a b ha hb).2
theorem borrow_bit (a b d : Nat) : (((4294967295 ^^^ a) &&& b) ||| ((4294967295 ^^^ (a ^^^ b)) &&& d)) / 2147483648 = ((1 ^^^ (a / 2147483648)) &&& (b / 2147483648)) ||| ((1 ^^^ ((a / 2147483648) ^^^ (b / 2147483648))) &&& (d / 2147483648)) := by
 have e : ∀ x : Nat, x / 2147483648 = x >>> 31 := fun x => by rw [Nat.shiftRight_eq_div_pow]
 simp only [e, Nat.shiftRight_or_distrib, Nat.shiftRight_and_distrib, Nat.shiftRight_xor_distrib]
 rfl
theorem sub32_f {a b c : Int} (ha : 0 ≤ a) (ha' : a < 4294967296) (hb : 0 ≤ b) (hb' : b < 4294967296) (hc : 0 ≤ c) (hc' : c ≤ 1) : bits_Sub32.f a b c = some ((a - b - c) % 4294967296, if a < b + c then 1 else 0) := by
 unfold bits_Sub32.f
 congr 2
 obtain ⟨x, rfl⟩ := Int.eq_ofNat_of_zero_le ha
 obtain ⟨y, rfl⟩ := Int.eq_ofNat_of_zero_le hb
 obtain ⟨d, hd⟩ := Int.eq_ofNat_of_zero_le (Int.emod_nonneg ((x : Int) - y - c) (show (4294967296 : Int) ≠ 0 by decide))
 have hd2 : d < 2 ^ 32 := by omega
 have hx : x < 2 ^ 32 := by omega
 have hy : y < 2 ^ 32 := by omega
 have hM : (4294967295 : Nat) < 2 ^ 32 := by decide
 rw [hd, show (4294967295 : Int) = ((4294967295 : Nat) : Int) from rfl, bits_xor32 _ _ hM hx, bits_xor32 _ _ hx hy, bits_xor32 _ _ hM (Nat.xor_lt_two_pow hx hy),
  bits_and32 _ _ (Nat.xor_lt_two_pow hM hx) hy, bits_and32 _ _ (Nat.xor_lt_two_pow hM (Nat.xor_lt_two_pow hx hy)) hd2, bits_or32 _ _ (Nat.and_lt_two_pow _ hy) (Nat.and_lt_two_pow _ hd2)]
 have hb := borrow_bit x y d
 have e : ((((4294967295 ^^^ x) &&& y) ||| ((4294967295 ^^^ (x ^^^ y)) &&& d) : Nat) : Int) / 2147483648 = (((((4294967295 ^^^ x) &&& y) ||| ((4294967295 ^^^ (x ^^^ y)) &&& d)) / 2147483648 : Nat) : Int) := by omega
 rw [e, hb]
 clear e hb
 have tx : x / 2147483648 = 0 ∨ x / 2147483648 = 1 := by omega
 have ty : y / 2147483648 = 0 ∨ y / 2147483648 = 1 := by omega
 have td : d / 2147483648 = 0 ∨ d / 2147483648 = 1 := by omega
 rcases tx with tx | tx <;> rcases ty with ty | ty <;> rcases td with td | td <;> rw [tx, ty, td] <;> (by_cases hlt : (x : Int) < y + c) <;> simp only [hlt, if_true, if_false] <;> first | rfl | (exfalso; omega)

theorem borrow_step {a b c : Int} (ha : 0 ≤ a) (ha' : a < 4294967296) (hb : 0 ≤ b) (hb' : b < 4294967296) (hc : 0 ≤ c) (hc' : c ≤ 1) : (a - b - c) % 4294967296 = a - b - c + 4294967296 * (if a < b + c then 1 else 0) ∧ 0 ≤ (if a < b + c then (1 : Int) else 0) ∧ (if a < b + c then (1 : Int) else 0) ≤ 1 := by
 by_cases h : a < b + c
 ·simp only [h, if_true]; omega
 ·simp only [h, if_false]; omega
theorem sub_l0 {x y : List Int} (hx : OkL x) (hy : OkL y) (hxy : y.length ≤ x.length) (hle : vl y ≤ vl x) (hn : x.length ≤ 17592186044415) : ∀ (d i : Nat) (out : List Int) (c : Int), i + d = x.length → out.length = x.length → OkL out → (∀ j, i ≤ j → out.getD j 0 = 0) → 0 ≤ c → c ≤ 1 →
  EqI (ev 4294967296 out - c * 4294967296 ^ i) (ev 4294967296 (x.take i) - ev 4294967296 (y.take i)) → Ev (fun k => natural_subtract.l0 k x y out c (x.length : Int) (i : Int)) (lm (vl x - vl y)) := by
 intro d
 induction d with
 | zero =>
  intro i out c hi hl ho hz hc0 hc1 he
  obtain rfl : i = x.length := by omega
  have hc : c = 0 := by
   have h1 := he.out
   rw [List.take_length, List.take_of_length_le hxy, ← vl_cast hx, ← vl_cast hy, ← vl_cast ho] at h1
   have h2 := ev_lt (b := 4294967296) (by decide) ho
   rw [hl, ← vl_cast ho] at h2
   rcases (show c = 0 ∨ c = 1 by omega) with h | h
   ·exact h
   ·subst h
    rw [Int.one_mul] at h1
    clear he hz hi hl
    generalize (4294967296 : Int) ^ x.length = P at *
    omega
  have hv : vl out = vl x - vl y := by
   have h1 := he.out
   rw [hc, Int.zero_mul, Int.sub_zero, List.take_length, List.take_of_length_le hxy, ← vl_cast hx, ← vl_cast hy, ← vl_cast ho] at h1
   clear he hz hi hl
   omega
  refine Ev.step (f := fun k => (natural_limbs_trim.f k out).bind fun t => some t) (fun k => ?_) (Ev.bind (by rw [← hv]; exact trim_ev ho (by omega)) (Ev.now _))
  simp only [natural_subtract.l0]
  rw [if_neg (Int.lt_irrefl _)]
 | succ d ih =>
  intro i out c hi hl ho hz hc0 hc1 he
  obtain ⟨c1, e1, hi1, hi2, _, _⟩ := add_arith x.length i d (by omega) hi
  have hlt : i < out.length := by rw [hl]; exact hi1
  have c3 : (i : Int) < (out.length : Int) := by rw [hl]; exact c1
  have hxi := ok_get hx i hi1
  have hz0 := hz i (Nat.le_refl _)
  have key : ∀ yi : Int, 0 ≤ yi → yi < 4294967296 → ev 4294967296 (y.take (i + 1)) = ev 4294967296 (y.take i) + yi * 4294967296 ^ i →
    Ev (fun k => natural_subtract.l0 k x y (out.set i ((x.getD i 0 - yi - c) % 4294967296)) (if x.getD i 0 < yi + c then 1 else 0) (x.length : Int) ((i + 1 : Nat) : Int)) (lm (vl x - vl y)) := by
   intro yi h0 h1 hy'
   obtain ⟨b1, b2, b3⟩ := borrow_step hxi.1 hxi.2 h0 h1 hc0 hc1
   refine ih (i + 1) _ _ hi2 (by rw [List.length_set]; exact hl) (ok_set ho _ (mod_ok _).1 (mod_ok _).2) (set_zero hlt hz) b2 b3 ⟨?_⟩
   have he' := he.out
   rw [ev_set _ _ _ _ hlt, hz0, Int.sub_zero, Int.pow_succ, ev_take_succ _ _ _ hi1, hy', b1]
   generalize (if x.getD i 0 < yi + c then (1 : Int) else 0) = t
   have h4 : ev 4294967296 out = ev 4294967296 (x.take i) - ev 4294967296 (y.take i) + c * 4294967296 ^ i := by
    rw [← he']; generalize c * (4294967296 : Int) ^ i = e; omega
   rw [h4]
   grind
  by_cases hyi : i < y.length
  ·have hyi' := ok_get hy i hyi
   have k1 := key (y.getD i 0) hyi'.1 hyi'.2 (ev_take_succ _ _ _ hyi)
   refine Ev.step (fun k => ?_) k1
   simp only [natural_subtract.l0]
   rw [if_pos c1, if_pos (by omega), if_pos (Int.natCast_nonneg i), if_pos c1, rd_getD, rd_getD, sub32_f hxi.1 hxi.2 hyi'.1 hyi'.2 hc0 hc1, Option.bind_some, if_pos c3, e1, Int.toNat_natCast]
  ·have k1 := key 0 (by decide) (by decide) (by rw [take_all _ _ (by omega), Int.zero_mul, Int.add_zero])
   refine Ev.step (fun k => ?_) k1
   simp only [natural_subtract.l0]
   rw [if_pos c1, if_neg (by omega), if_pos (Int.natCast_nonneg i), if_pos c1, rd_getD, sub32_f hxi.1 hxi.2 (by decide) (by decide) hc0 hc1, Option.bind_some, if_pos c3, e1, Int.toNat_natCast]
theorem lm_len_le {a b : Nat} (h : a ≤ b) : (lm a).length ≤ (lm b).length := by
 rcases Nat.lt_or_ge (lm b).length (lm a).length with h1 | h1
 ·have := lm_len_lt h1; omega
 ·exact h1
theorem subtract_ev {a b : ByteArray} (ha : Lim a) (hb : Lim b) : Ev (fun k => natural_Subtract.f k a b) (if sv a < sv b then ((⟨#[]⟩ : ByteArray), false) else (by_ (sv a - sv b), true)) := by
 have la := lim_len ha
 have lb := lim_len hb
 unfold natural_Subtract.f
 refine Ev.bind (parse_ev a (by omega)) (Ev.bind (parse_ev b (by omega)) (Ev.bind (compare_ev (sv a) (sv b) (by omega) (by omega)) ?_))
 by_cases h : sv a < sv b
 ·have h1 : sgn (sv a) (sv b) < 0 := by unfold sgn; rw [if_pos h]; decide
  refine Ev.congr (fun k => ?_) (Ev.now _)
  rw [if_pos h1, if_pos h]
 ·have h1 : ¬ sgn (sv a) (sv b) < 0 := by unfold sgn; rw [if_neg h]; split <;> decide
  rw [if_neg h]
  have hlen := lm_len_le (show sv b ≤ sv a by omega)
  have h2 := sub_l0 (lm_ok (sv a)) (lm_ok (sv b)) hlen (by rw [vl_lm, vl_lm]; omega) (by omega) (lm (sv a)).length 0 (List.replicate (lm (sv a)).length 0) 0 (by omega) (by simp) (ok_replicate (by decide) _) (fun j _ => zeros_getD _ j) (by decide) (by decide) ⟨by rw [ev_replicate]; simp [ev]⟩
  rw [vl_lm, vl_lm] at h2
  have h3 : Ev (fun k => natural_subtract.f k (lm (sv a)) (lm (sv b))) (lm (sv a - sv b)) := by
   refine Ev.congr (fun k => ?_) h2
   unfold natural_subtract.f
   rw [if_pos (Int.natCast_nonneg _), if_pos (by omega), Int.toNat_natCast]; rfl
  have h4 := text_ev (lm_ok (sv a - sv b)) (by have := lm_len_le (show sv a - sv b ≤ sv a by omega); omega)
  rw [vl_lm] at h4
  refine Ev.congr (fun k => ?_) (Ev.bind (f := fun k t => (natural_limbs_text.f k t).bind fun t => some (t, true)) h3 (Ev.bind h4 (Ev.now _)))
  rw [if_neg h1]


theorem small_step {a rest d : Int} (ha : 0 ≤ a) (ha' : a < 4294967296) (hr : 0 ≤ rest) (hr' : rest < d) (hd : d < 4294967296) :
  0 ≤ (rest * 4294967296 + a) / d ∧ (rest * 4294967296 + a) / d < 4294967296 ∧ 0 ≤ (rest * 4294967296 + a) % d ∧ (rest * 4294967296 + a) % d < d ∧ d * ((rest * 4294967296 + a) / d) + (rest * 4294967296 + a) % d = rest * 4294967296 + a := by
 have hd0 : 0 < d := by omega
 refine ⟨Int.ediv_nonneg (by omega) (by omega), ?_, Int.emod_nonneg _ (by omega), Int.emod_lt_of_pos _ hd0, Int.mul_ediv_add_emod _ _⟩
 apply Int.ediv_lt_of_lt_mul hd0
 have : (rest + 1) * 4294967296 ≤ d * 4294967296 := Int.mul_le_mul_of_nonneg_right (by omega) (by decide)
 omega
theorem small_eq {A O d rest a P : Int} (T : Int) (he : O * d + rest * (P * 4294967296) = T - (A + a * P)) (q r : Int) (h : d * q + r = rest * 4294967296 + a) : (O + (q - 0) * P) * d + r * P = T - A := by
 have h2 : (d * q + r) * P = (rest * 4294967296 + a) * P := by rw [h]
 grind
theorem ds_l0 {a : List Int} (ha : OkL a) (hn : a.length ≤ 17592186044415) {d : Int} (hd : 0 < d) (hd' : d < 4294967296) : ∀ (n : Nat) (out : List Int) (rest : Int), n ≤ a.length → out.length = a.length → OkL out → (∀ j, j < n → out.getD j 0 = 0) → 0 ≤ rest → rest < d →
  EqI (ev 4294967296 out * d + rest * 4294967296 ^ n) (ev 4294967296 a - ev 4294967296 (a.take n)) → Ev (fun k => natural_divideSmall.l0 k a d out rest ((n : Int) - 1)) (lm (vl a / d.toNat), ((vl a % d.toNat : Nat) : Int)) := by
 intro n
 induction n with
 | zero =>
  intro out rest hi hl ho hz hr0 hr1 he
  have h1 := he.out
  simp only [List.take_zero, ev, Int.sub_zero, Int.pow_zero, Int.mul_one] at h1
  rw [← vl_cast ho, ← vl_cast ha] at h1
  obtain ⟨D, rfl⟩ := Int.eq_ofNat_of_zero_le (Int.le_of_lt hd)
  obtain ⟨r, rfl⟩ := Int.eq_ofNat_of_zero_le hr0
  have h2 : vl a = r + D * vl out := by
   have : ((vl a : Nat) : Int) = ((r + D * vl out : Nat) : Int) := by rw [← h1]; simp only [Int.natCast_add, Int.natCast_mul]; rw [Int.mul_comm]; omega
   exact Int.ofNat_inj.1 this
  have h3 : vl a / D = vl out := by
   rw [h2, Nat.add_mul_div_left _ _ (by omega), Nat.div_eq_of_lt (by omega), Nat.zero_add]
  have h4 : vl a % D = r := by
   rw [h2, Nat.add_mul_mod_self_left, Nat.mod_eq_of_lt (by omega)]
  rw [Int.toNat_natCast, h3, h4]
  have e2 : (r : Int) % 4294967296 = (r : Int) := Int.emod_eq_of_lt (by omega) (by omega)
  refine Ev.step (f := fun k => (natural_limbs_trim.f k out).bind fun t => some (t, (r : Int))) (fun k => ?_) (Ev.bind (trim_ev ho (by omega)) (Ev.now _))
  simp only [natural_divideSmall.l0]
  rw [if_neg (by omega), e2]
 | succ n ih =>
  intro out rest hi hl ho hz hr0 hr1 he
  have hn1 : n < a.length := by omega
  have e1 : ((n + 1 : Nat) : Int) - 1 = (n : Int) := by omega
  have e2 : wrap64 ((n : Int) - 1) = (n : Int) - 1 := w64 (by omega) (by omega)
  have c1 : (n : Int) < (a.length : Int) := by omega
  have c2 : (n : Int) < (out.length : Int) := by omega
  have hlt : n < out.length := by omega
  have hx := ok_get ha n hn1
  obtain ⟨q0, q1, r0, r1, hq⟩ := small_step hx.1 hx.2 hr0 hr1 hd'
  have hz0 := hz n (by omega)
  have ew : IntKind.u64.wrap d = d := u64w (by omega) (by omega)
  have eor := or64' (x := rest) (y := a.getD n 0) hr0 (by omega) hx.1 hx.2
  have hpos : 0 ≤ rest * 4294967296 + a.getD n 0 := by omega
  have et : Int.tdiv (rest * 4294967296 + a.getD n 0) d = (rest * 4294967296 + a.getD n 0) / d := Int.tdiv_eq_ediv_of_nonneg hpos
  have em : Int.tmod (rest * 4294967296 + a.getD n 0) d = (rest * 4294967296 + a.getD n 0) % d := Int.tmod_eq_emod_of_nonneg hpos
  have eq : IntKind.u64.wrap ((rest * 4294967296 + a.getD n 0) / d) % 4294967296 = (rest * 4294967296 + a.getD n 0) / d := by
   rw [u64w q0 (by omega)]; exact Int.emod_eq_of_lt q0 q1
  rw [e1]
  refine Ev.step (fun k => ?_) (ih (out.set n ((rest * 4294967296 + a.getD n 0) / d)) ((rest * 4294967296 + a.getD n 0) % d) (by omega) (by rw [List.length_set]; exact hl) (ok_set ho _ q0 q1) ?_ r0 r1 ⟨?_⟩)
  ·simp only [natural_divideSmall.l0]
   rw [if_pos (Int.natCast_nonneg n), if_pos (Int.natCast_nonneg n), if_pos c1, ew, if_neg (by omega), if_pos c2, rd_getD, eor, et, em, eq, e2, Int.toNat_natCast]
  ·intro j hj
   rw [getD_set _ _ _ _ hlt, if_neg (by omega)]
   exact hz j (by omega)
  ·rw [ev_set _ _ _ _ hlt, hz0]
   have he' := he.out
   rw [ev_take_succ _ _ _ hn1, Int.pow_succ] at he'
   exact small_eq _ he' _ _ hq
theorem divideSmall_ev (n : Nat) (hn : (lm n).length ≤ 17592186044415) {d : Int} (hd : 0 < d) (hd' : d < 4294967296) : Ev (fun k => natural_divideSmall.f k (lm n) d) (lm (n / d.toNat), ((n % d.toNat : Nat) : Int)) := by
 have h := ds_l0 (lm_ok n) hn hd hd' (lm n).length (List.replicate (lm n).length 0) 0 (Nat.le_refl _) (by simp) (ok_replicate (by decide) _) (fun j _ => zeros_getD _ j) (by decide) hd ⟨by rw [ev_replicate, List.take_length]; simp⟩
 rw [vl_lm] at h
 refine Ev.congr (fun k => ?_) h
 unfold natural_divideSmall.f
 rw [if_pos (Int.natCast_nonneg _), if_pos (by omega), Int.toNat_natCast, w64 (by omega) (by omega)]

theorem mulAdd_eq {O c P L A f : Int} (X : Int) (he : O + c * P = X + (f - 1) * A) (t : Int) (ht : t = L * f + c) : O + (t % 4294967296 - L) * P + t / 4294967296 * (P * 4294967296) = X + (f - 1) * (A + L * P) := by
 have h := carry_step P t
 have h2 : (t % 4294967296 - L) * P = (t % 4294967296) * P - L * P := Int.sub_mul _ _ _
 have h3 : O + (t % 4294967296 * P - L * P) + t / 4294967296 * (P * 4294967296) = O + (t % 4294967296 * P + t / 4294967296 * (P * 4294967296)) - L * P := by
  generalize t % 4294967296 * P = a
  generalize t / 4294967296 * (P * 4294967296) = b
  generalize L * P = e
  omega
 have h4 : O = X + (f - 1) * A - c * P := by rw [← he]; generalize c * P = e; omega
 rw [h2, h3, h, ht, h4]
 grind
theorem mulAdd_l0 {l : List Int} (hl : OkL l) (hn : l.length ≤ 17592186044415) {f : Int} (hf : 0 ≤ f) (hf' : f < 4294967296) (a : Int) : ∀ (d j : Nat) (out : List Int) (c : Int), j + d = l.length → out.length = l.length → OkL out → (∀ i, j ≤ i → out.getD i 0 = l.getD i 0) → 0 ≤ c → c < 4294967296 →
  EqI (ev 4294967296 out + c * 4294967296 ^ j) (ev 4294967296 l + a + (f - 1) * ev 4294967296 (l.take j)) →
  ∃ r, Ev (fun k => natural_multiplyAdd.l0 k out f c (l.length : Int) (j : Int)) r ∧ OkL r ∧ EqI (ev 4294967296 r) (ev 4294967296 l * f + a) ∧ r.length ≤ l.length + 1 := by
 intro d
 induction d with
 | zero =>
  intro j out c hj ho hk hz hc0 hc1 he
  obtain rfl : j = l.length := by omega
  have he' := he.out
  rw [List.take_length] at he'
  by_cases hc : c > 0
  ·have e2 : c % 4294967296 = c := Int.emod_eq_of_lt hc0 hc1
   refine ⟨out ++ [c], Ev.step (f := fun _ => some (out ++ [c])) (fun k => ?_) (Ev.now _), ok_append.2 ⟨hk, ok_cons.2 ⟨⟨hc0, hc1⟩, ok_nil _⟩⟩, ⟨?_⟩, by simp [ho]⟩
   ·simp only [natural_multiplyAdd.l0]
    rw [if_neg (Int.lt_irrefl _), if_pos hc, if_pos (by omega), e2]
   ·rw [ev_append, ho]
    simp only [ev, Int.mul_zero, Int.add_zero]
    rw [Int.mul_comm _ c, he']
    grind
  ·have hc2 : c = 0 := by omega
   refine ⟨out, Ev.step (f := fun _ => some out) (fun k => ?_) (Ev.now _), hk, ⟨?_⟩, by omega⟩
   ·simp only [natural_multiplyAdd.l0]
    rw [if_neg (Int.lt_irrefl _), if_neg hc]
   ·rw [hc2, Int.zero_mul, Int.add_zero] at he'
    rw [he']
    grind
 | succ d ih =>
  intro j out c hj ho hk hz hc0 hc1 he
  obtain ⟨c1, e1, hj1, hj2, _, _⟩ := add_arith l.length j d (by omega) hj
  have hlt : j < out.length := by rw [ho]; exact hj1
  have c3 : (j : Int) < (out.length : Int) := by rw [ho]; exact c1
  have hx := ok_get hl j hj1
  have hz0 := hz j (Nat.le_refl _)
  obtain ⟨e3, t0, t1⟩ := mul_acc (w := 0) hx.1 hx.2 hf hf' (by decide) (by decide) hc0 hc1
  rw [show IntKind.u64.wrap (0 : Int) = 0 from rfl, Int.add_zero] at e3
  simp only [Int.add_zero] at e3 t0 t1
  have e4 : IntKind.u64.wrap (IntKind.u64.wrap (l.getD j 0) * IntKind.u64.wrap f) = l.getD j 0 * f := by
   have := mul_bound hx.1 hx.2 hf hf'
   rw [u64w (x := l.getD j 0) hx.1 (by omega), u64w (x := f) hf (by omega), u64w this.1 (by omega)]
  have e5 : IntKind.u64.wrap (IntKind.u64.wrap (IntKind.u64.wrap (rd out (j : Int)) * IntKind.u64.wrap f) + c) = l.getD j 0 * f + c := by
   rw [rd_getD, hz0, e4, u64w t0 t1]
  have hd := div_lt_b t0 t1
  have hm := mod_ok (l.getD j 0 * f + c)
  obtain ⟨r, h1, h2⟩ := ih (j + 1) (out.set j ((l.getD j 0 * f + c) % 4294967296)) ((l.getD j 0 * f + c) / 4294967296) hj2 (by rw [List.length_set]; exact ho) (ok_set hk _ hm.1 hm.2)
   (fun i hi => by rw [getD_set _ _ _ _ hlt, if_neg (by omega)]; exact hz i (by omega)) hd.1 hd.2 ⟨by
    rw [ev_set _ _ _ _ hlt, hz0, ev_take_succ _ _ _ hj1, Int.pow_succ]
    exact mulAdd_eq _ he.out _ rfl⟩
  refine ⟨r, Ev.step (fun k => ?_) h1, h2⟩
  simp only [natural_multiplyAdd.l0]
  rw [if_pos c1, if_pos (Int.natCast_nonneg j), if_pos c3, e5, e1, Int.toNat_natCast]
theorem multiplyAdd_ev {l : List Int} (hl : OkL l) (hn : l.length ≤ 17592186044415) {f a : Int} (hf : 0 ≤ f) (hf' : f < 4294967296) (ha : 0 ≤ a) (ha' : a < 4294967296) :
  ∃ r, Ev (fun k => natural_multiplyAdd.f k l f a) r ∧ OkL r ∧ EqI (ev 4294967296 r) (ev 4294967296 l * f + a) ∧ r.length ≤ l.length + 1 := by
 obtain ⟨r, h1, h2⟩ := mulAdd_l0 hl hn hf hf' a l.length 0 l a (by omega) rfl hl (fun _ _ => rfl) ha ha' ⟨by simp [ev]⟩
 refine ⟨r, Ev.congr (fun k => ?_) h1, h2⟩
 unfold natural_multiplyAdd.f
 rw [u64w ha (by omega)]; rfl

theorem fromUint_ev (u : Nat) (hu : u < 18446744073709551616) : Ev (fun k => natural_FromUint.f k (u : Int)) (by_ u) := by
 have ho : OkL [(u : Int) % 4294967296, ((u : Int) / 4294967296) % 4294967296] := ok_cons.2 ⟨mod_ok _, ok_cons.2 ⟨mod_ok _, ok_nil _⟩⟩
 have hv : vl [(u : Int) % 4294967296, ((u : Int) / 4294967296) % 4294967296] = u := by
  have h1 := vl_cast ho
  simp only [ev] at h1
  omega
 have ht := text_ev ho (by simp)
 rw [hv] at ht
 unfold natural_FromUint.f
 exact Ev.bind ht (Ev.now _)
theorem compareBytes_sg : ∀ l m : List UInt8, l.length = m.length → Lib.compareBytes l m = sg (ev 256 (l.map fun b => (b.toNat : Int)).reverse) (ev 256 (m.map fun b => (b.toNat : Int)).reverse)
 | [], [], _ => by simp [Lib.compareBytes, sg]
 | [], _ :: _, h => by simp at h
 | _ :: _, [], h => by simp at h
 | a :: l, b :: m, h => by
  have hlen : l.length = m.length := by simpa using h
  have ih := compareBytes_sg l m hlen
  have ok : ∀ l : List UInt8, Ok 256 (l.map fun b => (b.toNat : Int)).reverse := fun l => ok_reverse (fun x hx => by
   obtain ⟨c, _, rfl⟩ := List.mem_map.1 hx
   have := c.toNat_lt
   omega)
  have e : ∀ (c : UInt8) (q : List UInt8), ev 256 ((c :: q).map fun b => (b.toNat : Int)).reverse = ev 256 (q.map fun b => (b.toNat : Int)).reverse + (c.toNat : Int) * 256 ^ q.length := by
   intro c q
   rw [List.map_cons, List.reverse_cons, ev_append]
   simp only [ev, List.length_reverse, List.length_map, Int.mul_zero, Int.add_zero]
   rw [Int.mul_comm]
  rw [e, e, hlen]
  have hP := pow_pos' (b := 256) (by decide) m.length
  have u1 := ev_lt (b := 256) (by decide) (ok l)
  have u2 := ev_lt (b := 256) (by decide) (ok m)
  rw [List.length_reverse, List.length_map, hlen] at u1
  rw [List.length_reverse, List.length_map] at u2
  have v1 := ev_nonneg (b := 256) (by decide) (ok l)
  have v2 := ev_nonneg (b := 256) (by decide) (ok m)
  unfold Lib.compareBytes
  by_cases h1 : a < b
  ·have : (a.toNat : Int) < b.toNat := by have := UInt8.lt_iff_toNat_lt.1 h1; omega
   rw [if_pos h1, sg_lt (digit_lt u1 v2 this hP)]
  ·by_cases h2 : b < a
   ·have : (b.toNat : Int) < a.toNat := by have := UInt8.lt_iff_toNat_lt.1 h2; omega
    rw [if_neg h1, if_pos h2, sg_gt (digit_lt u2 v1 this hP)]
   ·have h3 : a = b := by
     apply UInt8.toNat_inj.1
     have p1 : ¬ a.toNat < b.toNat := fun h => h1 (UInt8.lt_iff_toNat_lt.2 h)
     have p2 : ¬ b.toNat < a.toNat := fun h => h2 (UInt8.lt_iff_toNat_lt.2 h)
     omega
    subst h3
    rw [if_neg h1, if_neg h1, ih, sg_add]
theorem by_size_lt {a b : Nat} (h : (by_ a).size < (by_ b).size) : a < b := by
 rw [by_size, by_size] at h
 have := len_lt_of_tr (b := 256) (by decide) (dg_ok (b := 256) (by decide) a) (dg_ok (b := 256) (by decide) b) (dg_tr (by decide) b) h
 have e1 : ev 256 (dg 256 a) = a := dg_ev (b := 256) (by decide) a
 have e2 : ev 256 (dg 256 b) = b := dg_ev (b := 256) (by decide) b
 omega
theorem by_sv_size (s : ByteArray) : (by_ (sv s)).size ≤ s.size := by_size_le (sv_lt s)
theorem cmp_ev {a b : ByteArray} (ha : Lim a) (hb : Lim b) : Ev (fun k => natural_Compare.f k a b) (sgn (sv a) (sv b)) := by
 unfold natural_Compare.f
 refine Ev.bind (normalize_ev a) (Ev.bind (normalize_ev b) ?_)
 have la : (by_ (sv a)).size ≤ 1073741824 := Nat.le_trans (by_sv_size a) ha
 have lb : (by_ (sv b)).size ≤ 1073741824 := Nat.le_trans (by_sv_size b) hb
 by_cases h : (by_ (sv a)).size = (by_ (sv b)).size
 ·have h' : ((by_ (sv a)).size : Int) = ((by_ (sv b)).size : Int) := by omega
  refine Ev.congr (f := fun _ => some (sgn (sv a) (sv b))) (fun k => ?_) (Ev.now _)
  rw [if_pos h']
  unfold strings_Compare.f
  rw [Option.bind_some, compareBytes_sg _ _ (by rw [← size_data, ← size_data]; exact h)]
  have e : ∀ s : ByteArray, ev 256 (s.data.toList.map fun b => (b.toNat : Int)).reverse = (sv s : Int) := fun s => (sv_cast s).symm
  rw [e, e, sv_by, sv_by, sg_sgn]
 ·have h' : ¬ ((by_ (sv a)).size : Int) = ((by_ (sv b)).size : Int) := by omega
  have e : wrap64 (((by_ (sv a)).size : Int) - ((by_ (sv b)).size : Int)) = ((by_ (sv a)).size : Int) - ((by_ (sv b)).size : Int) := w64 (by omega) (by omega)
  have hs : (if wrap64 (((by_ (sv a)).size : Int) - ((by_ (sv b)).size : Int)) < 0 then (-1 : Int) else if wrap64 (((by_ (sv a)).size : Int) - ((by_ (sv b)).size : Int)) > 0 then 1 else 0) = sgn (sv a) (sv b) := by
   rw [e]
   rcases Nat.lt_or_gt_of_ne h with h2 | h2
   ·have := by_size_lt h2
    unfold sgn; rw [if_pos this, if_pos (by omega)]
   ·have := by_size_lt h2
    unfold sgn; rw [if_neg (by omega), if_pos (by omega), if_neg (by omega), if_neg (by omega)]
  refine Ev.congr (f := fun _ => some (sgn (sv a) (sv b))) (fun k => ?_) (Ev.now _)
  rw [if_neg h', sign_f, hs]; rfl


theorem guess_ge {b P U V top v1 v2 u2 lowU lowV q : Int} (hP : 0 < P) (hb : 0 < b)
  (hU : U = (top * b + u2) * P + lowU) (hlU : lowU < P) (hu2 : u2 < b)
  (hV : V = (v1 * b + v2) * P + lowV) (hlV0 : 0 ≤ lowV) (hv1 : 0 < v1) (hv20 : 0 ≤ v2)
  (hq0 : 0 ≤ q) (hq : q * V ≤ U) : q ≤ top / v1 := by
 subst hU hV
 apply (Int.le_ediv_iff_mul_le hv1).2
 apply Int.le_of_lt_add_one
 -- q * v1 * b * P ≤ q * V ≤ U < (top + 1) * b * P
 have h1 : (top * b + u2) * P + lowU < (top + 1) * (b * P) := by
  have : (u2 + 1) * P ≤ b * P := Int.mul_le_mul_of_nonneg_right (by omega) (by omega)
  grind
 have h2 : q * v1 * (b * P) ≤ q * ((v1 * b + v2) * P + lowV) := by
  have a1 : 0 ≤ q * (v2 * P) := Int.mul_nonneg hq0 (Int.mul_nonneg hv20 (by omega))
  have a2 : 0 ≤ q * lowV := Int.mul_nonneg hq0 hlV0
  grind
 have hbP : 0 < b * P := Int.mul_pos hb hP
 exact Int.lt_of_mul_lt_mul_right (Int.lt_of_le_of_lt (Int.le_trans h2 hq) h1) (by omega)

theorem guess_gt {b P U V top v1 v2 u2 lowU lowV q guess rest : Int} (hP : 0 < P)
  (hU : U = (top * b + u2) * P + lowU) (hlU : lowU < P)
  (hV : V = (v1 * b + v2) * P + lowV) (hlV0 : 0 ≤ lowV)
  (hg : guess * v1 + rest = top) (hg0 : 0 ≤ guess) (ht : rest * b + u2 < guess * v2) (hV0 : 0 < V) (hq : q * V ≤ U) : q < guess := by
 subst hU hV hg
 have h1 : ((guess * v1 + rest) * b + u2) * P + lowU < guess * ((v1 * b + v2) * P + lowV) := by
  have a1 : ((guess * v1 + rest) * b + u2 + 1) * P ≤ (guess * (v1 * b + v2)) * P := Int.mul_le_mul_of_nonneg_right (by grind) (by omega)
  have a2 : 0 ≤ guess * lowV := Int.mul_nonneg hg0 hlV0
  grind
 exact Int.lt_of_mul_lt_mul_right (Int.lt_of_le_of_lt hq h1) (by omega)

theorem guess_le {b P U V top v1 v2 u2 lowU lowV guess rest : Int} (hP : 0 < P) (hb : 0 < b)
  (hU : U = (top * b + u2) * P + lowU) (hlU0 : 0 ≤ lowU)
  (hV : V = (v1 * b + v2) * P + lowV) (hlV : lowV < P) (hlV0 : 0 ≤ lowV) (hv1 : 0 < v1) (hv20 : 0 ≤ v2)
  (hg : guess * v1 + rest = top) (hgb : guess < b) (ht : guess * v2 ≤ rest * b + u2) : (guess - 1) * V ≤ U := by
 subst hU hV hg
 have a1 : (guess * (v1 * b + v2)) * P ≤ ((guess * v1 + rest) * b + u2) * P := Int.mul_le_mul_of_nonneg_right (by grind) (by omega)
 have a2 : guess * lowV ≤ b * P := by
  have x1 : guess * lowV ≤ b * lowV := Int.mul_le_mul_of_nonneg_right (by omega) hlV0
  have x2 : b * lowV ≤ b * P := Int.mul_le_mul_of_nonneg_left (by omega) (by omega)
  omega
 have a3 : b * P ≤ (v1 * b + v2) * P + lowV := by
  have x1 : 1 * (b * P) ≤ v1 * (b * P) := Int.mul_le_mul_of_nonneg_right (by omega) (Int.mul_nonneg (by omega) (by omega))
  have x2 : 0 ≤ v2 * P := Int.mul_nonneg hv20 (by omega)
  grind
 grind
def pd : Nat → Nat → List Int
 | 0, _ => []
 | n + 1, v => ((v % 4294967296 : Nat) : Int) :: pd n (v / 4294967296)
theorem pd_length : ∀ n v, (pd n v).length = n
 | 0, _ => rfl
 | n + 1, v => by simp [pd, pd_length n]
theorem pd_ok : ∀ n v, OkL (pd n v)
 | 0, _ => ok_nil _
 | n + 1, v => ok_cons.2 ⟨by have := Nat.mod_lt v (show 0 < 4294967296 by decide); omega, pd_ok n _⟩
theorem pd_ev : ∀ n v, v < 4294967296 ^ n → ev 4294967296 (pd n v) = v
 | 0, v, h => by simp only [Nat.pow_zero] at h; simp [pd, ev]; omega
 | n + 1, v, h => by
  have h1 : v / 4294967296 < 4294967296 ^ n := by
   rw [Nat.pow_succ] at h
   exact Nat.div_lt_of_lt_mul (by rw [Nat.mul_comm]; exact h)
  simp only [pd, ev, pd_ev n _ h1]
  omega
theorem pd_eq {l : List Int} {n v : Nat} (h : OkL l) (hn : l.length = n) (hv : v < 4294967296 ^ n) (he : ev 4294967296 l = v) : l = pd n v :=
 ev_inj (b := 4294967296) (by decide) h (pd_ok n v) (by rw [hn, pd_length]) (by rw [he, pd_ev n v hv])
theorem natPow (n : Nat) : ((4294967296 ^ n : Nat) : Int) = (4294967296 : Int) ^ n := by rw [Int.natCast_pow]; rfl

theorem ev_top2 {l : List Int} {n : Nat} (hn : l.length = n + 2) : ev 4294967296 l = (l.getD (n + 1) 0 * 4294967296 + l.getD n 0) * 4294967296 ^ n + ev 4294967296 (l.take n) := by
 have h1 := ev_take_succ 4294967296 l (n + 1) (by omega)
 have h2 := ev_take_succ 4294967296 l n (by omega)
 rw [show n + 1 + 1 = l.length by omega, List.take_length] at h1
 rw [h1, h2, Int.pow_succ]
 grind
theorem ev_top3 {l : List Int} {n : Nat} (hn : l.length = n + 3) : ev 4294967296 l = ((l.getD (n + 2) 0 * 4294967296 + l.getD (n + 1) 0) * 4294967296 + l.getD n 0) * 4294967296 ^ n + ev 4294967296 (l.take n) := by
 have h1 := ev_take_succ 4294967296 l (n + 2) (by omega)
 have h2 := ev_take_succ 4294967296 l (n + 1) (by omega)
 have h3 := ev_take_succ 4294967296 l n (by omega)
 rw [show n + 2 + 1 = l.length by omega, List.take_length] at h1
 rw [h1, h2, h3, Int.pow_succ, Int.pow_succ]
 grind
theorem top_le {wn v1 : Int} {W D P : Int} (hW : wn * (P * 4294967296) ≤ W) (hD : D < (v1 + 1) * P) (hlt : W < D * 4294967296) (hP : 0 < P) : wn ≤ v1 := by
 apply Int.lt_add_one_iff.1
 have h1 : D * 4294967296 < (v1 + 1) * P * 4294967296 := Int.mul_lt_mul_of_pos_right hD (by decide)
 have h2 : wn * (P * 4294967296) < (v1 + 1) * (P * 4294967296) := by rw [← Int.mul_assoc (v1 + 1)]; omega
 exact Int.lt_of_mul_lt_mul_right h2 (by omega)


theorem add_arith' (n k d : Nat) (hn : n ≤ 17592186044415) (hk : k + (d + 1) = n) : (k : Int) < (n : Int) ∧ wrap64 ((k : Int) + 1) = ((k + 1 : Nat) : Int) ∧ k < n ∧ k + 1 + d = n ∧ k < n + 1 ∧ (k : Int) < ((n + 1 : Nat) : Int) := add_arith n k d (by omega) hk
theorem back_l2 {v : List Int} (hv : OkL v) (hn : v.length ≤ 17592186044415) (g : Int) (U1 : Int) (Rm : Nat) (hR : EqI (U1 + ev 4294967296 v) (Rm + 4294967296 ^ (v.length + 1))) (hRm : (Rm : Int) < 4294967296 ^ (v.length + 1)) :
  ∀ (d k : Nat) (u : List Int) (c : Int), k + d = v.length → u.length = v.length + 1 → OkL u → 0 ≤ c → c ≤ 1 → EqI (ev 4294967296 u + c * 4294967296 ^ k) (U1 + ev 4294967296 (v.take k)) →
   Ev (fun q => natural_step.l2 q u (v.length : Int) g c v (v.length : Int) (k : Int)) ((IntKind.u64.wrap (g - 1)) % 4294967296, pd (v.length + 1) Rm) := by
 intro d
 induction d with
 | zero =>
  intro k u c hk hl hu hc0 hc1 he
  obtain rfl : k = v.length := by omega
  have hlt : v.length < u.length := by omega
  have hx := ok_get hu v.length hlt
  have hm := mod_ok (u.getD v.length 0 + c)
  have hu' : OkL (u.set v.length ((u.getD v.length 0 + c) % 4294967296)) := ok_set hu _ hm.1 hm.2
  have he2 : ev 4294967296 (u.set v.length ((u.getD v.length 0 + c) % 4294967296)) = Rm := by
   have h1 := he.out
   rw [List.take_length, hR.out, Int.pow_succ] at h1
   have h2 := carry_step (4294967296 ^ v.length) (u.getD v.length 0 + c)
   have h3 := ev_set 4294967296 u v.length ((u.getD v.length 0 + c) % 4294967296) hlt
   have h4 := ev_nonneg (b := 4294967296) (by decide) hu'
   have h5 := ev_lt (b := 4294967296) (by decide) hu'
   rw [List.length_set, hl, Int.pow_succ] at h5
   rw [Int.pow_succ] at hRm
   have hq : (u.getD v.length 0 + c) / 4294967296 = 0 ∨ (u.getD v.length 0 + c) / 4294967296 = 1 := by clear he hR h1 h2 h3 h4 h5; omega
   rw [Int.sub_mul] at h3
   rw [Int.add_mul] at h2
   rcases hq with hq | hq
   ·exfalso
    rw [hq, Int.zero_mul, Int.add_zero] at h2
    generalize (u.getD v.length 0 + c) % 4294967296 * 4294967296 ^ v.length = a at *
    generalize u.getD v.length 0 * 4294967296 ^ v.length = b at *
    generalize c * (4294967296 : Int) ^ v.length = e at *
    generalize ev 4294967296 (u.set v.length ((u.getD v.length 0 + c) % 4294967296)) = X at *
    generalize (4294967296 : Int) ^ v.length * 4294967296 = Q at *
    clear he hR hm hx hq
    omega
   ·rw [hq, Int.one_mul] at h2
    generalize (u.getD v.length 0 + c) % 4294967296 * 4294967296 ^ v.length = a at *
    generalize u.getD v.length 0 * 4294967296 ^ v.length = b at *
    generalize c * (4294967296 : Int) ^ v.length = e at *
    generalize ev 4294967296 (u.set v.length ((u.getD v.length 0 + c) % 4294967296)) = X at *
    generalize (4294967296 : Int) ^ v.length * 4294967296 = Q at *
    clear he hR hm hx hq
    omega
  have hpd := pd_eq (n := v.length + 1) (v := Rm) hu' (by rw [List.length_set]; exact hl) (by rw [← Int.ofNat_lt, natPow]; exact hRm) he2
  rw [← hpd]
  refine Ev.step (f := fun _ => some ((IntKind.u64.wrap (g - 1)) % 4294967296, u.set v.length ((u.getD v.length 0 + c) % 4294967296))) (fun q => ?_) (Ev.now _)
  simp only [natural_step.l2]
  rw [if_neg (Int.lt_irrefl _), if_pos (Int.natCast_nonneg _), if_pos (by omega), rd_getD, Int.toNat_natCast]
 | succ d ih =>
  intro k u c hk hl hu hc0 hc1 he
  obtain ⟨c1, e1, hk1, hk2, hk3, c2⟩ := add_arith' v.length k d hn hk
  have hlt : k < u.length := by rw [hl]; exact hk3
  have c3 : (k : Int) < (u.length : Int) := by rw [hl]; exact c2
  have hx := ok_get hu k hlt
  have hy := ok_get hv k hk1
  have hc' : 0 ≤ (u.getD k 0 + v.getD k 0 + c) / 4294967296 ∧ (u.getD k 0 + v.getD k 0 + c) / 4294967296 ≤ 1 := by
   clear he ih hR
   omega
  refine Ev.step (fun q => ?_) (ih (k + 1) (u.set k ((u.getD k 0 + v.getD k 0 + c) % 4294967296)) ((u.getD k 0 + v.getD k 0 + c) / 4294967296) hk2 (by rw [List.length_set]; exact hl) (ok_set hu _ (mod_ok _).1 (mod_ok _).2) hc'.1 hc'.2 ⟨?_⟩)
  ·simp only [natural_step.l2]
   rw [if_pos c1, if_pos (Int.natCast_nonneg k), if_pos c1, if_pos c3, rd_getD, rd_getD, add32_f hx.1 hx.2 hy.1 hy.2 hc0 hc1, Option.bind_some, e1, Int.toNat_natCast]
  ·have hcs := carry_step (4294967296 ^ k) (u.getD k 0 + v.getD k 0 + c)
   have he' := he.out
   rw [ev_set _ _ _ _ hlt, Int.pow_succ, ev_take_succ _ _ _ hk1, Int.sub_mul]
   rw [Int.add_mul, Int.add_mul] at hcs
   clear he hR ih hx hy hc'
   generalize (u.getD k 0 + v.getD k 0 + c) % 4294967296 * 4294967296 ^ k = a at *
   generalize (u.getD k 0 + v.getD k 0 + c) / 4294967296 * (4294967296 ^ k * 4294967296) = b at *
   generalize u.getD k 0 * 4294967296 ^ k = e at *
   generalize v.getD k 0 * 4294967296 ^ k = f at *
   generalize c * (4294967296 : Int) ^ k = h at *
   omega

theorem acc2 {g v c : Int} (hg : 0 ≤ g) (hg' : g < 4294967296) (hv : 0 ≤ v) (hv' : v < 4294967296) (hc : 0 ≤ c) (hc' : c < 4294967296) :
  IntKind.u64.wrap ((IntKind.u64.wrap (g * (IntKind.u64.wrap v))) + c) = g * v + c ∧ 0 ≤ g * v + c ∧ g * v + c < 18446744073709551616 := by
 obtain ⟨h0, h1⟩ := mul_bound hg hg' hv hv'
 rw [u64w (x := v) hv (by omega)]
 generalize g * v = p at *
 rw [u64w (x := p) h0 (by omega), u64w (by omega) (by omega)]
 exact ⟨rfl, by omega, by omega⟩
theorem sub_l1 {v : List Int} (hv : OkL v) (hn : v.length ≤ 17592186044415) (g : Int) (hg : 0 ≤ g) (hg' : g < 4294967296) (W : Nat) (hW : W < 4294967296 ^ (v.length + 1))
  (Q Rm : Nat) (hdm : vl v * Q + Rm = W) (hml : Rm < vl v) (hlo : (Q : Int) ≤ g) (hhi : g ≤ (Q : Int) + 1) :
  ∀ (d k : Nat) (u : List Int) (c b : Int), k + d = v.length → u.length = v.length + 1 → OkL u → 0 ≤ c → c < 4294967296 → 0 ≤ b → b ≤ 1 → EqI (ev 4294967296 u - b * 4294967296 ^ k - c * 4294967296 ^ k) (W - g * ev 4294967296 (v.take k)) →
   Ev (fun q => natural_step.l1 q u v (v.length : Int) g c b v (v.length : Int) (k : Int)) ((Q : Int), pd (v.length + 1) (Rm)) := by
 have hRm : (Rm : Int) < 4294967296 ^ (v.length + 1) := by
  rw [← natPow]; exact Int.ofNat_lt.2 (by omega)
 have hdm' : (vl v : Int) * (Q : Int) + (Rm : Int) = W := by rw [← hdm]; simp
 intro d
 induction d with
 | zero =>
  intro k u c b hk hl hu hc0 hc1 hb0 hb1 he
  obtain rfl : k = v.length := by omega
  have hlt : v.length < u.length := by omega
  have hx := ok_get hu v.length hlt
  have ec : c % 4294967296 = c := Int.emod_eq_of_lt hc0 hc1
  obtain ⟨b1, b2, b3⟩ := borrow_step hx.1 hx.2 hc0 hc1 hb0 hb1
  have hsub := sub32_f hx.1 hx.2 hc0 hc1 hb0 hb1
  have hu' : OkL (u.set v.length ((u.getD v.length 0 - c - b) % 4294967296)) := ok_set hu _ (mod_ok _).1 (mod_ok _).2
  have h3 := ev_set 4294967296 u v.length ((u.getD v.length 0 - c - b) % 4294967296) hlt
  have he' := he.out
  rw [List.take_length, ← vl_cast hv] at he'
  have h4 := ev_nonneg (b := 4294967296) (by decide) hu'
  have h5 := ev_lt (b := 4294967296) (by decide) hu'
  rw [List.length_set, hl] at h5
  generalize ht : (if u.getD v.length 0 < c + b then (1 : Int) else 0) = t at *
  have hX : ev 4294967296 (u.set v.length ((u.getD v.length 0 - c - b) % 4294967296)) = W - g * (vl v : Int) + t * 4294967296 ^ (v.length + 1) := by
   rw [h3, b1, Int.pow_succ, ← he']
   grind
  rcases (show t = 0 ∨ t = 1 by omega) with h0 | h0
  ·-- no borrow: the guess is the digit
   subst h0
   rw [Int.zero_mul, Int.add_zero] at hX
   have hge : g = (Q : Int) := by
    rcases (show g = (Q : Int) ∨ g = (Q : Int) + 1 by omega) with h | h
    ·exact h
    ·exfalso
     rw [h, Int.add_mul, Int.one_mul, Int.mul_comm] at hX
     generalize (vl v : Int) * (Q : Int) = m at *
     clear he he' h3 b1
     omega
   have he2 : ev 4294967296 (u.set v.length ((u.getD v.length 0 - c - b) % 4294967296)) = (Rm : Int) := by
    rw [hX, hge, Int.mul_comm]
    generalize (vl v : Int) * (Q : Int) = m at *
    clear he he' h3 b1 hX
    omega
   have hpd := pd_eq (n := v.length + 1) hu' (by rw [List.length_set]; exact hl) (by rw [← Int.ofNat_lt, natPow]; exact hRm) he2
   rw [← hpd, ← hge]
   have eg : g % 4294967296 = g := Int.emod_eq_of_lt hg hg'
   refine Ev.step (f := fun _ => some (g, u.set v.length ((u.getD v.length 0 - c - b) % 4294967296))) (fun q => ?_) (Ev.now _)
   simp only [natural_step.l1]
   rw [if_neg (Int.lt_irrefl _), if_pos (Int.natCast_nonneg _), if_pos (by omega), rd_getD, ec, hsub, Option.bind_some, Option.bind_some, if_pos rfl, eg, Int.toNat_natCast]
  ·-- a borrow: the guess is one too great
   subst h0
   rw [Int.one_mul] at hX
   have hge : g = (Q : Int) + 1 := by
    rcases (show g = (Q : Int) ∨ g = (Q : Int) + 1 by omega) with h | h
    ·exfalso
     rw [h, Int.mul_comm] at hX
     generalize (vl v : Int) * (Q : Int) = m at *
     generalize (4294967296 : Int) ^ (v.length + 1) = Q at *
     clear he he' h3 b1
     omega
    ·exact h
   have hw : IntKind.u64.wrap (g - 1) % 4294967296 = (Q : Int) := by
    rw [u64w (by omega) (by omega), hge, Int.add_sub_cancel]
    exact Int.emod_eq_of_lt (by omega) (by omega)
   have hback := back_l2 hv hn g (ev 4294967296 (u.set v.length ((u.getD v.length 0 - c - b) % 4294967296))) (Rm) ⟨by
     rw [hX, hge, ← vl_cast hv, Int.add_mul, Int.one_mul, Int.mul_comm]
     generalize (vl v : Int) * (Q : Int) = m at *
     generalize (4294967296 : Int) ^ (v.length + 1) = Q at *
     clear he he' h3 b1 hX hw
     omega⟩ hRm v.length 0 (u.set v.length ((u.getD v.length 0 - c - b) % 4294967296)) 0 (by omega) (by rw [List.length_set]; exact hl) hu' (by decide) (by decide) ⟨by simp [ev]⟩
   rw [hw] at hback
   refine Ev.step (fun q => ?_) hback
   simp only [natural_step.l1]
   rw [if_neg (Int.lt_irrefl _), if_pos (Int.natCast_nonneg _), if_pos (by omega), rd_getD, ec, hsub, Option.bind_some, Option.bind_some, if_neg (show ¬ (1 : Int) = 0 by decide), Int.toNat_natCast]
   rfl
 | succ d ih =>
  intro k u c b hk hl hu hc0 hc1 hb0 hb1 he
  obtain ⟨c1, e1, hk1, hk2, hk3, c2⟩ := add_arith' v.length k d hn hk
  have hlt : k < u.length := by rw [hl]; exact hk3
  have c3 : (k : Int) < (u.length : Int) := by rw [hl]; exact c2
  have hx := ok_get hu k hlt
  have hy := ok_get hv k hk1
  obtain ⟨e2, t0, t1⟩ := acc2 hg hg' hy.1 hy.2 hc0 hc1
  have hd := div_lt_b t0 t1
  have hm := mod_ok (g * v.getD k 0 + c)
  obtain ⟨b1, b2, b3⟩ := borrow_step hx.1 hx.2 hm.1 hm.2 hb0 hb1
  have hsub := sub32_f hx.1 hx.2 hm.1 hm.2 hb0 hb1
  refine Ev.step (fun q => ?_) (ih (k + 1) (u.set k ((u.getD k 0 - (g * v.getD k 0 + c) % 4294967296 - b) % 4294967296)) ((g * v.getD k 0 + c) / 4294967296) (if u.getD k 0 < (g * v.getD k 0 + c) % 4294967296 + b then 1 else 0) hk2 (by rw [List.length_set]; exact hl) (ok_set hu _ (mod_ok _).1 (mod_ok _).2) hd.1 hd.2 b2 b3 ⟨?_⟩)
  ·simp only [natural_step.l1]
   rw [if_pos c1, if_pos (Int.natCast_nonneg k), if_pos c1, if_pos c3, rd_getD, rd_getD, e2, hsub, Option.bind_some, e1, Int.toNat_natCast]
  ·have hcs := carry_step (4294967296 ^ k) (g * v.getD k 0 + c)
   have he' := he.out
   rw [ev_set _ _ _ _ hlt, Int.pow_succ, ev_take_succ _ _ _ hk1, b1]
   generalize (if u.getD k 0 < (g * v.getD k 0 + c) % 4294967296 + b then (1 : Int) else 0) = t at *
   generalize (g * v.getD k 0 + c) % 4294967296 = m at *
   generalize (g * v.getD k 0 + c) / 4294967296 = q at *
   clear he ih hx hy hm hd hsub e2
   generalize (4294967296 : Int) ^ k = P at *
   have h1 : ev 4294967296 u = W - g * ev 4294967296 (v.take k) + b * P + c * P := by
    rw [← he']; generalize b * P = a; generalize c * P = e; omega
   have h2 : m * P = (g * v.getD k 0 + c) * P - q * (P * 4294967296) := by rw [← hcs]; generalize m * P = a; generalize q * (P * 4294967296) = e; omega
   have h3 : (u.getD k 0 - m - b + 4294967296 * t - u.getD k 0) * P = 4294967296 * t * P - m * P - b * P := by grind
   rw [h1, h3, h2]
   grind

theorem guess_l0 {w v : List Int} (hw : OkL w) (hv : OkL v) {n : Nat} (hn : v.length = n + 2) (hlw : w.length = n + 3) (hb : n ≤ 17592186044413) (hv1 : 0 < v.getD (n + 1) 0) (hlt : vl w < vl v * 4294967296) (Q Rm : Nat) (hdm : vl v * Q + Rm = vl w) (hml : Rm < vl v) (R : Int × List Int)
  (cont : ∀ g : Int, 0 ≤ g → g < 4294967296 → (Q : Int) ≤ g → g ≤ (Q : Int) + 1 → Ev (fun q => natural_step.j2 q w v (v.length : Int) g) R) :
  ∀ (m : Nat) (g r : Int), g.toNat = m → 0 ≤ g → g < 18446744073709551616 → 0 ≤ r → r < 4294967296 → EqI (g * v.getD (n + 1) 0 + r) (w.getD (n + 2) 0 * 4294967296 + w.getD (n + 1) 0) → (Q : Int) ≤ g →
   Ev (fun q => natural_step.l0 q w v (v.length : Int) g r) R := by
 have hW := ev_top3 hlw
 have hV := ev_top2 hn
 rw [← vl_cast hw] at hW
 rw [← vl_cast hv] at hV
 have hP := pow_pos' (b := 4294967296) (by decide) n
 have lw0 := take_nonneg hw n
 have lw1 := take_lt hw n (by omega)
 have lv0 := take_nonneg hv n
 have lv1 := take_lt hv n (by omega)
 have v10 := ok_get hv (n + 1) (by omega)
 have v20 := ok_get hv n (by omega)
 have w20 := ok_get hw (n + 2) (by omega)
 have w10 := ok_get hw (n + 1) (by omega)
 have w00 := ok_get hw n (by omega)
 have hv0 : 0 < vl v := by
  have h1 : 0 < (v.getD (n + 1) 0 * 4294967296 + v.getD n 0) * (4294967296 : Int) ^ n := Int.mul_pos (by omega) hP
  generalize (v.getD (n + 1) 0 * 4294967296 + v.getD n 0) * (4294967296 : Int) ^ n = a at *
  omega
 have hdm' : (vl v : Int) * (Q : Int) + (Rm : Int) = vl w := by rw [← hdm]; simp
 have hq : (Q : Int) * vl v ≤ vl w := by rw [Int.mul_comm]; omega
 have hq1 : (Q : Int) < 4294967296 := by
  rcases Nat.lt_or_ge Q 4294967296 with h | h
  ·omega
  ·have := Nat.mul_le_mul_left (vl v) h
   omega
 have hq2 : ∀ g : Int, (g - 1) * vl v ≤ vl w → g ≤ (Q : Int) + 1 := by
  intro g h
  apply Int.not_lt.1
  intro h2
  have h3 : ((Q : Int) + 1) * vl v ≤ (g - 1) * vl v := Int.mul_le_mul_of_nonneg_right (by omega) (by omega)
  rw [Int.add_mul, Int.one_mul, Int.mul_comm] at h3
  omega
 have htop : w.getD (n + 2) 0 ≤ v.getD (n + 1) 0 := by
  refine top_le (W := vl w) (D := vl v) (P := 4294967296 ^ n * 4294967296) ?_ ?_ (by rw [show ((vl v : Int) * 4294967296) = ((vl v * 4294967296 : Nat) : Int) by rw [Int.natCast_mul]; rfl]; exact Int.ofNat_lt.2 hlt) (Int.mul_pos hP (by decide))
  ·rw [hW]
   have h1 : 0 ≤ (w.getD (n + 1) 0 * 4294967296 + w.getD n 0) * (4294967296 : Int) ^ n := Int.mul_nonneg (by omega) (Int.le_of_lt hP)
   grind
  ·rw [hV]
   have h1 : (v.getD n 0 + 1) * (4294967296 : Int) ^ n ≤ 4294967296 * 4294967296 ^ n := Int.mul_le_mul_of_nonneg_right (by omega) (Int.le_of_lt hP)
   grind
 have e5 : (v.length : Int) = ((n + 2 : Nat) : Int) := by rw [hn]
 have i1 : wrap64 (((n + 2 : Nat) : Int) - 1) = ((n + 1 : Nat) : Int) := by rw [w64 (by omega) (by omega)]; omega
 have i2 : wrap64 (((n + 2 : Nat) : Int) - 2) = (n : Int) := by rw [w64 (by omega) (by omega)]; omega
 have l1 : ((n + 1 : Nat) : Int) < ((n + 2 : Nat) : Int) := by omega
 have l2 : (n : Int) < ((n + 2 : Nat) : Int) := by omega
 have l3 : (n : Int) < (w.length : Int) := by rw [hlw]; omega
 have ev1 : IntKind.u64.wrap (v.getD (n + 1) 0) = v.getD (n + 1) 0 := u64w v10.1 (by omega)
 have ev2 : IntKind.u64.wrap (v.getD n 0) = v.getD n 0 := u64w v20.1 (by omega)
 intro m
 induction m using Nat.strongRecOn with
 | _ m ih =>
  intro g r hgm hg0 hg1 hr0 hr1 he hge
  have eor := or64' (x := r) (y := w.getD n 0) hr0 hr1 w00.1 w00.2
  -- a guess that is too great is lowered
  have lower : (Q : Int) < g → Ev (fun q => natural_step.j1 q w v (v.length : Int) g r true) R := by
   intro hgt
   have ew : IntKind.u64.wrap (g - 1) = g - 1 := u64w (by omega) (by omega)
   have er : IntKind.u64.wrap (r + v.getD (n + 1) 0) = r + v.getD (n + 1) 0 := u64w (by omega) (by omega)
   have he2 : (g - 1) * v.getD (n + 1) 0 + (r + v.getD (n + 1) 0) = w.getD (n + 2) 0 * 4294967296 + w.getD (n + 1) 0 := by rw [← he.out]; grind
   by_cases hbr : r + v.getD (n + 1) 0 ≥ 4294967296
   ·have hgb : g - 1 < 4294967296 := by
     have h1 : (g - 1) * v.getD (n + 1) 0 < 4294967296 * v.getD (n + 1) 0 := by
      clear ih he eor
      have h2 : w.getD (n + 2) 0 * 4294967296 ≤ 4294967296 * v.getD (n + 1) 0 := by omega
      generalize (g - 1) * v.getD (n + 1) 0 = a at *
      omega
     exact Int.lt_of_mul_lt_mul_right h1 v10.1
    have hmb := mul_bound (show 0 ≤ g - 1 by omega) hgb v20.1 v20.2
    have hle := guess_le (b := 4294967296) (P := 4294967296 ^ n) (guess := g - 1) (rest := r + v.getD (n + 1) 0) hP (by decide) hW lw0 hV lv1 lv0 hv1 v20.1 he2 hgb (by
     generalize (g - 1) * v.getD n 0 = a at *
     clear ih he he2 eor hW hV hq hq2
     omega)
    refine Ev.step (fun q => ?_) (cont (g - 1) (by omega) hgb (by omega) (hq2 _ hle))
    simp only [natural_step.j1]
    rw [if_pos trivial, e5, i1, if_pos (Int.natCast_nonneg _), if_pos l1, rd_getD, ev1, er, if_pos hbr, ew]
   ·refine Ev.step (fun q => ?_) (ih (g - 1).toNat (by omega) (g - 1) (r + v.getD (n + 1) 0) rfl (by omega) (by omega) (by omega) (by omega) ⟨he2⟩ (by omega))
    simp only [natural_step.j1]
    rw [if_pos trivial, e5, i1, if_pos (Int.natCast_nonneg _), if_pos l1, rd_getD, ev1, er, if_neg hbr, ew]
  by_cases hbig : g ≥ 4294967296
  ·refine Ev.step (fun q => ?_) (lower (by omega))
   simp only [natural_step.l0]
   rw [if_pos hbig]
  ·have hmb := mul_bound hg0 (show g < 4294967296 by omega) v20.1 v20.2
   have em : IntKind.u64.wrap (g * v.getD n 0) = g * v.getD n 0 := u64w hmb.1 (by omega)
   by_cases ht : g * v.getD n 0 > r * 4294967296 + w.getD n 0
   ·have hgt := guess_gt (b := 4294967296) (P := 4294967296 ^ n) hP hW lw1 hV lv0 he.out hg0 ht (by omega) hq
    refine Ev.step (fun q => ?_) (lower hgt)
    simp only [natural_step.l0]
    rw [if_neg hbig, e5, i2, if_pos (Int.natCast_nonneg _), if_pos l2, if_pos l3, rd_getD, rd_getD, ev2, em, eor, decide_eq_true ht]
   ·have hle := guess_le (b := 4294967296) (P := 4294967296 ^ n) hP (by decide) hW lw0 hV lv1 lv0 hv1 v20.1 he.out (show g < 4294967296 by omega) (by omega)
    refine Ev.step (f := fun q => natural_step.j1 q w v (v.length : Int) g r false) (fun q => ?_) (Ev.step (fun q => ?_) (cont g hg0 (by omega) hge (hq2 _ hle)))
    ·simp only [natural_step.l0]
     rw [if_neg hbig, e5, i2, if_pos (Int.natCast_nonneg _), if_pos l2, if_pos l3, rd_getD, rd_getD, ev2, em, eor, decide_eq_false ht]
    ·simp only [natural_step.j1]
     rw [if_neg (by decide)]

theorem step_ev {w v : List Int} (hw : OkL w) (hv : OkL v) {n : Nat} (hn : v.length = n + 2) (hlw : w.length = n + 3) (hb : n ≤ 17592186044413) (hv1 : 0 < v.getD (n + 1) 0) (hlt : vl w < vl v * 4294967296) :
  Ev (fun q => natural_step.f q w v) (((vl w / vl v : Nat) : Int), pd (n + 3) (vl w % vl v)) := by
 have v10 := ok_get hv (n + 1) (by omega)
 have v20 := ok_get hv n (by omega)
 have w20 := ok_get hw (n + 2) (by omega)
 have w10 := ok_get hw (n + 1) (by omega)
 have w00 := ok_get hw n (by omega)
 have hV := ev_top2 hn
 have hW := ev_top3 hlw
 have hP := pow_pos' (b := 4294967296) (by decide) n
 rw [← vl_cast hv] at hV
 rw [← vl_cast hw] at hW
 have hv0 : 0 < vl v := by
  have h1 : 0 < (v.getD (n + 1) 0 * 4294967296 + v.getD n 0) * (4294967296 : Int) ^ n := Int.mul_pos (by omega) hP
  have h2 := take_nonneg hv n
  generalize (v.getD (n + 1) 0 * 4294967296 + v.getD n 0) * (4294967296 : Int) ^ n = a at *
  omega
 have hdm := Nat.div_add_mod (vl w) (vl v)
 have hml := Nat.mod_lt (vl w) hv0
 generalize vl w / vl v = Q at *
 generalize vl w % vl v = Rm at *
 have hdm' : (vl v : Int) * (Q : Int) + (Rm : Int) = vl w := by rw [← hdm]; simp
 have hq : (Q : Int) * vl v ≤ vl w := by rw [Int.mul_comm]; omega
 have hwlt : vl w < 4294967296 ^ (v.length + 1) := by
  have := ev_lt (b := 4294967296) (by decide) hw
  rw [← vl_cast hw, hlw, ← natPow] at this
  rw [hn]; exact Int.ofNat_lt.1 this
 have hgge := guess_ge (b := 4294967296) (P := 4294967296 ^ n) hP (by decide) hW (take_lt hw n (by omega)) w00.2 hV (take_nonneg hv n) hv1 v20.1 (Int.natCast_nonneg _) hq
 have htop0 : 0 ≤ w.getD (n + 2) 0 * 4294967296 + w.getD (n + 1) 0 := by omega
 have hd0 : 0 ≤ (w.getD (n + 2) 0 * 4294967296 + w.getD (n + 1) 0) / v.getD (n + 1) 0 := Int.ediv_nonneg htop0 v10.1
 have hd1 : (w.getD (n + 2) 0 * 4294967296 + w.getD (n + 1) 0) / v.getD (n + 1) 0 < 18446744073709551616 := Int.lt_of_le_of_lt (Int.ediv_le_self _ htop0) (by omega)
 have hr0 := Int.emod_nonneg (w.getD (n + 2) 0 * 4294967296 + w.getD (n + 1) 0) (show v.getD (n + 1) 0 ≠ 0 by omega)
 have hr1 := Int.emod_lt_of_pos (w.getD (n + 2) 0 * 4294967296 + w.getD (n + 1) 0) hv1
 have hem := Int.mul_ediv_add_emod (w.getD (n + 2) 0 * 4294967296 + w.getD (n + 1) 0) (v.getD (n + 1) 0)
 have eor := or64 (x := w.getD (n + 2) 0) (y := w.getD (n + 1) 0) w20.1 w20.2 w10.1 w10.2
 have ev1 : IntKind.u64.wrap (v.getD (n + 1) 0) = v.getD (n + 1) 0 := u64w v10.1 (by omega)
 have main := guess_l0 hw hv hn hlw hb hv1 hlt Q Rm hdm hml ((Q : Int), pd (n + 3) Rm) (fun g g0 g1 g2 g3 => by
  have hs := sub_l1 hv (by omega) g g0 g1 (vl w) hwlt Q Rm hdm hml g2 g3 v.length 0 w 0 0 (by omega) (by omega) hw (by decide) (by decide) (by decide) (by decide) ⟨by simp [ev, vl_cast hw]⟩
  rw [hn] at hs
  refine Ev.step (fun q => ?_) hs
  simp only [natural_step.j2]
  rw [hn]
  rfl) _ _ _ rfl hd0 hd1 hr0 (by omega) ⟨by rw [Int.mul_comm]; exact hem⟩ hgge
 have e5 : (v.length : Int) = ((n + 2 : Nat) : Int) := by rw [hn]
 have i1 : wrap64 (((n + 2 : Nat) : Int) - 1) = ((n + 1 : Nat) : Int) := by rw [w64 (by omega) (by omega)]; omega
 have l1 : ((n + 1 : Nat) : Int) < (v.length : Int) := by rw [hn]; omega
 have l2 : ((n + 1 : Nat) : Int) < (w.length : Int) := by rw [hlw]; omega
 have l3 : ((n + 2 : Nat) : Int) < (w.length : Int) := by rw [hlw]; omega
 refine Ev.congr (fun q => ?_) main
 unfold natural_step.f
 rw [e5, if_pos (Int.natCast_nonneg _), if_pos l3, i1, if_pos (Int.natCast_nonneg _), if_pos l2, if_pos (by rw [← e5]; exact l1), rd_getD, rd_getD, rd_getD, ev1, if_neg (by omega), eor,
  Int.tdiv_eq_ediv_of_nonneg htop0, Int.tmod_eq_emod_of_nonneg htop0, u64w hd0 hd1]


theorem two_split {s : Nat} (hs : s ≤ 32) : (4294967296 : Int) = 2 ^ s * 2 ^ (32 - s) := by
 rw [← Int.pow_add, show s + (32 - s) = 32 by omega]; rfl
theorem two_pos (s : Nat) : 0 < (2 : Int) ^ s := Int.pow_pos (by decide)
theorem two_cast (s : Nat) : ((2 ^ s : Nat) : Int) = (2 : Int) ^ s := by rw [Int.natCast_pow]; rfl
theorem two_lt {s : Nat} (hs : s ≤ 31) : (2 : Int) ^ s ≤ 2147483648 := by
 have : (2 : Nat) ^ s ≤ 2 ^ 31 := Nat.pow_le_pow_right (by decide) hs
 rw [← two_cast]; have h31 : (2 : Nat) ^ 31 = 2147483648 := rfl
 omega
theorem low_room {x S M : Int} (hS : 0 < S) (hB : (4294967296 : Int) = S * M) (hx : x % S = 0) (hx' : x < 4294967296) : x + S ≤ 4294967296 := by
 have h1 := Int.mul_ediv_add_emod x S
 rw [hx, Int.add_zero] at h1
 have h2 : S * (x / S) < S * M := by rw [h1, ← hB]; exact hx'
 have h3 : x / S < M := Int.lt_of_mul_lt_mul_left h2 (Int.le_of_lt hS)
 have h4 : S * (x / S + 1) ≤ S * M := Int.mul_le_mul_of_nonneg_left (by omega) (Int.le_of_lt hS)
 rw [Int.mul_add, h1, Int.mul_one, ← hB] at h4
 exact h4

theorem shift_digit {a o : Int} {s : Nat} (hs : s ≤ 31) (ha : 0 ≤ a) (ha' : a < 4294967296) (ho : 0 ≤ o) (ho' : o < 2 ^ s) :
  shl .u64 (IntKind.u64.wrap a) (s : Int) = a * 2 ^ s ∧ Go.bits .or .u32 o ((a * 2 ^ s) % 4294967296) = o + (a * 2 ^ s) % 4294967296 ∧ o + (a * 2 ^ s) % 4294967296 < 4294967296 ∧ 0 ≤ (a * 2 ^ s) / 4294967296 ∧ (a * 2 ^ s) / 4294967296 < 2 ^ s ∧ (a * 2 ^ s) / 4294967296 < 4294967296 ∧
  Go.bits .or .u32 0 ((a * 2 ^ s) / 4294967296 % 4294967296) = (a * 2 ^ s) / 4294967296 := by
 have hS := two_pos s
 have hS2 := two_lt hs
 have hB := two_split (show s ≤ 32 by omega)
 have h0 : 0 ≤ a * 2 ^ s := Int.mul_nonneg ha (Int.le_of_lt hS)
 have h1 : a * 2 ^ s < 4294967296 * 2 ^ s := Int.mul_lt_mul_of_pos_right ha' hS
 have hmod : (a * 2 ^ s) % 4294967296 % 2 ^ s = 0 := by
  rw [Int.emod_emod_of_dvd _ ⟨2 ^ (32 - s), hB⟩, Int.mul_emod_left]
 have hm := mod_ok (a * 2 ^ s)
 have hroom := low_room hS hB hmod hm.2
 have e1 : shl .u64 (IntKind.u64.wrap a) (s : Int) = a * 2 ^ s := by
  unfold shl
  rw [u64w ha (by omega), Int.toNat_natCast, show IntKind.u64.bits = 64 from rfl, Nat.min_eq_left (by omega), u64w h0 (by omega)]
 have hd0 : 0 ≤ (a * 2 ^ s) / 4294967296 := Int.ediv_nonneg h0 (by decide)
 have hd1 : (a * 2 ^ s) / 4294967296 < 2 ^ s := Int.ediv_lt_of_lt_mul (by decide) (by rw [Int.mul_comm (2 ^ s)]; exact h1)
 generalize ha2 : a * 2 ^ s = t at *
 have hd2 : t / 4294967296 < 4294967296 := by omega
 refine ⟨e1, or32 s ho ho' (by omega) hm.1 hmod hm.2, by omega, hd0, hd1, hd2, ?_⟩
 rw [Int.emod_eq_of_lt hd0 hd2, or32 0 (by decide) (by decide) (by decide) hd0 (by omega) hd2, Int.zero_add]
structure LtI (a b : Int) : Prop where
 out : a < b
theorem shift_end {z x q Q : Int} (hQ : 0 < Q) (hx : 0 ≤ x) (hz : 0 ≤ z) (hq : 0 ≤ q) (h : z + (x + q * Q) < Q) : q = 0 := by
 rcases (show q = 0 ∨ 1 ≤ q by omega) with h1 | h1
 ·exact h1
 ·exfalso
  have h2 : 1 * Q ≤ q * Q := Int.mul_le_mul_of_nonneg_right h1 (Int.le_of_lt hQ)
  generalize q * Q = y at *
  omega
theorem shift_hi {N i : Nat} {x z q : Int} (hN : N = i + 1) (hq : 0 ≤ q) (hz : 0 ≤ z) (hx : 0 ≤ x) (h : z + (x * 4294967296 ^ i + q * (4294967296 ^ i * 4294967296)) < 4294967296 ^ N) : q = 0 := by
 rw [hN, Int.pow_succ] at h
 have hQ : 0 < (4294967296 : Int) ^ i * 4294967296 := Int.mul_pos (pow_pos' (by decide) i) (by decide)
 have hx2 : 0 ≤ x * 4294967296 ^ i := Int.mul_nonneg hx (Int.le_of_lt (pow_pos' (by decide) i))
 exact shift_end hQ hx2 hz hq h
theorem add_swap (a b c : Int) : a + b + c = a + (b + c) := Int.add_assoc a b c
theorem shift_l0 {a : List Int} (ha : OkL a) {s : Nat} (hs : s ≤ 31) {N : Nat} (hN : a.length ≤ N) (hb : N ≤ 17592186044415) (hfit : LtI (ev 4294967296 a * 2 ^ s) (4294967296 ^ N)) : ∀ (d i : Nat) (out : List Int), i + d = a.length → out.length = N → OkL out → (∀ j, i < j → out.getD j 0 = 0) → LtI (out.getD i 0) (2 ^ s) → EqI (ev 4294967296 out) (ev 4294967296 (a.take i) * 2 ^ s) →
  Ev (fun k => natural_shift.l0 k (s : Int) (N : Int) out a (a.length : Int) (i : Int)) (pd N (vl a * 2 ^ s)) := by
 intro d
 induction d with
 | zero =>
  intro i out hi hl ho _ _ he
  have hi' : i = a.length := hi
  subst hi'
  have hcast : ((vl a * 2 ^ s : Nat) : Int) = ev 4294967296 a * 2 ^ s := by rw [Int.natCast_mul, vl_cast ha, two_cast]
  have he' := he.out
  rw [List.take_length, ← hcast] at he'
  have hpd := pd_eq (n := N) ho hl (by rw [← Int.ofNat_lt, natPow, hcast]; exact hfit.out) he'
  rw [← hpd]
  refine Ev.step (f := fun _ => some out) (fun k => ?_) (Ev.now _)
  simp only [natural_shift.l0]
  rw [if_neg (Int.lt_irrefl _)]
 | succ d ih =>
  intro i out hi hl ho hz hlow he
  obtain ⟨c1, e1, hi1, hi2, _, _⟩ := add_arith a.length i d (by omega) hi
  have hlt1 : i < out.length := by omega
  have c3 : (i : Int) < (out.length : Int) := Int.ofNat_lt.2 hlt1
  have hx := ok_get ha i hi1
  have hoi := ok_get ho i hlt1
  have f := shift_digit hs hx.1 hx.2 hoi.1 hlow.out
  have hcs := carry_step (4294967296 ^ i) (a.getD i 0 * 2 ^ s)
  have hm := mod_ok (a.getD i 0 * 2 ^ s)
  have ho1 : OkL (out.set i (out.getD i 0 + (a.getD i 0 * 2 ^ s) % 4294967296)) := ok_set ho _ (Int.add_nonneg hoi.1 hm.1) f.2.2.1
  have he1 : ev 4294967296 (out.set i (out.getD i 0 + (a.getD i 0 * 2 ^ s) % 4294967296)) = ev 4294967296 (a.take i) * 2 ^ s + (a.getD i 0 * 2 ^ s) % 4294967296 * 4294967296 ^ i := by
   rw [ev_set _ _ _ _ hlt1, he.out, Int.add_comm (out.getD i 0), Int.add_sub_cancel]
  have htk : ev 4294967296 (a.take (i + 1)) * 2 ^ s = ev 4294967296 (a.take i) * 2 ^ s + a.getD i 0 * 2 ^ s * 4294967296 ^ i := by
   rw [ev_take_succ _ _ _ hi1, Int.add_mul, Int.mul_right_comm]
  have hz1 : (out.set i (out.getD i 0 + (a.getD i 0 * 2 ^ s) % 4294967296)).getD (i + 1) 0 = 0 := by
   rw [getD_set _ _ _ _ hlt1, if_neg (Nat.ne_of_lt (Nat.lt_succ_self i))]; exact hz _ (Nat.lt_succ_self i)
  by_cases hN1 : i + 1 < N
  ·have hlt2 : i + 1 < (out.set i (out.getD i 0 + (a.getD i 0 * 2 ^ s) % 4294967296)).length := by rw [List.length_set, hl]; exact hN1
   have c5 : ((i + 1 : Nat) : Int) < (N : Int) := Int.ofNat_lt.2 hN1
   have c6 : ((i + 1 : Nat) : Int) < (out.length : Int) := by rw [hl]; exact c5
   refine Ev.step (fun k => ?_) (ih (i + 1) ((out.set i (out.getD i 0 + (a.getD i 0 * 2 ^ s) % 4294967296)).set (i + 1) ((a.getD i 0 * 2 ^ s) / 4294967296)) hi2 (by rw [List.length_set, List.length_set]; exact hl) (ok_set ho1 _ f.2.2.2.1 f.2.2.2.2.2.1) ?_ ⟨?_⟩ ⟨?_⟩)
   ·simp only [natural_shift.l0]
    rw [if_pos c1, if_pos (Int.natCast_nonneg i), if_pos c3, if_pos (Int.natCast_nonneg s), rd_getD, rd_getD, f.1, f.2.1]
    simp only [if_pos c1, Option.bind_some, e1, if_pos c5, if_pos c6, if_pos (Int.natCast_nonneg (i + 1)), rd_getD, Int.toNat_natCast, hz1, f.2.2.2.2.2.2]
   ·intro j hj
    rw [getD_set _ _ _ _ hlt2, if_neg (Nat.ne_of_lt hj), getD_set _ _ _ _ hlt1, if_neg (Nat.ne_of_lt (Nat.lt_of_succ_lt hj))]
    exact hz j (Nat.lt_of_succ_lt hj)
   ·rw [getD_set _ _ _ _ hlt2, if_pos rfl]; exact f.2.2.2.2.1
   ·rw [ev_set _ _ _ _ hlt2, hz1, he1, Int.sub_zero, htk, ← hcs, Int.pow_succ, add_swap]
  ·have hd0 : d = 0 := by clear f hcs hm ho1 he1 htk hz1 he hlow hz hfit hx hoi; omega
   subst hd0
   have hN2 : N = i + 1 := by clear f hcs hm ho1 he1 htk hz1 he hlow hz hfit hx hoi; omega
   have hal : a.take (i + 1) = a := List.take_of_length_le (by clear f hcs hm ho1 he1 htk hz1 he hlow hz hfit hx hoi; omega)
   have hhi : (a.getD i 0 * 2 ^ s) / 4294967296 = 0 := by
    have h := hfit.out
    rw [hal] at htk
    rw [htk, ← hcs] at h
    have ht : OkL (a.take i) := ok_take ha i
    exact shift_hi hN2 f.2.2.2.1 (Int.mul_nonneg (ev_nonneg (b := 4294967296) (by decide) ht) (Int.le_of_lt (two_pos s))) hm.1 h
   rw [hhi, Int.zero_mul, Int.add_zero] at hcs
   have c5 : ¬ ((i + 1 : Nat) : Int) < (N : Int) := by rw [hN2]; exact Int.lt_irrefl _
   refine Ev.step (fun k => ?_) (ih (i + 1) (out.set i (out.getD i 0 + (a.getD i 0 * 2 ^ s) % 4294967296)) hi2 (by rw [List.length_set]; exact hl) ho1 ?_ ⟨?_⟩ ⟨?_⟩)
   ·simp only [natural_shift.l0]
    rw [if_pos c1, if_pos (Int.natCast_nonneg i), if_pos c3, if_pos (Int.natCast_nonneg s), rd_getD, rd_getD, f.1, f.2.1]
    simp only [if_pos c1, Option.bind_some, e1, if_neg c5, Int.toNat_natCast]
   ·intro j hj
    rw [getD_set _ _ _ _ hlt1, if_neg (Nat.ne_of_lt (Nat.lt_of_succ_lt hj))]
    exact hz j (Nat.lt_of_succ_lt hj)
   ·rw [hz1]; exact two_pos s
   ·rw [he1, htk, hcs]
theorem shift_ev {a : List Int} (ha : OkL a) {s : Nat} (hs : s ≤ 31) {N : Nat} (hN : a.length ≤ N) (hb : N ≤ 17592186044415) (hlt : vl a * 2 ^ s < 4294967296 ^ N) : Ev (fun k => natural_shift.f k a (s : Int) (N : Int)) (pd N (vl a * 2 ^ s)) := by
 have hcast : ((vl a * 2 ^ s : Nat) : Int) = ev 4294967296 a * 2 ^ s := by rw [Int.natCast_mul, vl_cast ha, two_cast]
 have h := shift_l0 ha hs hN hb ⟨by rw [← hcast, ← natPow]; exact Int.ofNat_lt.2 hlt⟩ a.length 0 (List.replicate N 0) (by omega) (by simp) (ok_replicate (by decide) _) (fun j _ => zeros_getD _ j) ⟨by rw [zeros_getD]; exact two_pos s⟩ ⟨by rw [ev_replicate]; simp [ev]⟩
 refine Ev.congr (fun k => ?_) h
 unfold natural_shift.f
 rw [if_pos (Int.natCast_nonneg _), if_pos (by omega), Int.toNat_natCast]; rfl

theorem unshift_digit {a b S M : Int} (hS : 0 < S) (hB : (4294967296 : Int) = S * M) (ha : 0 ≤ a) (ha' : a < 4294967296) (hb : 0 ≤ b) :
  (b * 4294967296 + a) / S % 4294967296 = a / S + M * (b % S) ∧ 0 ≤ a / S + M * (b % S) ∧ a / S + M * (b % S) < 4294967296 ∧ S * (a / S + M * (b % S)) = a - a % S + b % S * 4294967296 := by
 have hM : 0 < M := by
  apply Int.lt_of_mul_lt_mul_left (a := S) _ (Int.le_of_lt hS)
  rw [Int.mul_zero, ← hB]; decide
 have h1 := Int.mul_ediv_add_emod a S
 have h2 := Int.mul_ediv_add_emod b S
 have hl0 := Int.emod_nonneg b (show S ≠ 0 by omega)
 have hl1 := Int.emod_lt_of_pos b hS
 have hq0 : 0 ≤ a / S := Int.ediv_nonneg ha (Int.le_of_lt hS)
 have hq1 : a / S < M := Int.ediv_lt_of_lt_mul hS (by rw [Int.mul_comm, ← hB]; exact ha')
 have e1 : (b * 4294967296 + a) / S = a / S + M * b := by
  rw [hB, show b * (S * M) + a = a + S * (M * b) by grind, Int.add_mul_ediv_left _ _ (by omega)]
 have e2 : a / S + M * b = a / S + M * (b % S) + 4294967296 * (b / S) := by
  conv => lhs; rw [← h2]
  rw [hB]; grind
 have hm0 : 0 ≤ M * (b % S) := Int.mul_nonneg (Int.le_of_lt hM) hl0
 have hm1 : M * (b % S) + M ≤ 4294967296 := by
  have : M * (b % S + 1) ≤ M * S := Int.mul_le_mul_of_nonneg_left (by omega) (Int.le_of_lt hM)
  rw [hB, Int.mul_comm S M]
  rw [Int.mul_add, Int.mul_one] at this
  exact this
 refine ⟨?_, by omega, by omega, ?_⟩
 ·rw [e1, e2, Int.add_mul_emod_self_left]
  exact Int.emod_eq_of_lt (by omega) (by omega)
 ·rw [Int.mul_add, ← Int.mul_assoc, ← hB, Int.mul_comm 4294967296]
  have : S * (a / S) = a - a % S := by omega
  rw [this]
theorem or64c {x y : Int} (hx : 0 ≤ x) (hx' : x < 4294967296) (hy : 0 ≤ y) (hy' : y < 4294967296) : Go.bits .or .u64 (IntKind.u64.wrap y) (IntKind.u64.wrap ((IntKind.u64.wrap x) * 4294967296)) = x * 4294967296 + y := by
 rw [← or64 hx hx' hy hy']
 have h1 : IntKind.u64.wrap y = y := u64w hy (by omega)
 have h2 : IntKind.u64.wrap ((IntKind.u64.wrap x) * 4294967296) = x * 4294967296 := by rw [u64w (x := x) hx (by omega), u64w (by omega) (by omega)]
 rw [h1, h2]
 exact or_comm' (j := 64) (by decide) wraps_u64 hy (by omega) (by omega) (by omega)
theorem shr64 (x : Int) {s : Nat} (hs : s ≤ 31) : shr .u64 x (s : Int) = x / 2 ^ s := by
 unfold shr
 rw [Int.toNat_natCast, show IntKind.u64.bits = 64 from rfl, Nat.min_eq_left (by omega)]
theorem unshift_l0 {u : List Int} (hu : OkL u) (hn : u.length ≤ 17592186044415) {s : Nat} (hs : s ≤ 31) : ∀ (d i : Nat) (out : List Int), i + d = u.length → out.length = u.length → OkL out → (∀ j, i ≤ j → out.getD j 0 = 0) → EqI (2 ^ s * ev 4294967296 out + u.getD 0 0 % 2 ^ s) (ev 4294967296 (u.take i) + u.getD i 0 % 2 ^ s * 4294967296 ^ i) →
  Ev (fun k => natural_unshift.l0 k u (s : Int) out (u.length : Int) (i : Int)) (lm (vl u / 2 ^ s)) := by
 have hS := two_pos s
 have hS2 := two_lt hs
 have hB := two_split (show s ≤ 32 by omega)
 intro d
 induction d with
 | zero =>
  intro i out hi hl ho _ he
  obtain rfl : i = u.length := by omega
  have he' := he.out
  rw [getD_out u u.length (Nat.le_refl _), List.take_length, ← vl_cast hu, ← vl_cast ho, Int.zero_emod, Int.zero_mul, Int.add_zero] at he'
  have hv : vl out = vl u / 2 ^ s := by
   have h0 := Int.emod_nonneg (u.getD 0 0) (show (2 : Int) ^ s ≠ 0 by omega)
   have h1 := Int.emod_lt_of_pos (u.getD 0 0) hS
   have h2 : (vl u : Int) / 2 ^ s = (vl out : Int) := by
    rw [← he', Int.add_comm, Int.add_mul_ediv_left _ _ (by omega), Int.ediv_eq_zero_of_lt h0 h1, Int.zero_add]
   rw [← two_cast, ← Int.natCast_ediv] at h2
   exact (Int.ofNat_inj.1 h2).symm
  refine Ev.step (f := fun k => (natural_limbs_trim.f k out).bind fun t => some t) (fun k => ?_) (Ev.bind (by rw [← hv]; exact trim_ev ho (by omega)) (Ev.now _))
  simp only [natural_unshift.l0]
  rw [if_neg (Int.lt_irrefl _)]
 | succ d ih =>
  intro i out hi hl ho hz he
  obtain ⟨c1, e1, hi1, hi2, _, _⟩ := add_arith u.length i d (by omega) hi
  have hlt : i < out.length := by omega
  have c3 : (i : Int) < (out.length : Int) := by omega
  have hx := ok_get hu i hi1
  have hy := ok_getD (b := 4294967296) (by decide) hu (i + 1)
  have hz0 := hz i (Nat.le_refl _)
  obtain ⟨f1, f2, f3, f4⟩ := unshift_digit (S := 2 ^ s) (M := 2 ^ (32 - s)) hS hB hx.1 hx.2 hy.1
  have next := ih (i + 1) (out.set i ((u.getD (i + 1) 0 * 4294967296 + u.getD i 0) / 2 ^ s % 4294967296)) hi2 (by rw [List.length_set]; exact hl) (ok_set ho _ (mod_ok _).1 (mod_ok _).2) (set_zero hlt hz) ⟨by
   have he' := he.out
   rw [ev_set _ _ _ _ hlt, hz0, Int.sub_zero, ev_take_succ _ _ _ hi1, f1, Int.mul_add, ← Int.mul_assoc, f4, Int.pow_succ]
   rw [show (2 : Int) ^ s * ev 4294967296 out = ev 4294967296 (u.take i) + u.getD i 0 % 2 ^ s * 4294967296 ^ i - u.getD 0 0 % 2 ^ s by rw [← he']; generalize (2 : Int) ^ s * ev 4294967296 out = e; generalize u.getD 0 0 % 2 ^ s = f; omega]
   grind⟩
  by_cases hlast : i + 1 < u.length
  ·refine Ev.step (fun k => ?_) next
   simp only [natural_unshift.l0]
   rw [if_pos c1, if_pos (Int.natCast_nonneg i), if_pos c1, e1, if_pos (by omega), if_pos (Int.natCast_nonneg _), if_pos (Int.natCast_nonneg s), if_pos c3, rd_getD, rd_getD, or64c hy.1 hy.2 hx.1 hx.2, shr64 _ hs, Int.toNat_natCast]
  ·have hu0 : u.getD (i + 1) 0 = 0 := getD_out u _ (by omega)
   rw [hu0, Int.zero_mul, Int.zero_add] at next
   refine Ev.step (fun k => ?_) next
   simp only [natural_unshift.l0]
   rw [if_pos c1, if_pos (Int.natCast_nonneg i), if_pos c1, e1, if_neg (by omega), if_pos (Int.natCast_nonneg s), if_pos c3, rd_getD, u64w hx.1 (by omega), shr64 _ hs, Int.toNat_natCast]
theorem unshift_ev {u : List Int} (hu : OkL u) (hn : u.length ≤ 17592186044415) {s : Nat} (hs : s ≤ 31) : Ev (fun k => natural_unshift.f k u (s : Int)) (lm (vl u / 2 ^ s)) := by
 have h := unshift_l0 hu hn hs u.length 0 (List.replicate u.length 0) (by omega) (by simp) (ok_replicate (by decide) _) (fun j _ => zeros_getD _ j) ⟨by rw [ev_replicate]; simp [ev]⟩
 refine Ev.congr (fun k => ?_) h
 unfold natural_unshift.f
 rw [if_pos (Int.natCast_nonneg _), if_pos (by omega), Int.toNat_natCast]; rfl


theorem pd_top : ∀ n v, v < 4294967296 ^ n → pd (n + 1) v = pd n v ++ [0]
 | 0, v, h => by
  have : v = 0 := by simp only [Nat.pow_zero] at h; omega
  subst this; rfl
 | n + 1, v, h => by
  have h1 : v / 4294967296 < 4294967296 ^ n := by
   rw [Nat.pow_succ] at h
   exact Nat.div_lt_of_lt_mul (by rw [Nat.mul_comm]; exact h)
  rw [pd, pd_top n _ h1]; rfl
theorem vl_pd {n v : Nat} (h : v < 4294967296 ^ n) : vl (pd n v) = v := by
 have := pd_ev n v h
 rw [← vl_cast (pd_ok n v)] at this
 exact Int.ofNat_inj.1 this
theorem vl_cons {x : Int} {l : List Int} (hx : 0 ≤ x) (h : OkL l) (hx' : x < 4294967296) : vl (x :: l) = x.toNat + 4294967296 * vl l := by
 apply Int.ofNat_inj.1
 rw [vl_cast (ok_cons.2 ⟨⟨hx, hx'⟩, h⟩), Int.natCast_add, Int.natCast_mul, vl_cast h, Int.toNat_of_nonneg hx]; rfl
theorem vl_lt {l : List Int} (h : OkL l) : vl l < 4294967296 ^ l.length := by
 have := ev_lt (b := 4294967296) (by decide) h
 rw [← vl_cast h, ← natPow] at this
 exact Int.ofNat_lt.1 this

theorem window_eq {p w z : List Int} {j m : Nat} (hp : p.length = j) (hw : w.length = m) : ((p ++ w ++ z).take (j + m)).drop j = w := by
 subst hp; subst hw
 rw [← List.length_append, List.take_left, List.drop_left]
theorem take_eq {p w z : List Int} {j : Nat} (hp : p.length = j) : (p ++ w ++ z).take j = p := by
 subst hp; rw [List.append_assoc, List.take_left]
theorem drop_eq {p w z : List Int} {j m : Nat} (hp : p.length = j) (hw : w.length = m) : (p ++ w ++ z).drop (j + m) = z := by
 subst hp; subst hw; rw [← List.length_append, List.drop_left]
theorem stepw_ev {p w z v : List Int} (hw : OkL w) (hv : OkL v) {n : Nat} (hn : v.length = n + 2) (hlw : w.length = n + 3) (hb : n ≤ 17592186044413) (hv1 : 0 < v.getD (n + 1) 0) (hlt : vl w < vl v * 4294967296) {j : Nat} (hp : p.length = j) :
  Ev (fun k => natural_stepw.f k (p ++ w ++ z) (j : Int) ((j + (n + 3) : Nat) : Int) v) (((vl w / vl v : Nat) : Int), p ++ pd (n + 3) (vl w % vl v) ++ z) := by
 have hs := step_ev hw hv hn hlw hb hv1 hlt
 refine Ev.congr (f := fun k => (natural_step.f k w v).bind fun y => some (y.1, p ++ y.2 ++ z)) (fun k => ?_) (Ev.bind hs (Ev.now _))
 unfold natural_stepw.f
 rw [if_pos ⟨Int.natCast_nonneg _, by omega, by rw [List.length_append, List.length_append]; omega⟩, Int.toNat_natCast, Int.toNat_natCast, window_eq hp hlw, take_eq hp, drop_eq hp hlw]

theorem quo_arith {A D V Q R x q : Nat} (hD : 0 < D) (hQ : V / D = Q) (hR : V % D = R) (hx : x < 4294967296) : (x + 4294967296 * R) < D * 4294967296 ∧ (x + 4294967296 * V) / D = 4294967296 * Q + (x + 4294967296 * R) / D ∧ (x + 4294967296 * V) % D = (x + 4294967296 * R) % D ∧ (x + 4294967296 * R) / D < 4294967296 := by
 have h1 := Nat.div_add_mod V D
 have h2 : R < D := hR ▸ Nat.mod_lt V hD
 rw [hQ, hR] at h1
 have h3 : x + 4294967296 * V = (x + 4294967296 * R) + D * (4294967296 * Q) := by rw [← h1]; grind
 have h4 : x + 4294967296 * R < D * 4294967296 := by omega
 refine ⟨h4, ?_, ?_, Nat.div_lt_of_lt_mul h4⟩
 ·rw [h3, Nat.add_mul_div_left _ _ hD, Nat.add_comm]
 ·rw [h3, Nat.add_mul_mod_self_left]
theorem pd_cons_eq {n Q q : Nat} (hq : q < 4294967296) : pd (n + 1) (4294967296 * Q + q) = (q : Int) :: pd n Q := by
 rw [pd, Nat.mul_add_mod, Nat.mod_eq_of_lt hq, Nat.mul_add_div (by decide), Nat.div_eq_of_lt hq, Nat.add_zero]
theorem set_mid (q : Int) (l : List Int) (j : Nat) : (List.replicate (j + 1) 0 ++ l).set j q = List.replicate j 0 ++ (q :: l) := by
 rw [List.set_append_left _ _ (by simp), List.replicate_succ', List.set_append_right _ _ (by simp)]
 simp
theorem drop_cons' (A : List Int) {j : Nat} (hj : j < A.length) : A.drop j = A.getD j 0 :: A.drop (j + 1) := by
 rw [List.drop_eq_getElem_cons hj]
 simp [List.getD, hj]
theorem take_snoc (A : List Int) {j : Nat} (hj : j < A.length) : A.take (j + 1) = A.take j ++ [A.getD j 0] := by
 rw [List.take_add_one]
 simp [List.getD, hj]
theorem wrap_small (a : Int) (h0 : -9223372036854775808 ≤ a) (h : a ≤ 9223372036854775807) : wrap64 a = a := by unfold wrap64; omega
theorem window_arith {j n : Nat} (hj : j + n ≤ 17592186044413) : wrap64 (wrap64 ((j : Int) + ((n + 2 : Nat) : Int)) + 1) = ((j + (n + 3) : Nat) : Int) ∧ wrap64 ((j : Int) - 1) = (j : Int) - 1 := by
 refine ⟨?_, wrap_small _ (by omega) (by omega)⟩
 rw [wrap_small ((j : Int) + ((n + 2 : Nat) : Int)) (by omega) (by omega), wrap_small _ (by omega) (by omega)]; omega
theorem vl_pos {v : List Int} (hv : OkL v) {n : Nat} (hn : v.length = n + 2) (h : 0 < v.getD (n + 1) 0) : 0 < vl v := by
 have h1 := ev_top2 hn
 have h2 := ev_nonneg (b := 4294967296) (by decide) (ok_take hv n)
 have h3 := ok_get hv n (by omega)
 have h4 : 0 < (v.getD (n + 1) 0 * 4294967296 + v.getD n 0) * 4294967296 ^ n := Int.mul_pos (by omega) (pow_pos' (by decide) n)
 rw [← vl_cast hv] at h1
 generalize (v.getD (n + 1) 0 * 4294967296 + v.getD n 0) * 4294967296 ^ n = y at *
 generalize ev 4294967296 (v.take n) = z at *
 omega
theorem steps_arith (j n C : Nat) (hj : j + 1 ≤ C) (hb : C + n ≤ 17592186044413) : C - j = C - (j + 1) + 1 ∧ j ≤ C ∧ ((j + 1 : Nat) : Int) - 1 = (j : Int) ∧ (j : Int) ≥ 0 ∧ (j : Int) ≤ ((j + (n + 3) : Nat) : Int) ∧ ((j + (n + 3) : Nat) : Int) ≤ ((C + (n + 2) : Nat) : Int) ∧ wrap64 (wrap64 ((j : Int) + ((n + 2 : Nat) : Int)) + 1) = ((j + (n + 3) : Nat) : Int) ∧ wrap64 ((j : Int) - 1) = (j : Int) - 1 := by
 obtain ⟨w1, w2⟩ := window_arith (j := j) (n := n) (by omega)
 refine ⟨by omega, by omega, by omega, by omega, by omega, by omega, w1, w2⟩
structure LtN (a b : Nat) : Prop where
 out : a < b
theorem mod_fit {v : List Int} (hv : OkL v) {n : Nat} (hn : v.length = n + 2) (hv1 : 0 < v.getD (n + 1) 0) (x : Nat) : LtN (x % vl v) (4294967296 ^ (n + 2)) :=
 ⟨Nat.lt_trans (Nat.mod_lt _ (vl_pos hv hn hv1)) (by rw [← hn]; exact vl_lt hv)⟩
theorem divide_l0 {A v : List Int} (hA : OkL A) (hv : OkL v) {n C s : Nat} (hn : v.length = n + 2) (hAl : A.length = C + (n + 2)) (hb : C + n ≤ 17592186044413) (hv1 : 0 < v.getD (n + 1) 0) (hs : s ≤ 31) (hC : LtN (vl A / vl v) (4294967296 ^ C)) :
  ∀ (j : Nat), j ≤ C → ∀ (u : List Int), u = A.take j ++ pd (n + 2) (vl (A.drop j) % vl v) ++ List.replicate (C - j) 0 →
   Ev (fun k => natural_divide.l0 k (s : Int) ((n + 2 : Nat) : Int) v u (List.replicate j 0 ++ pd (C - j) (vl (A.drop j) / vl v)) ((j : Int) - 1)) (lm (vl A / vl v), lm (vl A % vl v / 2 ^ s)) := by
 have hD : 0 < vl v := vl_pos hv hn hv1
 have fit := mod_fit hv hn hv1
 intro j
 induction j with
 | zero =>
  intro _ u hu
  have h1 := trim_ev (pd_ok C (vl A / vl v)) (by rw [pd_length]; omega)
  rw [vl_pd hC.out] at h1
  have h2 := unshift_ev (pd_ok (n + 2) (vl A % vl v)) (by rw [pd_length]; omega) hs
  rw [vl_pd (fit _).out] at h2
  refine Ev.step (f := fun k => (natural_limbs_trim.f k (pd C (vl A / vl v))).bind fun t => (natural_unshift.f k (pd (n + 2) (vl A % vl v)) (s : Int)).bind fun r => some (t, r)) (fun k => ?_) (Ev.bind h1 (Ev.bind h2 (Ev.now _)))
  have hl : u.length = (n + 2) + C := by rw [hu, List.take_zero, List.nil_append, List.length_append, pd_length, List.length_replicate]; rfl
  have ht : u.take (n + 2) = pd (n + 2) (vl A % vl v) := by
   rw [hu, List.take_zero, List.nil_append, List.drop_zero]
   exact List.take_left' (pd_length _ _)
  simp only [natural_divide.l0]
  rw [if_neg (by omega)]
  simp only [if_pos (Int.natCast_nonneg (n + 2)), if_pos (show ((n + 2 : Nat) : Int) ≤ (u.length : Int) by omega), Int.toNat_natCast, ht, List.replicate_zero, List.nil_append, List.drop_zero, Nat.sub_zero]
 | succ j ih =>
  intro hj u hu
  have hjA : j < A.length := by rw [hAl]; exact Nat.lt_of_lt_of_le (Nat.lt_of_succ_le hj) (Nat.le_add_right _ _)
  obtain ⟨hCj, hjC, i0, i1, i2, i3, w1, w2⟩ := steps_arith j n C hj hb
  have hjl : (A.take j).length = j := List.length_take_of_le (Nat.le_of_lt hjA)
  have hb3 : n ≤ 17592186044413 := Nat.le_trans (Nat.le_add_left n C) hb
  have hx := ok_get hA j hjA
  obtain ⟨x, hxx⟩ : ∃ x : Nat, A.getD j 0 = (x : Int) := ⟨(A.getD j 0).toNat, by rw [Int.toNat_of_nonneg hx.1]⟩
  have hx' : x < 4294967296 := by omega
  have hdj : vl (A.drop j) = x + 4294967296 * vl (A.drop (j + 1)) := by
   rw [drop_cons' A hjA, vl_cons hx.1 (ok_drop hA _) hx.2, hxx, Int.toNat_natCast]
  obtain ⟨a1, a2, a3, a4⟩ := quo_arith (A := 0) (q := 0) hD (rfl : vl (A.drop (j + 1)) / vl v = _) rfl hx'
  have hw : OkL ((x : Int) :: pd (n + 2) (vl (A.drop (j + 1)) % vl v)) := ok_cons.2 ⟨by rw [← hxx]; exact hx, pd_ok _ _⟩
  have hvw : vl ((x : Int) :: pd (n + 2) (vl (A.drop (j + 1)) % vl v)) = x + 4294967296 * (vl (A.drop (j + 1)) % vl v) := by
   rw [vl_cons (by rw [← hxx]; exact hx.1) (pd_ok _ _) (by rw [← hxx]; exact hx.2), vl_pd (fit _).out, Int.toNat_natCast]
  have hst := stepw_ev (p := A.take j) (z := List.replicate (C - (j + 1)) 0) hw hv hn (by rw [List.length_cons, pd_length]) hb3 hv1 (by rw [hvw]; exact a1) (j := j) hjl
  rw [hvw] at hst
  have hue : u = A.take j ++ ((x : Int) :: pd (n + 2) (vl (A.drop (j + 1)) % vl v)) ++ List.replicate (C - (j + 1)) 0 := by
   rw [hu, take_snoc A hjA, hxx]; simp
  rw [← hue] at hst
  have next := ih hjC (A.take j ++ pd (n + 3) ((x + 4294967296 * (vl (A.drop (j + 1)) % vl v)) % vl v) ++ List.replicate (C - (j + 1)) 0) (by
   rw [hdj, a3, pd_top _ _ (fit _).out, hCj, List.replicate_succ]; simp)
  rw [hdj, a2, hCj, pd_cons_eq a4, ← set_mid] at next
  have hul : u.length = C + (n + 2) := by rw [hue, List.length_append, List.length_append, hjl, List.length_cons, pd_length, List.length_replicate]; clear a1 a2 a3 a4 hst next hdj hvw; omega
  refine Ev.step (f := fun k => (natural_stepw.f k u (j : Int) ((j + (n + 3) : Nat) : Int) v).bind fun b => natural_divide.l0 k (s : Int) ((n + 2 : Nat) : Int) v b.2 ((List.replicate (j + 1) 0 ++ pd (C - (j + 1)) (vl (A.drop (j + 1)) / vl v)).set j b.1) ((j : Int) - 1)) (fun k => ?_) (Ev.bind hst next)
  simp only [natural_divide.l0]
  rw [i0, w1, w2, hul, if_pos i1, if_pos i1, if_pos i2, if_pos i3]
  have hlen : (j : Int) < ((List.replicate (j + 1) (0 : Int) ++ pd (C - (j + 1)) (vl (A.drop (j + 1)) / vl v)).length : Int) := by rw [List.length_append, List.length_replicate]; clear a1 a2 a3 a4 hst next hdj hvw; omega
  simp only [if_pos hlen, Int.toNat_natCast]

theorem vl_split {l : List Int} (h : OkL l) (j : Nat) (hj : j ≤ l.length) : vl l = vl (l.take j) + 4294967296 ^ j * vl (l.drop j) := by
 have h1 := ev_append 4294967296 (l.take j) (l.drop j)
 rw [List.take_append_drop, List.length_take, Nat.min_eq_left hj, ← vl_cast h, ← vl_cast (ok_take h j), ← vl_cast (ok_drop h j), ← natPow, ← Int.natCast_mul, ← Int.natCast_add] at h1
 exact Int.ofNat_inj.1 h1
theorem vl_drop {l : List Int} (h : OkL l) (j : Nat) (hj : j ≤ l.length) : vl (l.drop j) = vl l / 4294967296 ^ j := by
 have h1 := vl_lt (ok_take h j)
 rw [List.length_take, Nat.min_eq_left hj] at h1
 rw [vl_split h j hj, Nat.add_mul_div_left _ _ (Nat.pow_pos (by decide)), Nat.div_eq_of_lt h1, Nat.zero_add]
theorem vl_one {l : List Int} (h : OkL l) (j : Nat) (hj : l.length = j + 1) : (l.getD j 0).toNat = vl l / 4294967296 ^ j := by
 rw [← vl_drop h j (by omega), drop_cons' l (by omega), List.drop_of_length_le (by omega)]
 have := ok_get h j (by omega)
 rw [vl_cons this.1 (ok_nil _) this.2, show vl [] = 0 from rfl, Nat.mul_zero, Nat.add_zero]
theorem scale {x t P S K K' : Nat} (ht : x / P = t) (hP : 0 < P) (h0 : K' * S = 2147483648) (h0' : K' ≤ t) (h1 : K * S = 4294967296) (h1' : t + 1 ≤ K) (hS : 0 < S) :
  x * S < 4294967296 * P ∧ 2147483648 * P ≤ x * S := by
 have b1 : x < (t + 1) * P := by rw [← ht]; exact Nat.lt_mul_of_div_lt (Nat.lt_succ_self _) hP
 have b2 : t * P ≤ x := by rw [← ht]; exact Nat.div_mul_le_self x P
 constructor
 ·have c1 : x * S < (t + 1) * P * S := Nat.mul_lt_mul_of_pos_right b1 hS
  have c2 : (t + 1) * P * S ≤ K * P * S := Nat.mul_le_mul_right _ (Nat.mul_le_mul_right _ h1')
  rw [Nat.mul_right_comm K, h1] at c2
  exact Nat.lt_of_lt_of_le c1 c2
 ·have c1 : t * P * S ≤ x * S := Nat.mul_le_mul_right _ b2
  have c2 : K' * P * S ≤ t * P * S := Nat.mul_le_mul_right _ (Nat.mul_le_mul_right _ h0')
  rw [Nat.mul_right_comm K', h0] at c2
  exact Nat.le_trans c2 c1


theorem lm_top (b n : Nat) (hl : (lm b).length = n + 1) : ((lm b).getD n 0).toNat = b / 4294967296 ^ n ∧ 0 < b / 4294967296 ^ n ∧ b / 4294967296 ^ n < 4294967296 := by
 have h1 := vl_one (lm_ok b) n hl
 rw [vl_lm] at h1
 have h2 := ev_ge_of_tr (b := 4294967296) (by decide) (lm_ok b) (lm_tr b) (by intro h; rw [h] at hl; simp at hl)
 rw [hl, Nat.add_sub_cancel, ← vl_cast (lm_ok b), vl_lm, ← natPow] at h2
 have h3 := ok_get (lm_ok b) n (by rw [hl]; exact Nat.lt_succ_self n)
 refine ⟨h1, Nat.div_pos (Int.ofNat_le.1 h2) (Nat.pow_pos (by decide)), ?_⟩
 rw [← h1]
 generalize (lm b).getD n 0 = t at *
 clear h1 h2
 omega
theorem lz_facts (t : Nat) (h0 : 0 < t) (h : t < 4294967296) : ∃ s : Nat, s ≤ 31 ∧ bits_LeadingZeros32.f (t : Int) = some (s : Int) ∧ ∃ K K' : Nat, K' * 2 ^ s = 2147483648 ∧ K' ≤ t ∧ K * 2 ^ s = 4294967296 ∧ t + 1 ≤ K := by
 obtain ⟨h3, h1', h1⟩ := Lib.bitLenAux_bounds 64 t (Nat.lt_trans h (by decide)) (by omega)
 have h2 : Lib.bitLen t ≤ 32 := Lib.bitLen_le t 32 (by decide) h
 change 1 ≤ Lib.bitLen t at h3
 refine ⟨32 - Lib.bitLen t, by omega, ?_, 2 ^ Lib.bitLen t, 2 ^ (Lib.bitLen t - 1), ?_, h1', ?_, h1⟩
 ·unfold bits_LeadingZeros32.f
  rw [if_pos (by omega), Int.toNat_natCast]
  congr 1
  omega
 ·rw [← Nat.pow_add, show Lib.bitLen t - 1 + (32 - Lib.bitLen t) = 31 by omega]
 ·rw [← Nat.pow_add, show Lib.bitLen t + (32 - Lib.bitLen t) = 32 by omega]
theorem sgn_neg {a b : Nat} (h : a < b) : sgn a b < 0 := by unfold sgn; rw [if_pos h]; decide
theorem sgn_nneg {a b : Nat} (h : ¬ a < b) : ¬ sgn a b < 0 := by unfold sgn; rw [if_neg h]; split <;> decide
theorem lm_small {x : Nat} (h : x < 4294967296) : lm (vl [(x : Int)]) = lm x := by
 rw [vl_cons (Int.natCast_nonneg _) (ok_nil _) (by omega), show vl [] = 0 from rfl, Nat.mul_zero, Nat.add_zero, Int.toNat_natCast]
theorem lm_zero : lm 0 = [] := by unfold lm dg; simp
theorem divide_idx (m n : Nat) (h : n + 2 ≤ m) (hm : m ≤ 17592186044413) : wrap64 (((n + 2 : Nat) : Int) - 1) = ((n + 1 : Nat) : Int) ∧ wrap64 ((m : Int) + 1) = ((m + 1 : Nat) : Int) ∧ wrap64 (wrap64 ((m : Int) - ((n + 2 : Nat) : Int)) + 1) = ((m - (n + 2) + 1 : Nat) : Int) ∧ m + 1 = m - (n + 2) + 1 + (n + 2) ∧ m - (n + 2) + 1 + n ≤ 17592186044413 ∧ m - (n + 2) + 1 ≤ 70368744177664 ∧ wrap64 (((m - (n + 2) + 1 : Nat) : Int) - 1) = ((m - (n + 2) + 1 : Nat) : Int) - 1 ∧ ((n + 1 : Nat) : Int) < ((n + 2 : Nat) : Int) ∧ ¬ ((n + 2 : Nat) : Int) = 1 ∧ m = m - (n + 2) + 1 + (n + 1) := by
 refine ⟨by rw [wrap_small _ (by omega) (by omega)]; omega, by rw [wrap_small _ (by omega) (by omega)]; omega, ?_, by omega, by omega, by omega, by rw [wrap_small _ (by omega) (by omega)], by omega, by omega, by omega⟩
 rw [wrap_small ((m : Int) - ((n + 2 : Nat) : Int)) (by omega) (by omega), wrap_small _ (by omega) (by omega)]; omega
theorem size_facts {a P Q S V : Nat} (hQ : 0 < Q) (hP : 0 < P) (ha : a < Q * P) (hS : S ≤ 2147483648) (hS0 : 0 < S) (hv : 2147483648 * P ≤ V) : a * S / Q < V ∧ a * S / V < Q := by
 have h1 : a * S < Q * V := by
  have c1 : a * S < Q * P * S := Nat.mul_lt_mul_of_pos_right ha hS0
  have c2 : Q * P * S ≤ Q * P * 2147483648 := Nat.mul_le_mul_left _ hS
  have c3 : Q * (2147483648 * P) ≤ Q * V := Nat.mul_le_mul_left _ hv
  rw [Nat.mul_comm 2147483648, ← Nat.mul_assoc] at c3
  exact Nat.lt_of_lt_of_le c1 (Nat.le_trans c2 c3)
 exact ⟨Nat.div_lt_of_lt_mul h1, Nat.div_lt_of_lt_mul (by rw [Nat.mul_comm V]; exact h1)⟩
theorem pd_vl {l : List Int} (h : OkL l) {n : Nat} (hn : l.length = n) : pd n (vl l) = l :=
 (pd_eq h hn (by rw [← hn]; exact vl_lt h) (vl_cast h).symm).symm
theorem start_eq {A v : List Int} (hA : OkL A) {C n : Nat} (hl : A.length = C + (n + 2)) (hlt : vl (A.drop C) < vl v) : A = A.take C ++ pd (n + 2) (vl (A.drop C) % vl v) ++ List.replicate (C - C) 0 := by
 rw [Nat.mod_eq_of_lt hlt, pd_vl (ok_drop hA C) (by rw [List.length_drop, hl]; omega), Nat.sub_self, List.replicate_zero, List.append_nil, List.take_append_drop]
theorem start_out {A v : List Int} {C : Nat} (hlt : vl (A.drop C) < vl v) : List.replicate C (0 : Int) = List.replicate C 0 ++ pd (C - C) (vl (A.drop C) / vl v) := by
 rw [Nat.sub_self, pd, List.append_nil]
theorem divide_ev (a b : Nat) (hb : 0 < b) (ha : (lm a).length ≤ 17592186044413) (hb' : (lm b).length ≤ 17592186044413) : Ev (fun k => natural_divide.f k (lm a) (lm b)) (lm (a / b), lm (a % b)) := by
 have hcmp := compare_ev a b (by omega) (by omega)
 unfold natural_divide.f
 refine Ev.bind hcmp ?_
 by_cases hab : a < b
 ·simp only [if_pos (sgn_neg hab)]; rw [Nat.div_eq_of_lt hab, Nat.mod_eq_of_lt hab, lm_zero]
  exact Ev.now _
 simp only [if_neg (sgn_nneg hab)]
 have hle : (lm b).length ≤ (lm a).length := by
  rcases Nat.lt_or_ge (lm a).length (lm b).length with h | h
  ·exact absurd (lm_len_lt h) hab
  ·exact h
 rcases hlen : (lm b).length with _ | _ | n
 ·exfalso
  have h0 := vl_lm b
  rw [List.eq_nil_of_length_eq_zero hlen, show vl [] = 0 from rfl] at h0
  omega
 ·have ht := lm_top b 0 hlen
  rw [Nat.pow_zero, Nat.div_one] at ht
  have hds := divideSmall_ev a (by omega) (d := (b : Int)) (by omega) (by omega)
  rw [Int.toNat_natCast] at hds
  have hm : a % b < 4294967296 := Nat.lt_trans (Nat.mod_lt _ hb) ht.2.2
  have htr := trim_ev (l := [((a % b : Nat) : Int)]) (ok_cons.2 ⟨⟨Int.natCast_nonneg _, by omega⟩, ok_nil _⟩) (by simp)
  rw [lm_small hm] at htr
  have hg := ok_get (lm_ok b) 0 (by omega)
  have hrd : rd (lm b) 0 = (b : Int) := by
   have h1 := Int.toNat_of_nonneg hg.1
   rw [ht.1] at h1
   rw [show (0 : Int) = ((0 : Nat) : Int) from rfl, rd_getD, h1]
  simp only [show ((0 + 1 : Nat) : Int) = 1 from rfl, if_pos (show (0 : Int) < 1 by decide), hrd, if_true]
  exact Ev.bind hds (Ev.bind htr (Ev.now _))
 ·obtain ⟨t1, t2, t3⟩ := lm_top b (n + 1) hlen
  obtain ⟨s, hs, hlz, K, K', hK', hK't, hK, hKt⟩ := lz_facts _ t2 t3
  have hm : (lm a).length ≥ n + 2 := by rw [← hlen]; exact hle
  obtain ⟨m, hma⟩ : ∃ m, (lm a).length = m := ⟨_, rfl⟩
  rw [hma] at hm ha
  obtain ⟨x1, x2, x3, x4, x5, x6, x7, x8, x9, x10⟩ := divide_idx m n hm ha
  have hrd : rd (lm b) ((n + 1 : Nat) : Int) = ((b / 4294967296 ^ (n + 1) : Nat) : Int) := by
   have hg := ok_get (lm_ok b) (n + 1) (by rw [hlen]; exact Nat.lt_succ_self _)
   have h1 := Int.toNat_of_nonneg hg.1
   rw [t1] at h1
   rw [rd_getD, h1]
  obtain ⟨g1, g2⟩ := scale (x := b) (S := 2 ^ s) rfl (Nat.pow_pos (by decide)) hK' hK't hK hKt (Nat.pow_pos (by decide))
  have hS : 2 ^ s ≤ 2147483648 := Nat.pow_le_pow_right (n := 2) (by decide) hs
  have halt : a < 4294967296 ^ m := by have := vl_lt (lm_ok a); rw [vl_lm, hma] at this; exact this
  have vb : vl (lm b) * 2 ^ s < 4294967296 ^ (n + 2) := by
   rw [vl_lm, Nat.pow_succ, Nat.mul_comm (4294967296 ^ (n + 1))]; exact g1
  have va : vl (lm a) * 2 ^ s < 4294967296 ^ (m + 1) := by
   rw [vl_lm, Nat.pow_succ]
   exact Nat.lt_of_lt_of_le (Nat.mul_lt_mul_of_pos_right halt (Nat.pow_pos (by decide))) (Nat.mul_le_mul_left _ (Nat.le_trans hS (by decide)))
  have hvb := shift_ev (lm_ok b) hs (N := n + 2) (by rw [hlen]; exact Nat.le_refl _) (Nat.le_trans hm (Nat.le_trans ha (by decide))) vb
  have hva := shift_ev (lm_ok a) hs (N := m + 1) (by rw [hma]; exact Nat.le_succ _) (Nat.le_trans (Nat.succ_le_succ ha) (by decide)) va
  rw [vl_lm] at hva hvb va vb
  obtain ⟨q1, q2⟩ := size_facts (a := a) (P := 4294967296 ^ (n + 1)) (Q := 4294967296 ^ (m - (n + 2) + 1)) (Nat.pow_pos (by decide)) (Nat.pow_pos (by decide)) (by rw [← Nat.pow_add, ← x10]; exact halt) hS (Nat.pow_pos (by decide)) g2
  have hVv : vl (pd (n + 2) (b * 2 ^ s)) = b * 2 ^ s := vl_pd vb
  have hVa : vl (pd (m + 1) (a * 2 ^ s)) = a * 2 ^ s := vl_pd va
  have hAl : (pd (m + 1) (a * 2 ^ s)).length = m - (n + 2) + 1 + (n + 2) := by rw [pd_length, ← x4]
  have hdr : vl ((pd (m + 1) (a * 2 ^ s)).drop (m - (n + 2) + 1)) < vl (pd (n + 2) (b * 2 ^ s)) := by
   rw [vl_drop (pd_ok _ _) _ (by rw [hAl]; exact Nat.le_add_right _ _), hVa, hVv]; exact q1
  have htop : 0 < (pd (n + 2) (b * 2 ^ s)).getD (n + 1) 0 := by
   have h1 := vl_one (pd_ok (n + 2) (b * 2 ^ s)) (n + 1) (pd_length _ _)
   have h2 : 0 < b * 2 ^ s / 4294967296 ^ (n + 1) := Nat.div_pos (Nat.le_trans (Nat.le_mul_of_pos_left _ (by decide)) g2) (Nat.pow_pos (by decide))
   rw [hVv] at h1
   rw [← h1] at h2
   exact Int.lt_toNat.1 h2
  have hfin := divide_l0 (pd_ok _ _) (pd_ok _ _) (pd_length _ _) hAl x5 htop hs ⟨by rw [hVa, hVv]; exact q2⟩ (m - (n + 2) + 1) (Nat.le_refl _) _ (start_eq (pd_ok _ _) hAl hdr)
  rw [← start_out hdr, hVa, hVv, Nat.mul_div_mul_right _ _ (Nat.pow_pos (by decide)), Nat.mul_mod_mul_right, Nat.mul_div_cancel _ (Nat.pow_pos (by decide))] at hfin
  have hu : IntKind.u64.wrap (s : Int) = (s : Int) := u64w (Int.natCast_nonneg _) (Int.lt_of_le_of_lt (Int.ofNat_le.2 hs) (by decide))
  refine Ev.congr (f := fun k => (natural_shift.f k (lm b) (s : Int) ((n + 2 : Nat) : Int)).bind fun v => (natural_shift.f k (lm a) (s : Int) ((m + 1 : Nat) : Int)).bind fun A => natural_divide.l0 k (s : Int) ((n + 2 : Nat) : Int) v A (List.replicate (m - (n + 2) + 1) 0) (((m - (n + 2) + 1 : Nat) : Int) - 1)) (fun k => ?_) (Ev.bind hvb (Ev.bind hva hfin))
  simp only [hma, x1, x2, x3, if_neg x9, if_pos x8, if_pos (Int.natCast_nonneg (n + 1)), hrd, hlz, Option.bind_some, hu, if_pos (Int.natCast_nonneg (m - (n + 2) + 1)), Int.toNat_natCast, if_pos x6, List.length_replicate, x7]


theorem lm_nil_iff (n : Nat) : (lm n).length = 0 ↔ n = 0 := by
 constructor
 ·intro h
  have h0 := vl_lm n
  rw [List.eq_nil_of_length_eq_zero h, show vl [] = 0 from rfl] at h0
  exact h0.symm
 ·rintro rfl; rw [lm_zero]; rfl
theorem lm_text_ev (n : Nat) (h : (lm n).length ≤ 17592186044416) : Ev (fun k => natural_limbs_text.f k (lm n)) (by_ n) := by
 have := text_ev (lm_ok n) h
 rw [vl_lm] at this; exact this
theorem gcd_l0 : ∀ (y x : Nat), (lm x).length ≤ 17592186044413 → (lm y).length ≤ 17592186044413 → Ev (fun k => natural_GCD.l0 k (lm x) (lm y)) (by_ (Nat.gcd x y)) := by
 intro y
 induction y using Nat.strongRecOn with
 | _ y ih =>
  intro x hx hy
  by_cases h : y = 0
  ·subst h
   refine Ev.step (f := fun k => (natural_limbs_text.f k (lm x)).bind fun t => some t) (fun k => ?_) (Ev.bind (lm_text_ev x (by omega)) (by rw [Nat.gcd_zero_right]; exact Ev.now _))
   simp only [natural_GCD.l0]
   rw [lm_zero]; rfl
  ·have hp : 0 < y := Nat.pos_of_ne_zero h
   have hlt := Nat.mod_lt x hp
   have hn := ih (x % y) hlt y hy (Nat.le_trans (lm_len_le (Nat.le_of_lt hlt)) hy)
   rw [← Nat.gcd_comm, ← Nat.gcd_rec, Nat.gcd_comm] at hn
   refine Ev.step (f := fun k => (natural_divide.f k (lm x) (lm y)).bind fun b => natural_GCD.l0 k (lm y) b.2) (fun k => ?_) (Ev.bind (divide_ev x y hp hx hy) hn)
   simp only [natural_GCD.l0]
   have := mt (lm_nil_iff y).1 h
   rw [if_pos (by omega)]
theorem gcd_ev {a b : ByteArray} (ha : Lim a) (hb : Lim b) : Ev (fun k => natural_GCD.f k a b) (by_ (Nat.gcd (sv a) (sv b))) := by
 have la := lim_len ha
 have lb := lim_len hb
 unfold natural_GCD.f
 exact Ev.bind (parse_ev a (Nat.le_trans ha (by decide))) (Ev.bind (parse_ev b (Nat.le_trans hb (by decide))) (gcd_l0 _ _ (by omega) (by omega)))
theorem quo_ev {a b : ByteArray} (ha : Lim a) (hb : Lim b) : Ev (fun k => natural_Divide.f k a b) (if sv b = 0 then ((⟨#[]⟩ : ByteArray), (⟨#[]⟩ : ByteArray), false) else (by_ (sv a / sv b), by_ (sv a % sv b), true)) := by
 have la := lim_len ha
 have lb := lim_len hb
 unfold natural_Divide.f
 refine Ev.bind (parse_ev b (Nat.le_trans hb (by decide))) ?_
 by_cases h : sv b = 0
 ·rw [if_pos h, h, lm_zero]
  exact Ev.now _
 ·have hn := mt (lm_nil_iff (sv b)).1 h
  have hn' : ¬ ((lm (sv b)).length : Int) = 0 := by omega
  have hp : 0 < sv b := Nat.pos_of_ne_zero h
  have l1 : (lm (sv a / sv b)).length ≤ 268435456 := Nat.le_trans (lm_len_le (Nat.div_le_self _ _)) la
  have l2 : (lm (sv a % sv b)).length ≤ 268435456 := Nat.le_trans (lm_len_le (Nat.mod_le _ _)) la
  simp only [if_neg hn', if_neg h]
  exact Ev.bind (parse_ev a (Nat.le_trans ha (by decide))) (Ev.bind (divide_ev _ _ hp (by omega) (by omega)) (Ev.bind (lm_text_ev _ (by omega)) (Ev.bind (lm_text_ev _ (by omega)) (Ev.now _))))


abbrev nil_ : ByteArray := ⟨#[]⟩
def dn (d : Nat) : ByteArray := if d = 1 then nil_ else by_ d
def dv (s : ByteArray) : Nat := if s = nil_ then 1 else sv s
def rp (x : Rat) : Bool × ByteArray × ByteArray := (decide (x.num < 0), by_ x.num.natAbs, dn x.den)
def si (neg : Bool) (n : Nat) : Int := if neg = true then -(n : Int) else (n : Int)

theorem si_abs (neg : Bool) (n : Nat) : (si neg n).natAbs = n := by unfold si; cases neg <;> simp
theorem si_neg (neg : Bool) (n : Nat) : decide (si neg n < 0) = (neg && decide (n ≠ 0)) := by
 unfold si; cases neg
 ·simp
 ·by_cases h : n = 0
  ·subst h; simp
  ·have : 0 < n := by omega
   simp [h, this]
theorem si_zero (neg : Bool) : si neg 0 = 0 := by unfold si; cases neg <;> rfl
theorem si_num (x : Rat) : si (decide (x.num < 0)) x.num.natAbs = x.num := by
 unfold si; by_cases h : x.num < 0
 ·simp [h]; omega
 ·simp [h]; omega
theorem si_div (neg : Bool) {n g : Nat} (h : g ∣ n) : si neg n / (g : Int) = si neg (n / g) := by
 unfold si; cases neg
 ·simp
 ·simp only [if_true]; rw [Int.neg_ediv_of_dvd (Int.natCast_dvd_natCast.2 h), Int.natCast_ediv]
theorem si_scale (a : Bool) (m n : Nat) : si a m * (n : Int) = si a (m * n) := by
 unfold si; cases a <;> simp [Int.neg_mul]
theorem si_add (a : Bool) (m n : Nat) : si a m + si a n = si a (m + n) := by
 unfold si; cases a <;> simp <;> omega
theorem si_sub {a b : Bool} (h : (a == b) = false) (m n : Nat) : si a m + si b n = if m < n then si b (n - m) else si a (m - n) := by
 unfold si; revert h; cases a <;> cases b <;> intro h <;> simp at h ⊢ <;> split <;> omega
theorem toList_one {n : Nat} : (by_ n).toList = ([1] : List UInt8) ↔ n = 1 := by
 constructor
 ·intro h
  have h1 : by_ n = by_ 1 := by
   have e : by_ 1 = (⟨#[1]⟩ : ByteArray) := by decide +kernel
   rw [e]; apply ByteArray.ext; apply Array.toList_inj.1; rw [← Go.Lib.toList_data, h]
  exact by_inj h1
 ·rintro rfl; decide +kernel
theorem toList_inj' {s t : ByteArray} : s.toList = t.toList ↔ s = t := by
 constructor
 ·intro h; rw [Go.Lib.toList_data, Go.Lib.toList_data] at h; exact ByteArray.ext (Array.toList_inj.1 h)
 ·rintro rfl; rfl
theorem by_one : by_ 1 = (⟨#[1]⟩ : ByteArray) := by decide +kernel
theorem sv_nil : sv nil_ = 0 := by have := sv_by 0; rwa [by_zero] at this
theorem rp_zero : rp 0 = (false, nil_, nil_) := by
 unfold rp dn; rw [show ((0 : Rat).num) = 0 from rfl, show ((0 : Rat).den) = 1 from rfl]; simp [by_zero]
theorem dn_one : dn 1 = nil_ := by unfold dn; rw [if_pos rfl]
theorem dn_ne {d : Nat} (h : d ≠ 1) : dn d = by_ d := by unfold dn; rw [if_neg h]
theorem dn_nil {d : Nat} (h : d ≠ 0) : dn d = nil_ ↔ d = 1 := by
 unfold dn; split
 ·simp [*]
 ·rw [by_nil]; omega
theorem dv_dn {d : Nat} (h : d ≠ 0) : dv (dn d) = d := by
 unfold dv; split
 ·rename_i e; exact ((dn_nil h).1 e).symm
 ·rename_i e; rw [dn_ne (fun e' => e (by rw [e', dn_one])), sv_by]
theorem dn_inj {c d : Nat} (hc : c ≠ 0) (hd : d ≠ 0) : dn c = dn d ↔ c = d := by
 constructor
 ·intro h; rw [← dv_dn hc, h, dv_dn hd]
 ·rintro rfl; rfl

theorem rp_mk (neg : Bool) (p q : Nat) (hq : q ≠ 0) : rp (mkRat (si neg p) q) = if p = 0 then (false, nil_, nil_) else (neg, by_ (p / Nat.gcd p q), dn (q / Nat.gcd p q)) := by
 by_cases hp : p = 0
 ·subst hp; rw [si_zero, Rat.zero_mkRat, rp_zero, if_pos rfl]
 ·rw [if_neg hp]
  have hn : (mkRat (si neg p) q).num = si neg (p / Nat.gcd p q) := by
   rw [Rat.num_mkRat, if_neg hq, si_abs, Nat.gcd_comm q p, si_div neg (Nat.gcd_dvd_left p q)]
  have hd : (mkRat (si neg p) q).den = q / Nat.gcd p q := by
   rw [Rat.den_mkRat, if_neg hq, si_abs, Nat.gcd_comm q p]
  have hg : p / Nat.gcd p q ≠ 0 := by
   have := Nat.div_pos (Nat.le_of_dvd (Nat.pos_of_ne_zero hp) (Nat.gcd_dvd_left p q)) (Nat.gcd_pos_of_pos_left q (Nat.pos_of_ne_zero hp))
   omega
  unfold rp
  rw [hn, hd, si_abs, si_neg]
  simp [hg]
def rm (n : Bool) (a b : ByteArray) : Rat := mkRat (si n (sv a)) (dv b)
theorem rm_rp (x : Rat) : rm (rp x).1 (rp x).2.1 (rp x).2.2 = x := by
 unfold rm rp
 simp only
 rw [sv_by, dv_dn x.den_nz, si_num, Rat.mkRat_self]
def Vd (n : Bool) (a b : ByteArray) : Prop := rp (rm n a b) = (n, a, b)
instance (n : Bool) (a b : ByteArray) : Decidable (Vd n a b) := by unfold Vd; exact inferInstance
theorem vd_iff {n : Bool} {a b : ByteArray} : Vd n a b ↔ ∃ x, rp x = (n, a, b) := by
 constructor
 ·intro h; exact ⟨_, h⟩
 ·rintro ⟨x, h⟩
  unfold Vd
  have := rm_rp x
  rw [h] at this
  simp only at this
  rw [this, h]
def rc (n : Bool) (a b : ByteArray) : Rat := if Vd n a b then rm n a b else 0
theorem rc_rp (x : Rat) : rc (rp x).1 (rp x).2.1 (rp x).2.2 = x := by
 have h : Vd (rp x).1 (rp x).2.1 (rp x).2.2 := vd_iff.2 ⟨x, rfl⟩
 unfold rc; rw [if_pos h, rm_rp]

theorem vd_char (n : Bool) (a b : ByteArray) : Vd n a b ↔ (by_ (sv a) = a ∧ by_ (sv b) = b ∧ (if sv a = 0 then n = false ∧ b = nil_ else b = nil_ ∨ (sv b ≠ 1 ∧ Nat.gcd (sv a) (sv b) = 1))) := by
 constructor
 ·intro h
  obtain ⟨x, hx⟩ := vd_iff.1 h
  unfold rp at hx
  simp only [Prod.mk.injEq] at hx
  obtain ⟨h1, h2, h3⟩ := hx
  have ha : sv a = x.num.natAbs := by rw [← h2, sv_by]
  refine ⟨by rw [ha, h2], ?_, ?_⟩
  ·rw [← h3]; unfold dn; split
   ·rw [sv_nil, by_zero]
   ·rw [sv_by]
  ·rw [ha]
   split
   ·rename_i h0
    have hz : x.num = 0 := by omega
    have hx0 : x = 0 := Rat.num_eq_zero.1 hz
    subst hx0
    refine ⟨?_, ?_⟩
    ·rw [← h1]; rfl
    ·rw [← h3]; exact dn_one
   ·by_cases hd : x.den = 1
    ·left; rw [← h3, hd, dn_one]
    ·right
     rw [dn_ne hd] at h3
     have hb : sv b = x.den := by rw [← h3, sv_by]
     rw [hb]; exact ⟨hd, x.reduced⟩
 ·rintro ⟨ha, hb, hc⟩
  unfold Vd rm
  by_cases hp : sv a = 0
  ·rw [if_pos hp] at hc
   obtain ⟨rfl, rfl⟩ := hc
   rw [hp, si_zero, Rat.zero_mkRat, rp_zero]
   rw [hp, by_zero] at ha; rw [← ha]
  ·rw [if_neg hp] at hc
   have hq : dv b ≠ 0 := by
    unfold dv; split
    ·omega
    ·rename_i hb'; intro h0; rw [h0, by_zero] at hb; exact hb' hb.symm
   rw [rp_mk n _ _ hq, if_neg hp]
   by_cases hb' : b = nil_
   ·subst hb'
    have : dv nil_ = 1 := by unfold dv; rw [if_pos rfl]
    rw [this, Nat.gcd_one_right, Nat.div_one, Nat.div_one, dn_one, ha]
   ·obtain ⟨h1, h2⟩ := hc.resolve_left hb'
    have : dv b = sv b := by unfold dv; rw [if_neg hb']
    rw [this, h2, Nat.div_one, Nat.div_one, dn_ne h1, ha, hb]


theorem vd_bool (n : Bool) (a b : ByteArray) (k : Nat) : (if Vd n a b then some (n, a, b) else some (false, nil_, nil_)) = some (rp (rc n a b)) := by
 unfold rc
 split
 ·rename_i h; rw [h]
 ·rw [rp_zero]

theorem valid_ev {a b : ByteArray} (n : Bool) (ha : Lim a) (hb : Lim b) : Ev (fun k => rational_Valid.f k n a b) (decide (Vd n a b)) := by
 have hch := vd_char n a b
 unfold rational_Valid.f
 refine Ev.bind (normalize_ev a) ?_
 simp only [toList_inj']
 by_cases h1 : by_ (sv a) = a
 ·simp only [if_pos h1]
  refine Ev.bind (normalize_ev b) ?_
  by_cases h2 : by_ (sv b) = b
  ·have e2 : ((by_ (sv b)).toList != b.toList) = false := by rw [h2]; simp
   simp only [e2]
   by_cases h3 : sv a = 0
   ·have e3 : a.toList = [] := by rw [toList_nil, ← by_nil.2 h3, h1]
    by_cases h4 : n = true
    ·refine Ev.step (f := fun _ => some false) (fun k => ?_) ?_
     ·simp only [rational_Valid.j0, if_pos e3, if_pos h4]; simp
     ·have : ¬ Vd n a b := by rw [hch, if_pos h3, h4]; simp
      rw [decide_eq_false this]; exact Ev.now _
    ·refine Ev.step (f := fun _ => some (b.toList == [])) (fun k => ?_) ?_
     ·simp only [rational_Valid.j0, if_pos e3, if_neg h4]; simp
     ·have : (b.toList == []) = decide (Vd n a b) := by
       by_cases h5 : b.toList = []
       ·rw [h5]; symm; simp only [BEq.rfl, decide_eq_true_eq]
        rw [hch, if_pos h3]; exact ⟨h1, h2, by simpa using h4, toList_nil.1 h5⟩
       ·rw [beq_eq_false_iff_ne.2 h5]; symm; rw [decide_eq_false_iff_not, hch, if_pos h3]
        rintro ⟨_, _, _, h6⟩; exact h5 (toList_nil.2 h6)
      rw [this]; exact Ev.now _
   ·have e3 : ¬ a.toList = [] := by rw [toList_nil, ← h1, by_nil]; exact h3
    by_cases h4 : b.toList = []
    ·refine Ev.step (f := fun _ => some true) (fun k => ?_) ?_
     ·simp only [rational_Valid.j0, if_neg e3, if_pos h4]; simp
     ·have : Vd n a b := by rw [hch, if_neg h3]; exact ⟨h1, h2, .inl (toList_nil.1 h4)⟩
      rw [decide_eq_true this]; exact Ev.now _
    ·have hb0 : b ≠ nil_ := fun h => h4 (toList_nil.2 h)
     by_cases h5 : sv b = 1
     ·have e5 : b.toList = [1] := by rw [← h2, h5]; decide +kernel
      refine Ev.step (f := fun _ => some false) (fun k => ?_) ?_
      ·simp only [rational_Valid.j0, if_neg e3, if_neg h4, if_pos e5]; simp
      ·have : ¬ Vd n a b := by rw [hch, if_neg h3]; rintro ⟨_, _, h6 | h6⟩ <;> simp_all
       rw [decide_eq_false this]; exact Ev.now _
     ·have e5 : ¬ b.toList = [1] := by rw [← h2, toList_one]; exact h5
      refine Ev.step (f := fun k => (natural_GCD.f k a b).bind fun t => some (t.toList == [1])) (fun k => ?_) (Ev.bind (gcd_ev ha hb) ?_)
      ·simp only [rational_Valid.j0, if_neg e3, if_neg h4, if_neg e5]; simp
      ·have : ((by_ (Nat.gcd (sv a) (sv b))).toList == [1]) = decide (Vd n a b) := by
        by_cases h6 : Nat.gcd (sv a) (sv b) = 1
        ·rw [beq_iff_eq.2 (toList_one.2 h6)]; symm; rw [decide_eq_true_eq, hch, if_neg h3]; exact ⟨h1, h2, .inr ⟨h5, h6⟩⟩
        ·rw [beq_eq_false_iff_ne.2 (mt toList_one.1 h6)]; symm; rw [decide_eq_false_iff_not, hch, if_neg h3]
         rintro ⟨_, _, h7 | h7⟩
         ·exact hb0 h7
         ·exact h6 h7.2
       rw [this]; exact Ev.now _
  ·have e2 : ((by_ (sv b)).toList != b.toList) = true := by rw [bne_iff_ne, ne_eq, toList_inj']; exact h2
   have : ¬ Vd n a b := by rw [hch]; rintro ⟨_, h, _⟩; exact h2 h
   rw [decide_eq_false this]
   simp only [e2]
   refine Ev.step (f := fun _ => some false) (fun k => ?_) (Ev.now _)
   simp only [rational_Valid.j0]; simp
 ·simp only [if_neg h1]
  have : ¬ Vd n a b := by rw [hch]; rintro ⟨h, _⟩; exact h1 h
  rw [decide_eq_false this]
  refine Ev.step (f := fun _ => some false) (fun k => ?_) (Ev.now _)
  simp only [rational_Valid.j0]; simp

theorem clean_ev {a b : ByteArray} (n : Bool) (ha : Lim a) (hb : Lim b) : Ev (fun k => rational_clean.f k n a b) (rp (rc n a b)) := by
 unfold rational_clean.f
 refine Ev.bind (valid_ev n ha hb) ?_
 refine Ev.congr (f := fun _ => some (rp (rc n a b))) (fun k => ?_) (Ev.now _)
 rw [← vd_bool n a b 0]
 by_cases h : Vd n a b <;> simp [h]

def Bd (x : Rat) (m : Nat) : Prop := x.num.natAbs < 256 ^ m ∧ x.den < 256 ^ m
theorem lim_by {n m : Nat} (h : n < 256 ^ m) (hm : m ≤ 1073741824) : Lim (by_ n) := Nat.le_trans (by_size_le h) hm
theorem bd_mono {x : Rat} {m m' : Nat} (h : Bd x m) (hm : m ≤ m') : Bd x m' :=
 ⟨Nat.lt_of_lt_of_le h.1 (Nat.pow_le_pow_right (by omega) hm), Nat.lt_of_lt_of_le h.2 (Nat.pow_le_pow_right (by omega) hm)⟩
theorem bd_mk {n : Int} {d m : Nat} (hd : d ≠ 0) (h1 : n.natAbs < 256 ^ m) (h2 : d < 256 ^ m) : Bd (mkRat n d) m := by
 unfold Bd
 rw [Rat.num_mkRat, Rat.den_mkRat, if_neg hd, if_neg hd]
 refine ⟨?_, Nat.lt_of_le_of_lt (Nat.div_le_self _ _) h2⟩
 exact Nat.lt_of_le_of_lt (Int.natAbs_ediv_le_natAbs _ _) h1

theorem reduced_ev {num den : ByteArray} (n : Bool) (ha : Lim num) (hb : Lim den) (h0 : sv den ≠ 0) : Ev (fun k => rational_reduced.f k n num den) (rp (mkRat (si n (sv num)) (sv den))) := by
 rw [rp_mk n _ _ h0]
 generalize hp : sv num = p
 generalize hq : sv den = q
 rw [hq] at h0
 have la : Lim (by_ p) := by rw [← hp]; exact Nat.le_trans (by_sv_size num) ha
 have lb : Lim (by_ q) := by rw [← hq]; exact Nat.le_trans (by_sv_size den) hb
 have e1 := normalize_ev num
 have e2 := normalize_ev den
 rw [hp] at e1; rw [hq] at e2
 unfold rational_reduced.f
 refine Ev.bind e1 (Ev.bind e2 ?_)
 by_cases h1 : p = 0
 ·rw [if_pos h1]
  simp only [if_pos (by_toList_nil.2 h1)]
  exact Ev.now _
 ·rw [if_neg h1]
  simp only [if_neg (mt by_toList_nil.1 h1)]
  by_cases h2 : q = 1
  ·simp only [if_pos (toList_one.2 h2)]
   rw [h2, Nat.gcd_one_right, Nat.div_one, Nat.div_one, dn_one]
   exact Ev.now _
  ·simp only [if_neg (mt toList_one.1 h2)]
   have hg := gcd_ev la lb
   rw [sv_by, sv_by] at hg
   refine Ev.bind hg ?_
   by_cases h3 : Nat.gcd p q = 1
   ·simp only [if_pos (toList_one.2 h3)]
    rw [h3, Nat.div_one, Nat.div_one, dn_ne h2]
    exact Ev.now _
   ·simp only [if_neg (mt toList_one.1 h3)]
    have gp : Nat.gcd p q ≠ 0 := by have := Nat.gcd_pos_of_pos_left q (Nat.pos_of_ne_zero h1); omega
    have lg : Lim (by_ (Nat.gcd p q)) := by
     refine Nat.le_trans (by_size_le (Nat.lt_of_le_of_lt (Nat.le_of_dvd (Nat.pos_of_ne_zero h0) (Nat.gcd_dvd_right p q)) (lt_by_size q))) lb
    have d1 := quo_ev la lg
    have d2 := quo_ev lb lg
    rw [sv_by, sv_by, if_neg gp] at d1 d2
    refine Ev.bind d1 (Ev.bind d2 ?_)
    simp only [toList_one]
    by_cases h4 : q / Nat.gcd p q = 1
    ·simp only [if_pos h4]; rw [h4, dn_one]; exact Ev.now _
    ·simp only [if_neg h4]; rw [dn_ne h4]; exact Ev.now _

theorem den_f (n : Bool) (a : ByteArray) (d : Nat) (h : d ≠ 0) : rational_den.f n a (dn d) = some (by_ d) := by
 unfold rational_den.f
 by_cases h1 : d = 1
 ·rw [if_pos (toList_nil.2 ((dn_nil h).2 h1)), h1, by_one]
 ·rw [if_neg (fun e => h1 ((dn_nil h).1 (toList_nil.1 e))), dn_ne h1]
theorem negate_f (x : Rat) : rational_negate.f (rp x).1 (rp x).2.1 (rp x).2.2 = some (rp (-x)) := by
 unfold rational_negate.f rp
 simp only [Rat.neg_num, Rat.neg_den, Int.natAbs_neg]
 by_cases h : x.num < 0
 ·rw [if_pos (by simpa using h)]
  have : x.num ≤ 0 := by omega
  simp [this]
 ·rw [if_neg (by simpa using h)]
  by_cases h0 : x.num = 0
  ·have e1 : (by_ x.num.natAbs).toList = [] := by rw [by_toList_nil]; omega
   have e2 : ¬ 0 < x.num := by omega
   simp [e1, e2]
  ·have h1 : 0 < x.num := by omega
   have h2 : ¬ (by_ x.num.natAbs).toList = [] := by rw [by_toList_nil]; omega
   simp [h1, bne_iff_ne.2 h2]
theorem signOf_f (x : Rat) : rational_signOf.f (rp x).1 (rp x).2.1 (rp x).2.2 = some (Int.sign x.num) := by
 unfold rational_signOf.f rp
 simp only [by_toList_nil]
 by_cases h0 : x.num = 0
 ·simp [h0]
 ·rw [if_neg (by omega)]
  by_cases h : x.num < 0
  ·rw [if_pos (by simpa using h), Int.sign_eq_neg_one_of_neg h]
  ·rw [if_neg (by simpa using h), Int.sign_eq_one_of_pos (by omega)]


theorem some3 {o : Nat → Option (Bool × ByteArray × ByteArray)} {r : Bool × ByteArray × ByteArray} (h : Ev o r) : Ev (fun k => (o k).bind fun b => some (b.1, b.2.1, b.2.2)) r := Ev.bind h (Ev.now _)
theorem addj_ev (P Q D : Nat) (nx ny : Bool) (u1 u2 v1 v2 : ByteArray) (hD : D ≠ 0) {m : Nat} (hP : P < 256 ^ m) (hQ : Q < 256 ^ m) (hDm : D < 256 ^ m) (hm : m + 1 ≤ 1073741824) :
  Ev (fun k => rational_add.j0 k (by_ P) (by_ Q) (by_ D) nx u1 u2 ny v1 v2) (rp (mkRat (si nx P + si ny Q) D)) := by
 have lP := lim_by hP (by omega)
 have lQ := lim_by hQ (by omega)
 have lD := lim_by hDm (by omega)
 by_cases h : (nx == ny) = true
 ·have e : nx = ny := by simpa using h
  subst e
  have hs : P + Q < 256 ^ (m + 1) := by rw [Nat.pow_succ]; omega
  have a1 := add_ev lP lQ
  rw [sv_by, sv_by] at a1
  have r1 := reduced_ev nx (lim_by hs hm) lD (by rw [sv_by]; exact hD)
  rw [sv_by, sv_by] at r1
  rw [si_add]
  refine Ev.step (f := fun k => (natural_Add.f k (by_ P) (by_ Q)).bind fun t => (rational_reduced.f k nx t (by_ D)).bind fun b => some (b.1, b.2.1, b.2.2)) (fun k => ?_) (Ev.bind a1 (some3 r1))
  simp only [rational_add.j0, if_pos h]
 ·have h' : (nx == ny) = false := by simpa using h
  rw [si_sub h']
  have s1 := subtract_ev lP lQ
  have s2 := subtract_ev lQ lP
  rw [sv_by, sv_by] at s1 s2
  by_cases hlt : P < Q
  ·rw [if_pos hlt] at s1 ⊢
   rw [if_neg (by omega)] at s2
   have r1 := reduced_ev ny (lim_by (n := Q - P) (m := m) (by omega) (by omega)) lD (by rw [sv_by]; exact hD)
   rw [sv_by, sv_by] at r1
   refine Ev.step (f := fun k => (natural_Subtract.f k (by_ P) (by_ Q)).bind fun t => if t.2 = true then ((rational_reduced.f k nx t.1 (by_ D)).bind fun b => some (b.1, b.2.1, b.2.2)) else ((natural_Subtract.f k (by_ Q) (by_ P)).bind fun t => (rational_reduced.f k ny t.1 (by_ D)).bind fun b => some (b.1, b.2.1, b.2.2))) (fun k => ?_) (Ev.bind s1 ?_)
   ·simp only [rational_add.j0, if_neg h]
   ·exact Ev.bind s2 (some3 r1)
  ·rw [if_neg hlt] at s1 ⊢
   have r1 := reduced_ev nx (lim_by (n := P - Q) (m := m) (by omega) (by omega)) lD (by rw [sv_by]; exact hD)
   rw [sv_by, sv_by] at r1
   refine Ev.step (f := fun k => (natural_Subtract.f k (by_ P) (by_ Q)).bind fun t => if t.2 = true then ((rational_reduced.f k nx t.1 (by_ D)).bind fun b => some (b.1, b.2.1, b.2.2)) else ((natural_Subtract.f k (by_ Q) (by_ P)).bind fun t => (rational_reduced.f k ny t.1 (by_ D)).bind fun b => some (b.1, b.2.1, b.2.2))) (fun k => ?_) (Ev.bind s1 ?_)
   ·simp only [rational_add.j0, if_neg h]
   ·exact some3 r1

theorem mul_lt_pow {a b m : Nat} (ha : a < 256 ^ m) (hb : b < 256 ^ m) : a * b < 256 ^ (2 * m) := by
 rw [Nat.two_mul, Nat.pow_add]
 exact Nat.lt_of_le_of_lt (Nat.mul_le_mul_right b (Nat.le_of_lt ha)) (Nat.mul_lt_mul_of_pos_left hb (Nat.pow_pos (by omega)))
theorem radd_ev {x y : Rat} {m : Nat} (hx : Bd x m) (hy : Bd y m) (hm : 2 * m + 1 ≤ 1073741824) :
  Ev (fun k => rational_add.f k (rp x).1 (rp x).2.1 (rp x).2.2 (rp y).1 (rp y).2.1 (rp y).2.2) (rp (x + y)) := by
 unfold rational_add.f rp
 simp only [toList_inj', dn_inj x.den_nz y.den_nz]
 by_cases h : x.den = y.den
 ·simp only [if_pos h, den_f _ _ _ x.den_nz]
  refine Ev.bind (Ev.now _) ?_
  have e : x + y = mkRat (si (decide (x.num < 0)) x.num.natAbs + si (decide (y.num < 0)) y.num.natAbs) x.den := by
   rw [Rat.add_def', si_num, si_num, ← h, ← Int.add_mul, Rat.mkRat_mul_right x.den_nz]
  rw [← rp, e]
  exact addj_ev _ _ _ _ _ _ _ _ _ x.den_nz (m := m) hx.1 hy.1 hx.2 (by omega)
 ·simp only [if_neg h, den_f _ _ _ x.den_nz, den_f _ _ _ y.den_nz]
  have lx := lim_by hx.1 (by omega)
  have ly := lim_by hy.1 (by omega)
  have dx := lim_by hx.2 (by omega)
  have dy := lim_by hy.2 (by omega)
  have m1 := mul_ev lx dy
  have m2 := mul_ev ly dx
  have m3 := mul_ev dx dy
  rw [sv_by, sv_by] at m1 m2 m3
  have e : x + y = mkRat (si (decide (x.num < 0)) (x.num.natAbs * y.den) + si (decide (y.num < 0)) (y.num.natAbs * x.den)) (x.den * y.den) := by
   rw [Rat.add_def', ← si_scale, ← si_scale, si_num, si_num]
  rw [← rp, e]
  refine Ev.bind (Ev.now _) (Ev.bind m1 (Ev.bind (Ev.now _) (Ev.bind m2 (Ev.bind (Ev.now _) (Ev.bind (Ev.now _) (Ev.bind m3 ?_))))))
  exact addj_ev _ _ _ _ _ _ _ _ _ (Nat.mul_ne_zero x.den_nz y.den_nz) (m := 2 * m) (mul_lt_pow hx.1 hy.2) (mul_lt_pow hy.1 hx.2) (mul_lt_pow hx.2 hy.2) hm

theorem bd_add {x y : Rat} {m : Nat} (hx : Bd x m) (hy : Bd y m) : Bd (x + y) (2 * m + 1) := by
 rw [Rat.add_def']
 refine bd_mk (Nat.mul_ne_zero x.den_nz y.den_nz) ?_ (Nat.lt_of_lt_of_le (mul_lt_pow hx.2 hy.2) (Nat.pow_le_pow_right (by omega) (by omega)))
 have h1 := mul_lt_pow hx.1 hy.2
 have h2 := mul_lt_pow hy.1 hx.2
 have h3 := Int.natAbs_add_le (x.num * y.den) (y.num * x.den)
 rw [Int.natAbs_mul, Int.natAbs_mul, Int.natAbs_natCast, Int.natAbs_natCast] at h3
 rw [Nat.pow_succ]; omega
theorem bd_neg {x : Rat} {m : Nat} (hx : Bd x m) : Bd (-x) m := by unfold Bd; rw [Rat.neg_num, Rat.neg_den, Int.natAbs_neg]; exact hx

section
variable {a1 a2 b1 b2 : ByteArray} (a0 b0 : Bool) {m : Nat}
theorem bd_rc (h1 : a1.size ≤ m) (h2 : a2.size ≤ m) (hm : 1 ≤ m) : Bd (rc a0 a1 a2) m := by
 unfold rc
 split
 ·unfold rm
  have p : 256 ^ a1.size ≤ 256 ^ m := Nat.pow_le_pow_right (by omega) h1
  have q : 256 ^ a2.size ≤ 256 ^ m := Nat.pow_le_pow_right (by omega) h2
  have o : 256 ^ 1 ≤ 256 ^ m := Nat.pow_le_pow_right (by omega) hm
  rename_i hv
  have hd : dv a2 ≠ 0 := by
   obtain ⟨x, hx⟩ := vd_iff.1 hv
   have : a2 = dn x.den := by unfold rp at hx; simp only [Prod.mk.injEq] at hx; exact hx.2.2.symm
   rw [this, dv_dn x.den_nz]; exact x.den_nz
  refine bd_mk hd ?_ ?_
  ·rw [si_abs]; exact Nat.lt_of_lt_of_le (sv_lt a1) p
  ·unfold dv; split
   ·omega
   ·exact Nat.lt_of_lt_of_le (sv_lt a2) q
 ·exact ⟨Nat.pow_pos (by omega), Nat.lt_of_lt_of_le (by decide : 1 < 256 ^ 1) (Nat.pow_le_pow_right (by omega) hm)⟩
variable (h1 : a1.size ≤ m) (h2 : a2.size ≤ m) (k1 : b1.size ≤ m) (k2 : b2.size ≤ m) (hm1 : 1 ≤ m) (hm : 2 * m + 1 ≤ 1073741824)
include h1 h2 k1 k2 hm1 hm
theorem Subtract_ev : Ev (fun k => rational_Subtract.f k a0 a1 a2 b0 b1 b2) (rp (rc a0 a1 a2 - rc b0 b1 b2)) := by
 unfold rational_Subtract.f
 refine Ev.bind (clean_ev a0 (by unfold Lim; omega) (by unfold Lim; omega)) (Ev.bind (clean_ev b0 (by unfold Lim; omega) (by unfold Lim; omega)) ?_)
 rw [Rat.sub_eq_add_neg]
 simp only [negate_f]
 exact Ev.bind (Ev.now _) (some3 (radd_ev (bd_rc a0 h1 h2 hm1) (bd_neg (bd_rc b0 k1 k2 hm1)) hm))
end
def cmpR (x y : Rat) : Int := if x < y then -1 else if y < x then 1 else 0
theorem sign_lt (x y : Rat) (h : Int.sign x.num ≠ Int.sign y.num) : cmpR x y = if Int.sign x.num < Int.sign y.num then -1 else 1 := by
 unfold cmpR
 have dx : (0 : Int) < x.den := Int.natCast_pos.2 x.den_pos
 have dy : (0 : Int) < y.den := Int.natCast_pos.2 y.den_pos
 simp only [Rat.lt_iff]
 have P : ∀ {a b : Int}, 0 < a → 0 < b → 0 < a * b := fun h1 h2 => Int.mul_pos h1 h2
 have N : ∀ {a b : Int}, a < 0 → 0 < b → a * b < 0 := fun h1 h2 => Int.mul_neg_of_neg_of_pos h1 h2
 rcases Int.lt_trichotomy x.num 0 with hx | hx | hx <;> rcases Int.lt_trichotomy y.num 0 with hy | hy | hy
 ·rw [Int.sign_eq_neg_one_of_neg hx, Int.sign_eq_neg_one_of_neg hy] at h; exact absurd rfl h
 ·have := N hx dy
  rw [Int.sign_eq_neg_one_of_neg hx, hy, Int.sign_zero]; simp; omega
 ·have h1 := N hx dy
  have h2 := P hy dx
  rw [Int.sign_eq_neg_one_of_neg hx, Int.sign_eq_one_of_pos hy, if_pos (by omega)]; rfl
 ·have := N hy dx
  rw [Int.sign_eq_neg_one_of_neg hy, hx, Int.sign_zero]; simp; omega
 ·rw [hx, hy] at h; exact absurd rfl h
 ·have := P hy dx
  rw [Int.sign_eq_one_of_pos hy, hx, Int.sign_zero]; simp; omega
 ·have h1 := P hx dy
  have h2 := N hy dx
  rw [Int.sign_eq_one_of_pos hx, Int.sign_eq_neg_one_of_neg hy, if_neg (by omega), if_pos (by omega)]; rfl
 ·have := P hx dy
  rw [Int.sign_eq_one_of_pos hx, hy, Int.sign_zero]; simp; omega
 ·rw [Int.sign_eq_one_of_pos hx, Int.sign_eq_one_of_pos hy] at h; exact absurd rfl h
theorem cmp_same (x y : Rat) (h : decide (x.num < 0) = decide (y.num < 0)) : cmpR x y = if x.num < 0 then -(sgn (x.num.natAbs * y.den) (y.num.natAbs * x.den)) else sgn (x.num.natAbs * y.den) (y.num.natAbs * x.den) := by
 unfold cmpR sgn
 simp only [Rat.lt_iff]
 generalize hp : x.num.natAbs * y.den = p
 generalize hq : y.num.natAbs * x.den = q
 by_cases hx : x.num < 0
 ·have hy : y.num < 0 := by simpa [hx] using h.symm
  have e1 : x.num * y.den = -(p : Int) := by rw [← hp, Int.natCast_mul, ← Int.neg_mul]; congr 1; omega
  have e2 : y.num * x.den = -(q : Int) := by rw [← hq, Int.natCast_mul, ← Int.neg_mul]; congr 1; omega
  rw [e1, e2, if_pos hx]
  repeat' split
  all_goals omega
 ·have hy : ¬ y.num < 0 := by simpa [hx] using h.symm
  have e1 : x.num * y.den = (p : Int) := by rw [← hp, Int.natCast_mul]; congr 1; omega
  have e2 : y.num * x.den = (q : Int) := by rw [← hq, Int.natCast_mul]; congr 1; omega
  rw [e1, e2, if_neg hx]
  repeat' split
  all_goals omega
theorem sgn_bd (a b : Nat) : -1 ≤ sgn a b ∧ sgn a b ≤ 1 := by
 unfold sgn
 repeat' split
 all_goals decide
section
variable {a1 a2 b1 b2 : ByteArray} (a0 b0 : Bool) {m : Nat}
variable (h1 : a1.size ≤ m) (h2 : a2.size ≤ m) (k1 : b1.size ≤ m) (k2 : b2.size ≤ m) (hm1 : 1 ≤ m) (hm : 2 * m + 1 ≤ 1073741824)
include h1 h2 hm1 hm
theorem Sign_ev : Ev (fun k => rational_Sign.f k a0 a1 a2) (Int.sign (rc a0 a1 a2).num) := by
 unfold rational_Sign.f
 refine Ev.bind (clean_ev a0 (by unfold Lim; omega) (by unfold Lim; omega)) ?_
 simp only [signOf_f]
 exact Ev.bind (Ev.now _) (Ev.now _)
include k1 k2
theorem Compare_ev : Ev (fun k => rational_Compare.f k a0 a1 a2 b0 b1 b2) (cmpR (rc a0 a1 a2) (rc b0 b1 b2)) := by
 unfold rational_Compare.f
 refine Ev.bind (clean_ev a0 (by unfold Lim; omega) (by unfold Lim; omega)) (Ev.bind (clean_ev b0 (by unfold Lim; omega) (by unfold Lim; omega)) ?_)
 have bx := bd_rc a0 h1 h2 hm1
 have bY := bd_rc b0 k1 k2 hm1
 generalize rc a0 a1 a2 = x at bx ⊢
 generalize rc b0 b1 b2 = y at bY ⊢
 simp only [signOf_f]
 refine Ev.bind (Ev.now _) (Ev.bind (Ev.now _) ?_)
 by_cases hs : Int.sign x.num = Int.sign y.num
 ·simp only [if_pos hs]
  have m1 := mul_ev (lim_by bx.1 (by omega)) (lim_by bY.2 (by omega))
  have m2 := mul_ev (lim_by bY.1 (by omega)) (lim_by bx.2 (by omega))
  rw [sv_by, sv_by] at m1 m2
  have c1 := cmp_ev (lim_by (mul_lt_pow bx.1 bY.2) (by omega)) (lim_by (mul_lt_pow bY.1 bx.2) (by omega))
  rw [sv_by, sv_by] at c1
  have hd : decide (x.num < 0) = decide (y.num < 0) := by
   have := Int.sign_eq_neg_one_iff_neg (a := x.num)
   have := Int.sign_eq_neg_one_iff_neg (a := y.num)
   simp only [decide_eq_decide]; rw [← Int.sign_eq_neg_one_iff_neg, ← Int.sign_eq_neg_one_iff_neg, hs]
  rw [cmp_same x y hd]
  simp only [rp, den_f _ _ _ x.den_nz, den_f _ _ _ y.den_nz]
  refine Ev.bind (Ev.now _) (Ev.bind m1 (Ev.bind (Ev.now _) (Ev.bind m2 (Ev.bind c1 ?_))))
  have hb := sgn_bd (x.num.natAbs * y.den) (y.num.natAbs * x.den)
  by_cases hx : x.num < 0
  ·rw [if_pos hx]
   refine Ev.congr (f := fun _ => some (-(sgn (x.num.natAbs * y.den) (y.num.natAbs * x.den)))) (fun k => ?_) (Ev.now _)
   exact (if_pos (by simpa using hx)).trans (by rw [w64 (by omega) (by omega)])
  ·rw [if_neg hx]
   refine Ev.congr (f := fun _ => some (sgn (x.num.natAbs * y.den) (y.num.natAbs * x.den))) (fun k => ?_) (Ev.now _)
   exact if_neg (by simpa using hx)
 ·simp only [if_neg hs]
  rw [sign_lt x y hs]
  refine Ev.congr (f := fun _ => some (if Int.sign x.num < Int.sign y.num then -1 else 1)) (fun k => ?_) (Ev.now _)
  split <;> rfl
end

set_option maxRecDepth 100000
theorem awake_at (j : Nat) : insolvencylaw2_awake.f (j + 40) = some true := by kernel_rfl
theorem awake_ev : Ev (fun k => insolvencylaw2_awake.f k) true := ⟨40, fun k hk => by obtain ⟨j, rfl⟩ := Nat.exists_eq_add_of_le' hk; exact awake_at j⟩
def fw (s : S24) : Bool := decide (s.f1.size ≤ 24) && decide (s.f2.size ≤ 24)
theorem few_f (s : S24) : insolvencylaw0_Few.f s.f0 s.f1 s.f2 = some (fw s) := by
 unfold insolvencylaw0_Few.f fw
 have e1 : ((s.f1.size : Int) ≤ 24) ↔ s.f1.size ≤ 24 := by omega
 have e2 : ((s.f2.size : Int) ≤ 24) ↔ s.f2.size ≤ 24 := by omega
 by_cases h : s.f1.size ≤ 24
 ·rw [if_pos (e1.2 h)]; simp [h, e2]
 ·rw [if_neg (mt e1.1 h)]; simp [h]
theorem few_l0 (l : List S24) (hl : l.length ≤ 1000) : ∀ d i, i + d = l.length → Ev (fun k => insolvencylaw0_FewRats.l0 k l (l.length : Int) (i : Int)) ((l.drop i).all fw) := by
 intro d
 induction d with
 | zero =>
  intro i hi
  refine Ev.step (f := fun _ => some true) (fun k => ?_) ?_
  ·simp only [insolvencylaw0_FewRats.l0]; rw [if_neg (by omega)]
  ·rw [List.drop_of_length_le (by omega)]; exact Ev.now _
 | succ d ih =>
  intro i hi
  have hlt : i < l.length := by omega
  have e : rd_T24 l (i : Int) = l[i] := by
   show l.getD _ _ = _
   simp [List.getD_eq_getElem?_getD, hlt]
  refine Ev.step (f := fun k => if fw l[i] = true then insolvencylaw0_FewRats.l0 k l (l.length : Int) ((i + 1 : Nat) : Int) else some false) (fun k => ?_) ?_
  ·simp only [insolvencylaw0_FewRats.l0]
   have w : wrap64 ((i : Int) + 1) = ((i + 1 : Nat) : Int) := by rw [w64 (by omega) (by omega)]; omega
   rw [if_pos (show (i : Int) < (l.length : Int) by omega), if_pos (show (0 : Int) ≤ (i : Int) by omega), if_pos (show (i : Int) < (l.length : Int) by omega), e, few_f, w]
   rfl
  ·rw [List.drop_eq_getElem_cons hlt, List.all_cons]
   cases hf : fw l[i] with
   | true => simp only [if_true, Bool.true_and]; exact ih (i + 1) (by omega)
   | false => simp only [Bool.false_and]; exact Ev.now _
theorem few_ev (l : List S24) (n : Int) (hl : (l.length : Int) ≤ n) (h8 : l.length ≤ 1000) : Ev (fun k => insolvencylaw0_FewRats.f k l n) (l.all fw) := by
 unfold insolvencylaw0_FewRats.f
 simp only [if_neg (show ¬ (l.length : Int) > n by omega)]
 have := few_l0 l h8 l.length 0 (by omega)
 rw [List.drop_zero] at this
 exact this
theorem few8_ev (l : List S24) (h8 : l.length ≤ 8) : Ev (fun k => insolvencylaw2_few.f k l) (l.all fw) := by
 unfold insolvencylaw2_few.f
 exact Ev.bind (few_ev l 8 (by omega) (by omega)) (Ev.now _)
theorem fw_iff {a : Bool} {b c : ByteArray} : fw ⟨a, b, c⟩ = true ↔ b.size ≤ 24 ∧ c.size ≤ 24 := by
 unfold fw; simp


theorem extract_drop (s : ByteArray) (i : Nat) : s.extract i s.size = mkS (s.data.toList.drop i) := by
 apply ByteArray.ext
 apply Array.toList_inj.1
 rw [ByteArray.data_extract, mkS_toList, Array.toList_extract]
 rw [List.extract_eq_take_drop, List.take_of_length_le]
 rw [List.length_drop, size_data]; omega
theorem bt_data (s : ByteArray) {i : Nat} (hi : i < s.size) (hl : i < s.data.toList.length) : bt s (i : Int) = ((s.data.toList[i]).toNat : Int) := by
 have h1 := bt_rb s (s.size - 1 - i) (by omega)
 rw [show s.size - 1 - (s.size - 1 - i) = i by omega] at h1
 rw [h1]
 unfold rb bytesOf
 have hx : s.size - 1 - i < (List.map (fun b : UInt8 => (b.toNat : Int)) s.data.toList).reverse.length := by
  rw [List.length_reverse, List.length_map, ← size_data]; omega
 rw [List.getD_eq_getElem?_getD, List.getElem?_eq_getElem hx]
 simp only [List.getElem_reverse, List.length_map, List.getElem_map, Option.getD_some]
 have : s.data.toList.length - 1 - (s.size - 1 - i) = i := by rw [← size_data]; omega
 simp only [this]
section
variable {p z v out : List Int} {j N : Nat} {s : Int} {R : List Int × List Int} (hp : p.length = j) (hv : OkL v) (hN : v.length = N) (hb : j + N ≤ 17592186044415) (hj : (j : Int) < (out.length : Int))
include hp hv hN hb hj

end

def isD (c : UInt8) : Bool := decide (48 ≤ c.toNat) && decide (c.toNat ≤ 57)
def isDs (l : List UInt8) : Bool := l.all isD && (l != [])
def isI (l : List UInt8) : Bool := isDs l && (l.head? != some 48 || l.length == 1)
def dva : List UInt8 → Nat → Nat
 | [], a => a
 | c :: l, a => dva l (a * 10 + (c.toNat - 48))
def dval (l : List UInt8) : Nat := dva l 0
theorem dva_append (l m : List UInt8) : ∀ a, dva (l ++ m) a = dva m (dva l a) := by
 induction l with
 | nil => intro a; rfl
 | cons c l ih => intro a; exact ih _
theorem dva_acc (l : List UInt8) : ∀ a, dva l a = a * 10 ^ l.length + dval l := by
 induction l with
 | nil => intro a; simp [dva, dval]
 | cons c l ih =>
  intro a
  unfold dval
  simp only [dva]
  rw [ih, ih (0 * 10 + _), List.length_cons, Nat.pow_succ]
  grind
theorem dval_append (l m : List UInt8) : dval (l ++ m) = dval l * 10 ^ m.length + dval m := by
 unfold dval; rw [dva_append, dva_acc]; rfl
theorem dval_cons (c : UInt8) (l : List UInt8) : dval (c :: l) = (c.toNat - 48) * 10 ^ l.length + dval l := by
 unfold dval; simp only [dva]; rw [dva_acc]; simp [dval]
theorem dval_lt {l : List UInt8} (h : l.all isD = true) : dval l < 10 ^ l.length := by
 induction l with
 | nil => decide
 | cons c l ih =>
  rw [List.all_cons, Bool.and_eq_true] at h
  have h1 := ih h.2
  have hc : c.toNat - 48 ≤ 9 := by have := h.1; unfold isD at this; simp at this; omega
  rw [dval_cons, List.length_cons, Nat.pow_succ]
  have := Nat.mul_le_mul_right (10 ^ l.length) hc
  omega
theorem dval_drop0 (l : List UInt8) : dval (l.dropWhile (· == 48)) = dval l := by
 induction l with
 | nil => rfl
 | cons c l ih =>
  rw [List.dropWhile_cons]
  by_cases h : (c == 48) = true
  ·rw [if_pos h, ih, dval_cons]
   have : c = 48 := by simpa using h
   subst this
   simp
  ·rw [if_neg h]
theorem all_drop {p q : UInt8 → Bool} {l : List UInt8} (h : l.all p = true) : (l.dropWhile q).all p = true :=
 List.all_eq_true.2 fun x hx => List.all_eq_true.1 h x ((List.dropWhile_sublist q).subset hx)
theorem drop_at (s : ByteArray) {i : Nat} (hi : i < s.size) : ∃ c, s.data.toList.drop i = c :: s.data.toList.drop (i + 1) ∧ bt s (i : Int) = (c.toNat : Int) := by
 have hl : i < s.data.toList.length := by rw [← size_data]; exact hi
 exact ⟨_, List.drop_eq_getElem_cons hl, bt_data s hi hl⟩
theorem next_w {i d n : Nat} (hi : i + (d + 1) = n) (hn : n ≤ 9223372036854775806) : wrap64 ((i : Int) + 1) = ((i + 1 : Nat) : Int) := by rw [w64 (by omega) (by omega)]; omega
theorem isDigits_l0 (s : ByteArray) (hs : s.size ≤ 9223372036854775806) : ∀ d i, i + d = s.size → Ev (fun k => rational_isDigits.l0 k s (s.size : Int) (i : Int)) ((s.data.toList.drop i).all isD && (s.data.toList != [])) := by
 intro d
 induction d with
 | zero =>
  intro i hi
  refine Ev.step (f := fun _ => some (s.toList != ([] : List UInt8))) (fun k => ?_) ?_
  ·simp only [rational_isDigits.l0]; rw [if_neg (by omega)]
  ·rw [List.drop_of_length_le (by rw [← size_data]; omega), Go.Lib.toList_data]; exact Ev.now _
 | succ d ih =>
  intro i hi
  obtain ⟨c, hc, hb⟩ := drop_at s (i := i) (by omega)
  rw [hc, List.all_cons]
  have w := next_w hi hs
  by_cases h : isD c = true
  ·rw [h, Bool.true_and]
   unfold isD at h
   simp only [Bool.and_eq_true, decide_eq_true_eq] at h
   refine Ev.step (fun k => ?_) (ih (i + 1) (by omega))
   simp only [rational_isDigits.l0]
   rw [if_pos (show (i : Int) < (s.size : Int) by omega), if_pos (show (0 : Int) ≤ (i : Int) by omega), if_pos (show (i : Int) < (s.size : Int) by omega), hb, if_neg (by omega), if_neg (by omega), w]
  ·rw [Bool.not_eq_true] at h
   rw [h, Bool.false_and, Bool.false_and]
   refine Ev.step (f := fun _ => some false) (fun k => ?_) (Ev.now _)
   simp only [rational_isDigits.l0]
   rw [if_pos (show (i : Int) < (s.size : Int) by omega), if_pos (show (0 : Int) ≤ (i : Int) by omega), if_pos (show (i : Int) < (s.size : Int) by omega), hb]
   unfold isD at h
   by_cases h1 : 48 ≤ c.toNat
   ·have : ¬ c.toNat ≤ 57 := by intro h2; simp [h1, h2] at h
    rw [if_neg (by omega), if_pos (by omega)]
   ·rw [if_pos (by omega)]
theorem isDigits_ev (s : ByteArray) (hs : s.size ≤ 9223372036854775806) : Ev (fun k => rational_isDigits.f k s) (isDs s.data.toList) := by
 have := isDigits_l0 s hs s.size 0 (by omega)
 rw [List.drop_zero] at this
 exact this
theorem isInteger_ev (s : ByteArray) (hs : s.size ≤ 9223372036854775806) : Ev (fun k => rational_isInteger.f k s) (isI s.data.toList) := by
 unfold rational_isInteger.f
 refine Ev.bind (isDigits_ev s hs) ?_
 unfold isI
 cases h : isDs s.data.toList with
 | false => exact Ev.now _
 | true =>
  simp only [if_true, Bool.true_and]
  cases hl : s.data.toList with
  | nil => rw [hl] at h; exact absurd h (by decide)
  | cons c l =>
   have hsz : s.size = l.length + 1 := by rw [size_data, hl]; rfl
   obtain ⟨c', h1, h2⟩ := drop_at s (i := 0) (by omega)
   rw [List.drop_zero, hl] at h1
   obtain rfl := (List.cons.inj h1).1
   have h2' : bt s 0 = (c.toNat : Int) := h2
   rw [Go.Lib.toList_data, hl, h2']
   by_cases h3 : c :: l = [48]
   ·rw [if_pos h3, h3]; exact Ev.now _
   ·rw [if_neg h3, if_pos (by omega)]
    have e : (((c.toNat : Int)) != 48) = ((c :: l).head? != some 48 || (c :: l).length == 1) := by
     by_cases hc : c = 48
     ·subst hc
      have : l ≠ [] := by rintro rfl; exact h3 rfl
      cases l with
      | nil => exact absurd rfl this
      | cons x l => simp
     ·have h4 : (c.toNat : Int) ≠ 48 := fun h => hc (UInt8.toNat_inj.1 (by have : (48 : UInt8).toNat = 48 := rfl; omega))
      rw [show ((c.toNat : Int) != 48) = true from bne_iff_ne.2 h4]
      simp [hc]
    rw [e]; exact Ev.now _

theorem ix_eq (c : UInt8) : ∀ l : List UInt8, Lib.indexByte l c = if l.any (· == c) = true then ((l.takeWhile (· != c)).length : Int) else -1 := by
 intro l
 induction l with
 | nil => rfl
 | cons b l ih =>
  unfold Lib.indexByte
  rw [List.any_cons, List.takeWhile_cons]
  by_cases h : (b == c) = true
  ·have h' : (b != c) = false := by simp only [bne, h, Bool.not_true]
   simp only [h, h', if_true, Bool.true_or]; rfl
  ·have h0 : (b == c) = false := by simpa using h
   have h' : (b != c) = true := by simp only [bne, h0, Bool.not_false]
   simp only [h0, h', Bool.false_or, ih, Bool.false_eq_true, if_false]
   by_cases h2 : l.any (· == c) = true
   ·have h3 : (((l.takeWhile (· != c)).length : Int) == -1) = false := beq_eq_false_iff_ne.2 (by omega)
    simp only [h2, if_true, h3, List.length_cons, Bool.false_eq_true, if_false]; omega
   ·simp only [h2]; rfl
theorem take_tw (p : UInt8 → Bool) : ∀ l : List UInt8, l.take (l.takeWhile p).length = l.takeWhile p := by
 intro l
 induction l with
 | nil => rfl
 | cons b l ih =>
  rw [List.takeWhile_cons]
  cases h : p b with
  | true => simp [ih]
  | false => simp
theorem drop_tw (p : UInt8 → Bool) : ∀ l : List UInt8, l.drop ((l.takeWhile p).length + 1) = (l.dropWhile p).tail := by
 intro l
 induction l with
 | nil => rfl
 | cons b l ih =>
  rw [List.takeWhile_cons, List.dropWhile_cons]
  cases h : p b with
  | true => simpa using ih
  | false => simp
theorem tw_len (p : UInt8 → Bool) (l : List UInt8) : (l.takeWhile p).length ≤ l.length := (List.takeWhile_sublist p).length_le
theorem dw_len (p : UInt8 → Bool) (l : List UInt8) : (l.dropWhile p).length ≤ l.length := (List.dropWhile_sublist p).length_le
theorem any_tw {c : UInt8} : ∀ {l : List UInt8}, l.any (· == c) = false → l.takeWhile (· != c) = l ∧ l.dropWhile (· != c) = [] := by
 intro l
 induction l with
 | nil => intro _; exact ⟨rfl, rfl⟩
 | cons b l ih =>
  intro h
  rw [List.any_cons, Bool.or_eq_false_iff] at h
  have h' : (b != c) = true := by simp only [bne, h.1, Bool.not_false]
  rw [List.takeWhile_cons, List.dropWhile_cons, if_pos h', if_pos h']
  obtain ⟨h1, h2⟩ := ih h.2
  exact ⟨by rw [h1], h2⟩
theorem any_lt {c : UInt8} : ∀ {l : List UInt8}, l.any (· == c) = true → (l.takeWhile (· != c)).length < l.length := by
 intro l
 induction l with
 | nil => intro h; cases h
 | cons b l ih =>
  intro h
  rw [List.takeWhile_cons]
  by_cases h1 : (b == c) = true
  ·have h' : (b != c) = false := by simp only [bne, h1, Bool.not_true]
   rw [h']; simp
  ·have h0 : (b == c) = false := by simpa using h1
   have h' : (b != c) = true := by simp only [bne, h0, Bool.not_false]
   rw [List.any_cons, h0, Bool.false_or] at h
   rw [if_pos h']; simpa using ih h
theorem extract_take (s : ByteArray) (i : Nat) : s.extract 0 i = mkS (s.data.toList.take i) := by
 apply ByteArray.ext
 simp only [ByteArray.data_extract, mkS]
 apply Array.toList_inj.1
 simp
def cutR (c : UInt8) (l : List UInt8) : ByteArray × ByteArray × Bool := (mkS (l.takeWhile (· != c)), mkS (l.dropWhile (· != c)).tail, l.any (· == c))
theorem one_size (c : UInt8) : (((⟨#[c]⟩ : ByteArray).size : Nat) : Int) = 1 := rfl
theorem toList_single (c : UInt8) : (⟨#[c]⟩ : ByteArray).toList = [c] := by rw [Go.Lib.toList_data]
theorem index_ev (s : ByteArray) (c : UInt8) (hc : c.toNat < 256) : Ev (fun k => stringslite_Index.f k s ⟨#[c]⟩) (Lib.indexByte s.data.toList c) := by
 unfold stringslite_Index.f
 simp only [one_size, if_neg (show ¬ (1 : Int) = 0 by decide)]
 by_cases h : ((⟨#[c]⟩ : ByteArray).toList == s.toList) = true
 ·simp only [h]
  refine Ev.step (f := fun _ => some 0) (fun k => ?_) ?_
  ·simp only [stringslite_Index.j0]; rfl
  ·rw [toList_single, Go.Lib.toList_data] at h
   have : [c] = s.data.toList := by simpa using h
   rw [← this]; unfold Lib.indexByte; simp only [BEq.rfl, if_true]; exact Ev.now _
 ·rw [Bool.not_eq_true] at h
  simp only [h]
  have hb : bt (⟨#[c]⟩ : ByteArray) 0 = (c.toNat : Int) := bt_cons c []
  refine Ev.step (f := fun _ => some (Lib.indexByte s.data.toList c)) (fun k => ?_) (Ev.now _)
  simp only [stringslite_Index.j0]
  rw [if_neg (by decide), if_pos trivial, one_size, if_pos (by decide), hb]
  unfold stringslite_IndexByte.f
  rw [Int.toNat_natCast, show c.toNat.toUInt8 = c from UInt8.ofNat_toNat]; rfl
theorem cut_ev (s : ByteArray) (c : UInt8) (hs : s.size ≤ 9223372036854775806) : Ev (fun k => strings_Cut.f k s ⟨#[c]⟩) (cutR c s.data.toList) := by
 unfold strings_Cut.f
 refine Ev.bind (a := cutR c s.data.toList) ?_ (Ev.now _)
 unfold stringslite_Cut.f
 refine Ev.bind (index_ev s c c.toNat_lt) ?_
 rw [ix_eq, one_size]
 cases h : s.data.toList.any (· == c) with
 | false =>
  simp only [Bool.false_eq_true, if_false]
  rw [if_neg (by decide)]
  unfold cutR
  obtain ⟨h1, h2⟩ := any_tw h
  rw [h1, h2, h, mkS_data]
  exact Ev.now _
 | true =>
  simp only [if_true]
  have h1 := any_lt h
  rw [← size_data] at h1
  have h2 : wrap64 (((s.data.toList.takeWhile (· != c)).length : Int) + 1) = (((s.data.toList.takeWhile (· != c)).length + 1 : Nat) : Int) := by rw [w64 (by omega) (by omega)]; omega
  rw [if_pos (by omega), if_pos (by omega), if_pos (by omega), h2, if_pos (by omega), if_pos (by omega), Int.toNat_natCast, Int.toNat_natCast, extract_take, extract_drop, take_tw, drop_tw]
  unfold cutR
  rw [h]
  exact Ev.now _
theorem prefix_f (s : ByteArray) (c : UInt8) : stringslite_HasPrefix.f s ⟨#[c]⟩ = some (s.data.toList.head? == some c) := by
 unfold stringslite_HasPrefix.f
 rw [one_size]
 cases hl : s.data.toList with
 | nil =>
  have hsz : s.size = 0 := by rw [size_data, hl]; rfl
  rw [if_neg (by omega)]; rfl
 | cons x l =>
  have hsz : s.size = l.length + 1 := by rw [size_data, hl]; rfl
  rw [if_pos (by omega), if_pos (by decide), if_pos (by omega), show ((1 : Int).toNat) = 1 from rfl, extract_take, hl, toList_single, Go.Lib.toList_data, mkS_toList]
  simp
theorem cutPrefix_f (s : ByteArray) (c : UInt8) : strings_CutPrefix.f s ⟨#[c]⟩ = some (if s.data.toList.head? = some c then (mkS s.data.toList.tail, true) else (s, false)) := by
 unfold strings_CutPrefix.f stringslite_CutPrefix.f
 rw [prefix_f, one_size]
 by_cases h : s.data.toList.head? = some c
 ·have hs : 1 ≤ s.size := by
   rw [size_data]
   cases hl : s.data.toList with
   | nil => rw [hl] at h; cases h
   | cons x l => simp
  rw [if_pos h]
  simp only [h, BEq.rfl, Option.bind_some, if_true]
  rw [if_pos (by decide), if_pos (by omega), show ((1 : Int).toNat) = 1 from rfl, extract_drop, List.drop_one]
  rfl
 ·rw [if_neg h]
  have h' : (s.data.toList.head? == some c) = false := beq_eq_false_iff_ne.2 h
  simp only [h', Option.bind_some, Bool.false_eq_true, if_false]

theorem trim_digits {l : List UInt8} (h : l.all isD = true) : Lib.trimS l [48, 49, 50, 51, 52, 53, 54, 55, 56, 57] = [] := by
 have dn : ∀ {p : UInt8 → Bool} {m : List UInt8}, (∀ x ∈ m, p x = true) → m.dropWhile p = [] := by
  intro p m
  induction m with
  | nil => intro _; rfl
  | cons x m ih => intro h; rw [List.dropWhile_cons, if_pos (h x List.mem_cons_self)]; exact ih fun y hy => h y (List.mem_cons_of_mem _ hy)
 have e : l.reverse.dropWhile (([48, 49, 50, 51, 52, 53, 54, 55, 56, 57] : List UInt8).contains ·) = [] := by
  refine dn ?_
  intro x hx
  have h1 := List.all_eq_true.1 h x (List.mem_reverse.1 hx)
  unfold isD at h1
  simp only [Bool.and_eq_true, decide_eq_true_eq] at h1
  have h2 : x.toNat = 48 ∨ x.toNat = 49 ∨ x.toNat = 50 ∨ x.toNat = 51 ∨ x.toNat = 52 ∨ x.toNat = 53 ∨ x.toNat = 54 ∨ x.toNat = 55 ∨ x.toNat = 56 ∨ x.toNat = 57 := by omega
  have h3 : x = UInt8.ofNat x.toNat := (UInt8.ofNat_toNat).symm
  rcases h2 with h2 | h2 | h2 | h2 | h2 | h2 | h2 | h2 | h2 | h2 <;> rw [h3, h2] <;> decide
 unfold Lib.trimS Lib.trimRightS Lib.trimLeftS
 rw [e]; rfl
theorem parse10_l0 (s : ByteArray) (hd : s.data.toList.all isD = true) (hs : s.size ≤ 2000) : ∀ d i (x : List Int), i + d = s.size → OkL x → x.length ≤ i → EqI (ev 4294967296 x) (dval (s.data.toList.take i)) →
  Ev (fun k => natural_Parse.l0 k s x (s.size : Int) (i : Int)) (by_ (dval s.data.toList), 0) := by
 intro d
 induction d with
 | zero =>
  intro i x hi hx hl he
  have e : s.data.toList.take i = s.data.toList := List.take_of_length_le (by rw [← size_data]; omega)
  rw [e] at he
  have hv : vl x = dval s.data.toList := by have := vl_cast hx; have := he.out; omega
  have ht := trim_ev hx (by omega)
  rw [hv] at ht
  have hlen : (lm (dval s.data.toList)).length ≤ s.size := by
   refine dg_len_le (by omega) ?_
   have h1 := dval_lt hd
   rw [← size_data] at h1
   exact Nat.lt_of_lt_of_le h1 (Nat.pow_le_pow_left (by omega) _)
  have hx' := text_ev (lm_ok (dval s.data.toList)) (by omega)
  rw [vl_lm] at hx'
  refine Ev.step (f := fun k => (natural_limbs_trim.f k x).bind fun t => ((natural_limbs_text.f k t).bind fun u => some (u, 0))) (fun k => ?_) (Ev.bind ht (Ev.bind hx' (Ev.now _)))
  simp only [natural_Parse.l0]; rw [if_neg (by omega)]
 | succ d ih =>
  intro i x hi hx hl he
  obtain ⟨c, hc, hb⟩ := drop_at s (i := i) (by omega)
  have hli : i < s.data.toList.length := by rw [← size_data]; omega
  have hcd : isD c = true := by
   refine List.all_eq_true.1 hd c (List.mem_of_mem_drop (i := i) ?_)
   rw [hc]; exact List.mem_cons_self
  unfold isD at hcd
  simp only [Bool.and_eq_true, decide_eq_true_eq] at hcd
  have ha : ((c.toNat : Int) - 48) % 256 = ((c.toNat - 48 : Nat) : Int) := by omega
  obtain ⟨r, h1, h2, h3, h4⟩ := multiplyAdd_ev hx (by omega) (f := 10) (a := ((c.toNat - 48 : Nat) : Int)) (by decide) (by decide) (by omega) (by omega)
  refine Ev.step (f := fun k => (natural_multiplyAdd.f k x 10 ((c.toNat - 48 : Nat) : Int)).bind fun t => natural_Parse.l0 k s t (s.size : Int) ((i + 1 : Nat) : Int)) (fun k => ?_) (Ev.bind h1 (ih (i + 1) r (by omega) h2 (by omega) ⟨?_⟩))
  ·simp only [natural_Parse.l0]
   rw [if_pos (show (i : Int) < (s.size : Int) by omega), if_pos (show (0 : Int) ≤ (i : Int) by omega), if_pos (show (i : Int) < (s.size : Int) by omega), hb, ha, next_w hi (by omega)]
  ·have e1 : s.data.toList.take (i + 1) = s.data.toList.take i ++ [c] := by
    rw [List.take_succ_eq_append_getElem hli]
    congr 2
    have := List.drop_eq_getElem_cons hli
    rw [hc] at this
    exact ((List.cons.inj this).1).symm
   rw [h3.out, he.out, e1, dval_append, dval_cons]
   simp [dval, dva]
theorem natParse_ev (s : ByteArray) (hd : s.data.toList.all isD = true) (h0 : s.data.toList ≠ []) (h1 : s.data.toList.head? ≠ some 48) (hs : s.size ≤ 2000) : Ev (fun k => natural_Parse.f k s) (by_ (dval s.data.toList), 0) := by
 unfold natural_Parse.f
 have ht : strings_Trim.f s (⟨#[48, 49, 50, 51, 52, 53, 54, 55, 56, 57]⟩ : ByteArray) = some (mkS []) := by
  unfold strings_Trim.f
  have e : (⟨#[48, 49, 50, 51, 52, 53, 54, 55, 56, 57]⟩ : ByteArray).data.toList = ([48, 49, 50, 51, 52, 53, 54, 55, 56, 57] : List UInt8) := rfl
  rw [e, trim_digits hd, if_pos ⟨by omega, by decide, by decide⟩]; rfl
 have hz : s.size ≠ 0 := by
  intro h; apply h0; rw [size_data] at h; exact List.eq_nil_of_length_eq_zero h
 simp only [if_neg (show ¬ s.toList = [] by rw [Go.Lib.toList_data]; exact h0), ht]
 have e0 : ((mkS []).toList != ([] : List UInt8)) = false := by rw [Go.Lib.toList_data, mkS_toList]; rfl
 have fin : Ev (fun k => natural_Parse.j0 k s false) (by_ (dval s.data.toList), 0) := by
  refine Ev.step (fun k => ?_) (parse10_l0 s hd hs s.size 0 [] (by omega) (ok_nil _) (by simp) ⟨by simp [ev, dval, dva]⟩)
  simp only [natural_Parse.j0]
  rw [if_neg (by decide), if_neg (by omega)]; rfl
 by_cases h : (s.size : Int) > 1
 ·obtain ⟨c, hc, hb⟩ := drop_at s (i := 0) (by omega)
  rw [List.drop_zero] at hc
  have h3 : ¬ bt s 0 = 48 := by
   intro h2
   rw [show bt s 0 = (c.toNat : Int) from hb] at h2
   rw [hc] at h1
   exact h1 (congrArg some (UInt8.toNat_inj.1 (by have : (48 : UInt8).toNat = 48 := rfl; omega)))
  simp only [if_pos h, if_pos (show (0 : Int) < (s.size : Int) by omega), if_neg h3, Option.bind_some, e0]
  exact fin
 ·simp only [if_neg h, Option.bind_some, e0]; exact fin
theorem digits_ev (s : ByteArray) (hd : s.data.toList.all isD = true) (hs : s.size ≤ 2000) : Ev (fun k => rational_digits.f k s) (by_ (dval s.data.toList)) := by
 unfold rational_digits.f
 refine Ev.bind (trimLeft_ev s 48 (by decide)) ?_
 rw [Go.Lib.toList_data, mkS_toList]
 by_cases h : s.data.toList.dropWhile (· == 48) = []
 ·simp only [if_pos h]
  rw [← dval_drop0, h, show dval [] = 0 from rfl, by_zero]; exact Ev.now _
 ·simp only [if_neg h]
  have := natParse_ev (mkS (s.data.toList.dropWhile (· == 48))) (by rw [mkS_toList]; exact all_drop hd) (by rw [mkS_toList]; exact h) ?_ (by rw [mkS_size]; rw [size_data] at hs; exact Nat.le_trans (dw_len _ _) hs)
  ·rw [mkS_toList, dval_drop0] at this
   exact Ev.bind this (Ev.now _)
  ·rw [mkS_toList]
   intro h1
   have h2 := List.head?_dropWhile_not (fun b : UInt8 => b == 48) s.data.toList
   rw [h1] at h2
   exact absurd h2 (by decide)
theorem ten_lt (n : Nat) : 10 ^ n < 256 ^ (n + 1) :=
 Nat.lt_of_le_of_lt (Nat.pow_le_pow_left (by omega) n) (Nat.pow_lt_pow_right (by omega) (by omega))
theorem lim_ten {n : Nat} (h : n ≤ 2001) : Lim (by_ (10 ^ n)) := lim_by (ten_lt n) (by omega)
theorem tenTo_l0 (n : Nat) (hn : n ≤ 2000) : ∀ d i, i + d = n → Ev (fun k => rational_tenTo.l0 k (by_ (10 ^ i)) (by_ 10) (n : Int) (i : Int)) (by_ (10 ^ n)) := by
 intro d
 induction d with
 | zero =>
  intro i hi
  obtain rfl : i = n := by omega
  refine Ev.step (f := fun _ => some (by_ (10 ^ i))) (fun k => ?_) (Ev.now _)
  simp only [rational_tenTo.l0]; rw [if_neg (by omega)]
 | succ d ih =>
  intro i hi
  have hm := mul_ev (lim_ten (n := i) (by omega)) (lim_by (n := 10) (m := 1) (by decide) (by decide))
  rw [sv_by, sv_by, ← Nat.pow_succ] at hm
  refine Ev.step (f := fun k => (natural_Multiply.f k (by_ (10 ^ i)) (by_ 10)).bind fun t => rational_tenTo.l0 k t (by_ 10) (n : Int) ((i + 1 : Nat) : Int)) (fun k => ?_) (Ev.bind hm (ih (i + 1) (by omega)))
  simp only [rational_tenTo.l0]
  rw [if_pos (by omega), next_w hi (by omega)]
theorem tenTo_ev (n : Nat) (hn : n ≤ 2000) : Ev (fun k => rational_tenTo.f k (n : Int)) (by_ (10 ^ n)) := by
 unfold rational_tenTo.f
 have h1 := fromUint_ev 1 (by decide)
 have h10 := fromUint_ev 10 (by decide)
 exact Ev.bind h1 (Ev.bind h10 (tenTo_l0 n hn n 0 (by omega)))

def pzb (neg : Bool) (b : List UInt8) : Rat × Int :=
 if b.any (· == 46) = true then
  (if (isI (b.takeWhile (· != 46)) && isDs (b.dropWhile (· != 46)).tail) = true then
   (if (b.takeWhile (· != 46)).length > 2000 ∨ (b.dropWhile (· != 46)).tail.length > 2000 then (0, 2)
    else (mkRat (si neg (dval (b.takeWhile (· != 46)) * 10 ^ (b.dropWhile (· != 46)).tail.length + dval (b.dropWhile (· != 46)).tail)) (10 ^ (b.dropWhile (· != 46)).tail.length), 0))
   else (0, 3))
 else if b.any (· == 47) = true then
  (if (isI (b.takeWhile (· != 47)) && isI (b.dropWhile (· != 47)).tail) = true then
   (if (b.takeWhile (· != 47)).length > 2000 ∨ (b.dropWhile (· != 47)).tail.length > 2000 then (0, 2)
    else if (b.dropWhile (· != 47)).tail = [48] then (0, 1)
    else (mkRat (si neg (dval (b.takeWhile (· != 47)))) (dval (b.dropWhile (· != 47)).tail), 0))
   else (0, 3))
 else if isI b = true then (if b.length > 2000 then (0, 2) else (mkRat (si neg (dval b)) 1, 0)) else (0, 3)
def pz (l : List UInt8) : Rat × Int := if l.head? = some 45 then pzb true l.tail else pzb false l
def pr (z : Rat × Int) : Bool × ByteArray × ByteArray × Int := ((rp z.1).1, (rp z.1).2.1, (rp z.1).2.2, z.2)
theorem pr_err (e : Int) : pr (0, e) = (false, (⟨#[]⟩ : ByteArray), (⟨#[]⟩ : ByteArray), e) := by unfold pr; rw [rp_zero]
theorem isI_all {l : List UInt8} (h : isI l = true) : l.all isD = true := by
 unfold isI isDs at h; simp only [Bool.and_eq_true] at h; exact h.1.1
theorem isDs_all {l : List UInt8} (h : isDs l = true) : l.all isD = true := by
 unfold isDs at h; simp only [Bool.and_eq_true] at h; exact h.1
theorem isI_zero {l : List UInt8} (h : isI l = true) : l = [48] ↔ dval l = 0 := by
 constructor
 ·rintro rfl; rfl
 ·intro h0
  have ha := isI_all h
  cases l with
  | nil => exact absurd h (by decide)
  | cons c l =>
   rw [List.all_cons, Bool.and_eq_true] at ha
   rw [dval_cons] at h0
   have h1 : c.toNat - 48 = 0 := by
    rcases Nat.eq_zero_or_pos (c.toNat - 48) with h2 | h2
    ·exact h2
    ·have := Nat.mul_pos h2 (Nat.pow_pos (n := l.length) (show 0 < 10 by omega)); omega
   have h2 : c = 48 := by
    have := ha.1; unfold isD at this; simp only [Bool.and_eq_true, decide_eq_true_eq] at this
    exact UInt8.toNat_inj.1 (by have : (48 : UInt8).toNat = 48 := rfl; omega)
   subst h2
   unfold isI at h
   simp only [Bool.and_eq_true] at h
   have h3 := h.2
   simp at h3
   rw [h3]
theorem ten_pow_lt {l : List UInt8} (h : l.all isD = true) : dval l < 256 ^ l.length :=
 Nat.lt_of_lt_of_le (dval_lt h) (Nat.pow_le_pow_left (by omega) _)
theorem lmB' {n m : Nat} (h : n < 256 ^ m) : (lm n).length ≤ m := lm_len (Nat.lt_of_lt_of_le h (Nat.pow_le_pow_left (by omega) m))
theorem add_lt_pow {a b m n : Nat} (ha : a < 256 ^ m) (hb : b < 256 ^ n) : a + b < 256 ^ (m + n + 1) := by
 have h1 : 256 ^ m ≤ 256 ^ (m + n) := Nat.pow_le_pow_right (by omega) (by omega)
 have h2 : 256 ^ n ≤ 256 ^ (m + n) := Nat.pow_le_pow_right (by omega) (by omega)
 rw [Nat.pow_succ]
 generalize 256 ^ (m + n) = P at h1 h2 ⊢
 generalize 256 ^ m = A at ha h1
 generalize 256 ^ n = B at hb h2
 omega
theorem mul_lt_pow' {a b m n : Nat} (ha : a < 256 ^ m) (hb : b < 256 ^ n) : a * b < 256 ^ (m + n) := by
 rw [Nat.pow_add]; exact Nat.mul_lt_mul_of_lt_of_le ha (Nat.le_of_lt hb) (Nat.pow_pos (by omega))
theorem parse_dec (neg : Bool) (w f : List UInt8) (hs : f.length ≤ 9223372036854775806) : Ev (fun k => rational_Parse.j0 k neg (mkS w) (mkS f) (!(isI w && isDs f)))
  (pr (if (isI w && isDs f) = true then (if w.length > 2000 ∨ f.length > 2000 then (0, 2) else (mkRat (si neg (dval w * 10 ^ f.length + dval f)) (10 ^ f.length), 0)) else (0, 3))) := by
 cases h : (isI w && isDs f) with
 | false =>
  refine Ev.step (f := fun _ => some (false, (⟨#[]⟩ : ByteArray), (⟨#[]⟩ : ByteArray), 3)) (fun k => ?_) ?_
  ·simp only [rational_Parse.j0]; rfl
  ·rw [if_neg (by decide), pr_err]; exact Ev.now _
 | true =>
  rw [if_pos rfl]
  rw [Bool.and_eq_true] at h
  have hw := isI_all h.1
  have hf := isDs_all h.2
  by_cases h1 : w.length > 2000 ∨ f.length > 2000
  ·rw [if_pos h1, pr_err]
   refine Ev.step (f := fun k => rational_Parse.j1 k neg (mkS w) (mkS f) true) (fun k => ?_) (Ev.step (f := fun _ => some (false, (⟨#[]⟩ : ByteArray), (⟨#[]⟩ : ByteArray), 2)) (fun k => ?_) (Ev.now _))
   ·simp only [rational_Parse.j0, mkS_size]
    rw [if_neg (by decide)]
    rcases h1 with h1 | h1
    ·rw [if_pos (by omega)]
    ·rw [decide_eq_true (by omega)]; split <;> rfl
   ·simp only [rational_Parse.j1]; rfl
  ·have h2 : w.length ≤ 2000 ∧ f.length ≤ 2000 := by omega
   rw [if_neg h1]
   have t1 := tenTo_ev f.length h2.2
   have t2 := digits_ev (mkS w) (by rw [mkS_toList]; exact hw) (by rw [mkS_size]; omega)
   have t3 := digits_ev (mkS f) (by rw [mkS_toList]; exact hf) (by rw [mkS_size]; omega)
   rw [mkS_toList] at t2 t3
   have b1 := ten_pow_lt hw
   have b2 := ten_pow_lt hf
   have l1 := lim_ten (n := f.length) (by omega)
   have m1 := mul_ev (lim_by b1 (by omega)) l1
   rw [sv_by, sv_by] at m1
   have b4 := mul_lt_pow' b1 (ten_lt f.length)
   have m2 := add_ev (lim_by b4 (by omega)) (lim_by b2 (by omega))
   rw [sv_by, sv_by] at m2
   have b5 := add_lt_pow b4 b2
   have r1 := reduced_ev neg (lim_by b5 (by omega)) l1 (by rw [sv_by]; exact Nat.pos_iff_ne_zero.1 (Nat.pow_pos (by omega)))
   rw [sv_by, sv_by] at r1
   refine Ev.step (f := fun k => rational_Parse.j1 k neg (mkS w) (mkS f) false) (fun k => ?_) ?_
   ·simp only [rational_Parse.j0, mkS_size]
    rw [if_neg (by decide), if_neg (by omega), decide_eq_false (by omega)]
   ·refine Ev.step (f := fun k => (rational_tenTo.f k (f.length : Int)).bind fun t361 => ((rational_digits.f k (mkS w)).bind fun t362 => ((natural_Multiply.f k t362 t361).bind fun t363 => ((rational_digits.f k (mkS f)).bind fun t364 => ((natural_Add.f k t363 t364).bind fun t365 => ((rational_reduced.f k neg t365 t361).bind fun bt366 => (some (bt366.1, bt366.2.1, bt366.2.2, 0)))))))) (fun k => ?_) (Ev.bind t1 (Ev.bind t2 (Ev.bind m1 (Ev.bind t3 (Ev.bind m2 (Ev.bind r1 (Ev.now _)))))))
    simp only [rational_Parse.j1, mkS_size]
    rw [if_neg (by decide)]
theorem parse_quo (neg : Bool) (p q : List UInt8) (hs : q.length ≤ 9223372036854775806) : Ev (fun k => rational_Parse.j2 k neg (mkS p) (mkS q) (!(isI p && isI q)))
  (pr (if (isI p && isI q) = true then (if p.length > 2000 ∨ q.length > 2000 then (0, 2) else if q = [48] then (0, 1) else (mkRat (si neg (dval p)) (dval q), 0)) else (0, 3))) := by
 cases h : (isI p && isI q) with
 | false =>
  refine Ev.step (f := fun _ => some (false, (⟨#[]⟩ : ByteArray), (⟨#[]⟩ : ByteArray), 3)) (fun k => ?_) ?_
  ·simp only [rational_Parse.j2]; rfl
  ·rw [if_neg (by decide), pr_err]; exact Ev.now _
 | true =>
  rw [if_pos rfl]
  rw [Bool.and_eq_true] at h
  have hp := isI_all h.1
  have hq := isI_all h.2
  by_cases h1 : p.length > 2000 ∨ q.length > 2000
  ·rw [if_pos h1, pr_err]
   refine Ev.step (f := fun k => rational_Parse.j3 k neg (mkS p) (mkS q) true) (fun k => ?_) (Ev.step (f := fun _ => some (false, (⟨#[]⟩ : ByteArray), (⟨#[]⟩ : ByteArray), 2)) (fun k => ?_) (Ev.now _))
   ·simp only [rational_Parse.j2, mkS_size]
    rw [if_neg (by decide)]
    rcases h1 with h1 | h1
    ·rw [if_pos (by omega)]
    ·rw [decide_eq_true (by omega)]; split <;> rfl
   ·simp only [rational_Parse.j3]; rfl
  ·have h2 : p.length ≤ 2000 ∧ q.length ≤ 2000 := by omega
   rw [if_neg h1]
   refine Ev.step (f := fun k => rational_Parse.j3 k neg (mkS p) (mkS q) false) (fun k => ?_) ?_
   ·simp only [rational_Parse.j2, mkS_size]
    rw [if_neg (by decide), if_neg (by omega), decide_eq_false (by omega)]
   have eq : (mkS q).toList = q := by rw [Go.Lib.toList_data, mkS_toList]
   by_cases h3 : q = [48]
   ·rw [if_pos h3, pr_err]
    refine Ev.step (f := fun _ => some (false, (⟨#[]⟩ : ByteArray), (⟨#[]⟩ : ByteArray), 1)) (fun k => ?_) (Ev.now _)
    simp only [rational_Parse.j3]
    rw [if_neg (by decide), eq, if_pos h3]
   ·rw [if_neg h3]
    have t2 := digits_ev (mkS p) (by rw [mkS_toList]; exact hp) (by rw [mkS_size]; omega)
    have t3 := digits_ev (mkS q) (by rw [mkS_toList]; exact hq) (by rw [mkS_size]; omega)
    rw [mkS_toList] at t2 t3
    have r1 := reduced_ev neg (lim_by (ten_pow_lt hp) (by omega)) (lim_by (ten_pow_lt hq) (by omega)) (by rw [sv_by]; exact mt (isI_zero h.2).2 h3)
    rw [sv_by, sv_by] at r1
    refine Ev.step (f := fun k => (rational_digits.f k (mkS p)).bind fun t371 => ((rational_digits.f k (mkS q)).bind fun t372 => ((rational_reduced.f k neg t371 t372).bind fun bt373 => (some (bt373.1, bt373.2.1, bt373.2.2, 0))))) (fun k => ?_) (Ev.bind t2 (Ev.bind t3 (Ev.bind r1 (Ev.now _))))
    simp only [rational_Parse.j3]
    rw [if_neg (by decide), eq, if_neg h3]
theorem parse_body (neg : Bool) (b : ByteArray) (hs : b.size ≤ 9223372036854775806) : Ev (fun k => (strings_Cut.f k b (⟨#[46]⟩ : ByteArray)).bind fun bt353 => ((strings_Cut.f k b (⟨#[47]⟩ : ByteArray)).bind fun bt356 => (if bt353.2.2 = true then ((rational_isInteger.f k bt353.1).bind fun t359 => (if t359 = true then ((rational_isDigits.f k bt353.2.1).bind fun t360 => (rational_Parse.j0 k neg bt353.1 bt353.2.1 (!t360))) else (rational_Parse.j0 k neg bt353.1 bt353.2.1 true))) else (if bt356.2.2 = true then ((rational_isInteger.f k bt356.1).bind fun t369 => (if t369 = true then ((rational_isInteger.f k bt356.2.1).bind fun t370 => (rational_Parse.j2 k neg bt356.1 bt356.2.1 (!t370))) else (rational_Parse.j2 k neg bt356.1 bt356.2.1 true))) else ((rational_isInteger.f k b).bind fun t376 => (if t376 = true then (if (b.size : Int) > 2000 then (some (false, (⟨#[]⟩ : ByteArray), (⟨#[]⟩ : ByteArray), 2)) else ((rational_digits.f k b).bind fun t377 => ((rational_reduced.f k neg t377 (⟨#[1]⟩ : ByteArray)).bind fun bt378 => (some (bt378.1, bt378.2.1, bt378.2.2, 0))))) else (some (false, (⟨#[]⟩ : ByteArray), (⟨#[]⟩ : ByteArray), 3))))))))
  (pr (pzb neg b.data.toList)) := by
 refine Ev.bind (cut_ev b 46 hs) (Ev.bind (cut_ev b 47 hs) ?_)
 have hlen : b.data.toList.length ≤ 9223372036854775806 := by rw [← size_data]; exact hs
 unfold cutR pzb
 simp only
 have tl : ∀ c : UInt8, (b.data.toList.dropWhile (· != c)).tail.length ≤ 9223372036854775806 := fun c => by
  have h1 := dw_len (· != c) b.data.toList
  rw [List.length_tail]; omega
 have tk : ∀ c : UInt8, (b.data.toList.takeWhile (· != c)).length ≤ 9223372036854775806 := fun c => Nat.le_trans (tw_len _ _) hlen
 cases h1 : b.data.toList.any (· == 46) with
 | true =>
  simp only [if_true]
  have i1 := isInteger_ev (mkS (b.data.toList.takeWhile (· != 46))) (by rw [mkS_size]; exact tk 46)
  have i2 := isDigits_ev (mkS (b.data.toList.dropWhile (· != 46)).tail) (by rw [mkS_size]; exact tl 46)
  rw [mkS_toList] at i1 i2
  have hj := parse_dec neg (b.data.toList.takeWhile (· != 46)) (b.data.toList.dropWhile (· != 46)).tail (tl 46)
  refine Ev.bind i1 ?_
  cases hi : isI (b.data.toList.takeWhile (· != 46)) with
  | false => rw [hi] at hj; simp only [Bool.false_eq_true, if_false]; exact hj
  | true => rw [hi, Bool.true_and] at hj; simp only [if_true, Bool.true_and]; exact Ev.bind i2 hj
 | false =>
  simp only [Bool.false_eq_true, if_false]
  cases h2 : b.data.toList.any (· == 47) with
  | true =>
   simp only [if_true]
   have i1 := isInteger_ev (mkS (b.data.toList.takeWhile (· != 47))) (by rw [mkS_size]; exact tk 47)
   have i2 := isInteger_ev (mkS (b.data.toList.dropWhile (· != 47)).tail) (by rw [mkS_size]; exact tl 47)
   rw [mkS_toList] at i1 i2
   have hj := parse_quo neg (b.data.toList.takeWhile (· != 47)) (b.data.toList.dropWhile (· != 47)).tail (tl 47)
   refine Ev.bind i1 ?_
   cases hi : isI (b.data.toList.takeWhile (· != 47)) with
   | false => rw [hi] at hj; simp only [Bool.false_eq_true, if_false]; exact hj
   | true => rw [hi, Bool.true_and] at hj; simp only [if_true, Bool.true_and]; exact Ev.bind i2 hj
  | false =>
   simp only [Bool.false_eq_true, if_false]
   refine Ev.bind (isInteger_ev b hs) ?_
   cases hi : isI b.data.toList with
   | false => simp only [Bool.false_eq_true, if_false]; rw [pr_err]; exact Ev.now _
   | true =>
    simp only [if_true]
    by_cases h3 : b.data.toList.length > 2000
    ·have h4 : (b.size : Int) > 2000 := by rw [size_data]; omega
     simp only [if_pos h3, if_pos h4]
     rw [pr_err]; exact Ev.now _
    ·have h4 : ¬ (b.size : Int) > 2000 := by rw [size_data]; omega
     simp only [if_neg h3, if_neg h4]
     have t2 := digits_ev b (isI_all hi) (by rw [size_data]; omega)
     have r1 := reduced_ev neg (lim_by (ten_pow_lt (isI_all hi)) (by omega)) (lim_by (n := 1) (m := 1) (by decide) (by decide)) (by rw [sv_by]; decide)
     rw [sv_by, sv_by, by_one] at r1
     exact Ev.bind t2 (Ev.bind r1 (Ev.now _))
theorem parseR_ev (s : ByteArray) (hs : s.size ≤ 9223372036854775806) : Ev (fun k => rational_Parse.f k s) (pr (pz s.data.toList)) := by
 unfold rational_Parse.f pz
 rw [cutPrefix_f]
 simp only [Option.bind_some]
 by_cases h : s.data.toList.head? = some 45
 ·simp only [if_pos h]
  have := parse_body true (mkS s.data.toList.tail) (by rw [mkS_size, List.length_tail, ← size_data]; omega)
  rw [mkS_toList] at this
  exact this
 ·simp only [if_neg h]
  exact parse_body false s hs


theorem make_ev (n : Bool) {a b : ByteArray} (ha : Lim a) (hb : Lim b) : Ev (fun k => rational_Make.f k n a b) (if sv b = 0 then (false, nil_, nil_, false) else ((rp (mkRat (si n (sv a)) (sv b))).1, (rp (mkRat (si n (sv a)) (sv b))).2.1, (rp (mkRat (si n (sv a)) (sv b))).2.2, true)) := by
 unfold rational_Make.f
 refine Ev.bind (normalize_ev b) ?_
 by_cases h : sv b = 0
 ·simp only [if_pos (by_toList_nil.2 h), if_pos h]; exact Ev.now _
 ·simp only [if_neg (mt by_toList_nil.1 h), if_neg h]
  exact Ev.bind (reduced_ev n ha hb h) (Ev.now _)
def qr (x y : Rat) : Rat := mkRat (si (decide (x.num < 0) != decide (y.num < 0)) (x.num.natAbs * y.den)) (x.den * y.num.natAbs)
def qz (x y : Rat) : Bool × ByteArray × ByteArray × Bool := if y.num.natAbs = 0 then (false, nil_, nil_, false) else ((rp (qr x y)).1, (rp (qr x y)).2.1, (rp (qr x y)).2.2, true)
theorem sub_neg_iff (x y : Rat) : (x - y).num < 0 ↔ x < y := by
 have h : (x - y).num < 0 ↔ x - y < 0 := by rw [Rat.lt_iff]; simp
 rw [h, Rat.sub_eq_add_neg]
 have := Rat.add_lt_add_right (a := x + -y) (b := 0) (c := y)
 rw [← this, Rat.add_assoc, Rat.neg_add_cancel, Rat.add_zero, Rat.zero_add]
theorem sign_neg_iff (n : Int) : Int.sign n < 0 ↔ n < 0 := by
 rcases Int.lt_trichotomy n 0 with h | h | h
 ·rw [Int.sign_eq_neg_one_of_neg h]; omega
 ·rw [h]; decide
 ·rw [Int.sign_eq_one_of_pos h]; omega
theorem cmp_sub (x y : Rat) : Int.sign (x - y).num = cmpR x y := by
 unfold cmpR
 have h1 := sub_neg_iff x y
 have h2 := sub_neg_iff y x
 have h3 : (y - x).num = -(x - y).num := by rw [← Rat.neg_sub, Rat.neg_num]
 rw [h3] at h2
 rcases Int.lt_trichotomy (x - y).num 0 with h | h | h
 ·rw [Int.sign_eq_neg_one_of_neg h, if_pos (h1.1 h)]
 ·rw [h] at h1 h2 ⊢
  rw [if_neg (mt h1.2 (by decide)), if_neg (mt h2.2 (by decide))]; rfl
 ·rw [Int.sign_eq_one_of_pos h, if_neg (mt h1.2 (by omega)), if_pos (h2.1 (by omega))]
section
variable {a1 a2 b1 b2 : ByteArray} (a0 b0 : Bool) {m : Nat}
variable (h1 : a1.size ≤ m) (h2 : a2.size ≤ m) (k1 : b1.size ≤ m) (k2 : b2.size ≤ m) (hm1 : 1 ≤ m) (hm : 2 * m + 1 ≤ 1073741824)
include h1 h2 hm1 hm
theorem Negate_ev : Ev (fun k => rational_Negate.f k a0 a1 a2) (rp (-rc a0 a1 a2)) := by
 unfold rational_Negate.f
 refine Ev.bind (clean_ev a0 (by unfold Lim; omega) (by unfold Lim; omega)) ?_
 simp only [negate_f]
 exact Ev.bind (Ev.now _) (Ev.now _)
include k1 k2
theorem Divide_ev : Ev (fun k => rational_Divide.f k a0 a1 a2 b0 b1 b2) (qz (rc a0 a1 a2) (rc b0 b1 b2)) := by
 unfold rational_Divide.f
 refine Ev.bind (clean_ev a0 (by unfold Lim; omega) (by unfold Lim; omega)) (Ev.bind (clean_ev b0 (by unfold Lim; omega) (by unfold Lim; omega)) ?_)
 have bx := bd_rc a0 h1 h2 hm1
 have bY := bd_rc b0 k1 k2 hm1
 generalize rc a0 a1 a2 = x at bx ⊢
 generalize rc b0 b1 b2 = y at bY ⊢
 have m1 := mul_ev (lim_by bx.1 (by omega)) (lim_by bY.2 (by omega))
 have m2 := mul_ev (lim_by bx.2 (by omega)) (lim_by bY.1 (by omega))
 rw [sv_by, sv_by] at m1 m2
 have r1 := make_ev (decide (x.num < 0) != decide (y.num < 0)) (lim_by (mul_lt_pow bx.1 bY.2) (by omega)) (lim_by (mul_lt_pow bx.2 bY.1) (by omega))
 rw [sv_by, sv_by] at r1
 have e : (if x.den * y.num.natAbs = 0 then (false, nil_, nil_, false) else ((rp (qr x y)).1, (rp (qr x y)).2.1, (rp (qr x y)).2.2, true)) = qz x y := by
  unfold qz
  have := x.den_nz
  by_cases h : y.num.natAbs = 0
  ·rw [if_pos h, if_pos (by rw [h, Nat.mul_zero])]
  ·rw [if_neg h, if_neg (Nat.mul_ne_zero x.den_nz h)]
 rw [← qr, e] at r1
 simp only [rp, den_f _ _ _ x.den_nz, den_f _ _ _ y.den_nz]
 exact Ev.bind (Ev.now _) (Ev.bind m1 (Ev.bind (Ev.now _) (Ev.bind m2 (Ev.bind r1 (Ev.now _)))))
end

theorem u64_wrap (x : Int) : IntKind.u64.wrap x = x % 18446744073709551616 := by rw [IntKind.wrap_u64]
theorem magnitude_ev {n : Int} (h0 : -9223372036854775808 ≤ n) (h1 : n ≤ 9223372036854775807) : Ev (fun k => rational_magnitude.f k n) (by_ n.natAbs) := by
 unfold rational_magnitude.f
 have hu := fromUint_ev n.natAbs (by omega)
 by_cases h : n < 0
 ·have e : IntKind.u64.wrap (-(IntKind.u64.wrap n)) = (n.natAbs : Int) := by rw [u64_wrap, u64_wrap]; omega
  simp only [if_pos h, e]; exact Ev.bind hu (Ev.now _)
 ·have e : IntKind.u64.wrap n = (n.natAbs : Int) := by rw [u64_wrap]; omega
  simp only [if_neg h, e]; exact Ev.bind hu (Ev.now _)
theorem u64_lim {u : Nat} (hu : u < 18446744073709551616) : u < 256 ^ 8 := Nat.lt_of_lt_of_le hu (by decide)
def ri (n : Int) : Rat := mkRat n 1
theorem ri_si (n : Int) : mkRat (si (decide (n < 0)) n.natAbs) 1 = ri n := by
 unfold ri si; by_cases h : n < 0
 ·simp [h]; rw [show -((n.natAbs : Int)) = n by omega]
 ·simp [h]; rw [show ((n.natAbs : Int)) = n by omega]
theorem ri_num (n : Int) : (ri n).num = n := by unfold ri; rw [Rat.num_mkRat, if_neg (by decide), Nat.gcd_one_left]; simp
theorem ri_den (n : Int) : (ri n).den = 1 := by unfold ri; rw [Rat.den_mkRat, if_neg (by decide), Nat.gcd_one_left]
theorem bd_ri {n : Int} (h0 : -9223372036854775808 ≤ n) (h1 : n ≤ 9223372036854775807) : Bd (ri n) 8 := by
 unfold Bd; rw [ri_num, ri_den]; exact ⟨u64_lim (by omega), by decide⟩
theorem int_ev {n : Int} (h0 : -9223372036854775808 ≤ n) (h1 : n ≤ 9223372036854775807) : Ev (fun k => rational_Int.f k n) (rp (ri n)) := by
 unfold rational_Int.f
 have r := reduced_ev (decide (n < 0)) (lim_by (n := n.natAbs) (m := 8) (u64_lim (by omega)) (by omega)) (lim_by (n := 1) (m := 1) (by decide) (by decide)) (by rw [sv_by]; decide)
 rw [sv_by, sv_by, by_one, ri_si] at r
 exact Ev.bind (magnitude_ev h0 h1) (some3 r)
theorem tw_at {c : UInt8} : ∀ {p q : List UInt8}, (∀ x ∈ p, x ≠ c) → (p ++ c :: q).takeWhile (· != c) = p ∧ (p ++ c :: q).dropWhile (· != c) = c :: q ∧ (p ++ c :: q).any (· == c) = true := by
 intro p q
 induction p with
 | nil => intro _; simp
 | cons x p ih =>
  intro h
  obtain ⟨h1, h2, h3⟩ := ih fun y hy => h y (List.mem_cons_of_mem _ hy)
  have hx : (x != c) = true := bne_iff_ne.2 (h x List.mem_cons_self)
  rw [List.cons_append, List.takeWhile_cons, if_pos hx, List.dropWhile_cons, if_pos hx, List.any_cons, h1, h2, h3, Bool.or_true]
  exact ⟨rfl, rfl, rfl⟩
theorem no_any {c : UInt8} {l : List UInt8} (h : ∀ x ∈ l, x ≠ c) : l.any (· == c) = false := by
 rw [List.any_eq_false]; intro x hx; simpa using h x hx
theorem ext_getD {l m : List Int} (h : l.length = m.length) (hg : ∀ p, p < l.length → l.getD p 0 = m.getD p 0) : l = m := by
 apply List.ext_getElem h
 intro i h1 h2
 have := hg i h1
 simpa [List.getD_eq_getElem?_getD, h1, h2] using this
theorem rev_getD (L : List Int) {p : Nat} (hp : p < L.length) : L.reverse.getD p 0 = L.getD (L.length - 1 - p) 0 := by
 simp [List.getD_eq_getElem?_getD, List.getElem?_reverse hp]
structure Rv (L cur : List Int) (i : Nat) : Prop where
 len : cur.length = L.length
 at_ : ∀ p, p < L.length → cur.getD p 0 = if p < i ∨ L.length - i ≤ p then L.getD (L.length - 1 - p) 0 else L.getD p 0
theorem rv_zero (L : List Int) : Rv L L 0 := ⟨rfl, fun p hp => by rw [if_neg (by omega)]⟩
theorem rv_step {L cur : List Int} {i j : Nat} (h : Rv L cur i) (hij : i < j) (hj : j + i + 1 = L.length) : Rv L ((cur.set i (cur.getD j 0)).set j (cur.getD i 0)) (i + 1) := by
 refine ⟨by simp [h.len], fun p hp => ?_⟩
 have hl := h.len
 rw [getD_set _ _ _ _ (by rw [List.length_set]; omega), getD_set _ _ _ _ (by omega)]
 have hi := h.at_ i (by omega)
 have hjj := h.at_ j (by omega)
 rw [if_neg (by omega)] at hi hjj
 by_cases h1 : j = p
 ·subst h1; rw [if_pos rfl, hi, if_pos (by omega)]; congr 1; omega
 ·rw [if_neg h1]
  by_cases h2 : i = p
  ·subst h2; rw [if_pos rfl, hjj, if_pos (by omega)]; congr 1; omega
  ·rw [if_neg h2, h.at_ p hp]
   by_cases h3 : p < i ∨ L.length - i ≤ p
   ·rw [if_pos h3, if_pos (by omega)]
   ·rw [if_neg h3, if_neg (by omega)]
theorem rv_end {L cur : List Int} {i : Nat} (h : Rv L cur i) (hi : L.length ≤ 2 * i + 1) (hi' : 2 * i ≤ L.length) : cur = L.reverse := by
 refine ext_getD (by rw [List.length_reverse]; exact h.len) fun p hp => ?_
 have hl := h.len
 rw [h.at_ p (by omega), rev_getD _ (by omega)]
 split
 ·rfl
 ·congr 1; omega
theorem reverse_l0 (L : List Int) (hL : L.length ≤ 140737488355328) : ∀ (d i : Nat) (cur : List Int), L.length = 2 * i + d → Rv L cur i → Ev (fun k => slices_Reverse_byte_byte.l0 k cur (i : Int) ((L.length : Int) - 1 - (i : Int))) L.reverse := by
 intro d
 induction d using Nat.strongRecOn with
 | _ d ih =>
  intro i cur hd h
  have hl := h.len
  by_cases h2 : d ≤ 1
  ·rw [← rv_end h (by omega) (by omega)]
   refine Ev.step (f := fun _ => some cur) (fun k => ?_) (Ev.now _)
   simp only [slices_Reverse_byte_byte.l0]; rw [if_neg (by omega)]
  ·obtain ⟨j, hj⟩ : ∃ j, j + i + 1 = L.length := ⟨L.length - 1 - i, by omega⟩
   have e : (L.length : Int) - 1 - (i : Int) = (j : Int) := by omega
   rw [e]
   have hn := ih (d - 2) (by omega) (i + 1) _ (by omega) (rv_step h (by omega) hj)
   have e2 : (L.length : Int) - 1 - ((i + 1 : Nat) : Int) = wrap64 ((j : Int) - 1) := by rw [w64 (by omega) (by omega)]; omega
   rw [e2] at hn
   refine Ev.step (fun k => ?_) hn
   simp only [slices_Reverse_byte_byte.l0]
   rw [if_pos (by omega), if_pos (Int.natCast_nonneg j), if_pos (by omega), if_pos (Int.natCast_nonneg i), if_pos (by omega), rd_getD, rd_getD, Int.toNat_natCast, Int.toNat_natCast, show wrap64 ((i : Int) + 1) = ((i + 1 : Nat) : Int) by rw [w64 (by omega) (by omega)]; omega]
theorem reverse_ev (L : List Int) (hL : L.length ≤ 140737488355328) : Ev (fun k => slices_Reverse_byte_byte.f k L) L.reverse := by
 have := reverse_l0 L hL L.length 0 L (by omega) (rv_zero L)
 refine Ev.congr (fun k => ?_) this
 unfold slices_Reverse_byte_byte.f
 rw [w64 (by omega) (by omega)]; congr 1; omega

def dB (d : Int) : UInt8 := UInt8.ofNat (48 + d).toNat
def dc (n : Nat) : List UInt8 := if n = 0 then [48] else (dg 10 n).reverse.map dB
abbrev dI (m : List Int) : List Int := m.map fun d => 48 + d
theorem strOf_dI (m : List Int) : strOfNums (dI m) = mkS (m.map dB) := by
 unfold strOfNums mkS dI dB
 simp [List.map_map, Function.comp_def]
theorem dB_toNat {d : Int} (h0 : 0 ≤ d) (h1 : d < 10) : (dB d).toNat = (48 + d).toNat := by
 unfold dB; rw [UInt8.toNat_ofNat']; omega
theorem dB_isD {d : Int} (h0 : 0 ≤ d) (h1 : d < 10) : isD (dB d) = true := by
 unfold isD; rw [dB_toNat h0 h1]; simp; omega
theorem dB_48 {d : Int} (h0 : 0 ≤ d) (h1 : d < 10) : dB d = 48 ↔ d = 0 := by
 constructor
 ·intro h
  have := dB_toNat h0 h1
  rw [h] at this
  have : (48 : UInt8).toNat = 48 := rfl
  omega
 ·rintro rfl; rfl
theorem dval_rev {m : List Int} (h : Ok 10 m) : ((dval (m.reverse.map dB) : Nat) : Int) = ev 10 m := by
 induction m with
 | nil => rfl
 | cons d m ih =>
  obtain ⟨⟨h0, h1⟩, h2⟩ := ok_cons.1 h
  rw [List.reverse_cons, List.map_append, dval_append]
  have e : dval ([d].map dB) = (48 + d).toNat - 48 := by
   simp only [List.map_cons, List.map_nil, dval, dva]; rw [dB_toNat h0 h1]; omega
  rw [e]
  have := ih h2
  simp only [ev, List.map_cons, List.map_nil, List.length_singleton, Nat.pow_one]
  omega
theorem dg10_ev (n : Nat) : ev 10 (dg 10 n) = n := dg_ev (b := 10) (by omega) n
theorem dval_dc (n : Nat) : dval (dc n) = n := by
 unfold dc
 split
 ·subst n; rfl
 ·have := dval_rev (dg_ok (b := 10) (by omega) n)
  rw [dg10_ev] at this
  exact Int.ofNat_inj.1 this
theorem dc_all (n : Nat) : (dc n).all isD = true := by
 unfold dc
 split
 ·rfl
 ·refine List.all_eq_true.2 fun x hx => ?_
  obtain ⟨d, hd, rfl⟩ := List.mem_map.1 hx
  have := dg_ok (b := 10) (by omega) n d (List.mem_reverse.1 hd)
  exact dB_isD this.1 this.2
theorem dc_ne (n : Nat) : dc n ≠ [] := by
 unfold dc
 split
 ·simp
 ·rename_i h
  intro h'
  have : dg 10 n = [] := by simpa using h'
  exact h ((dg_nil (by omega)).1 this)
theorem dc_head {n : Nat} (h : n ≠ 0) : (dc n).head? ≠ some 48 := by
 unfold dc
 rw [if_neg h, List.head?_map, List.head?_reverse]
 intro h'
 obtain ⟨d, hd, he⟩ := Option.map_eq_some_iff.1 h'
 have hok := dg_ok (b := 10) (by omega) n d (List.mem_of_getLast? hd)
 have : d = 0 := (dB_48 hok.1 hok.2).1 he
 exact dg_tr (b := 10) (by omega) n (by rw [hd, this])
theorem dc_isI (n : Nat) : isI (dc n) = true := by
 unfold isI isDs
 rw [dc_all]
 by_cases h : n = 0
 ·subst h; rfl
 ·have h1 := dc_head h
  have h2 := dc_ne n
  simp [h1, h2]
theorem dc_len {n m : Nat} (h : n < 256 ^ m) : (dc n).length ≤ 3 * m + 1 := by
 unfold dc
 split
 ·simp
 ·rw [List.length_map, List.length_reverse]
  have h1 : 256 ^ m ≤ 10 ^ (3 * m) := by rw [Nat.pow_mul]; exact Nat.pow_le_pow_left (by omega) m
  have := dg_len_le (b := 10) (by omega) (Nat.lt_of_lt_of_le h h1)
  omega
theorem drop10 : ∀ {L : List Int} {n : Nat}, Ok 10 L → ev 10 L.reverse = n → n ≠ 0 → (L.map dB).dropWhile (· == 48) = (dg 10 n).reverse.map dB := by
 intro L
 induction L with
 | nil => intro n _ h hn; simp [ev] at h; omega
 | cons d L ih =>
  intro n hok h hn
  obtain ⟨⟨h0, h1⟩, h2⟩ := ok_cons.1 hok
  rw [List.map_cons, List.dropWhile_cons]
  by_cases hd : d = 0
  ·have e : (dB d == 48) = true := beq_iff_eq.2 ((dB_48 h0 h1).2 hd)
   rw [if_pos e]
   refine ih h2 ?_ hn
   rw [List.reverse_cons, ev_append, hd] at h
   simpa [ev] using h
  ·have e : ¬ (dB d == 48) = true := by rw [beq_iff_eq, dB_48 h0 h1]; exact hd
   rw [if_neg e, ← List.map_cons (f := dB)]
   congr 1
   have hm : (d :: L).reverse = dg 10 n := by
    refine dg_eq (b := 10) (by omega) (ok_reverse hok) ?_ h
    unfold Tr
    rw [List.getLast?_reverse, List.head?_cons]
    simpa using hd
   rw [← hm, List.reverse_reverse]

theorem ok10_append {m : List Int} {d : Int} (h : Ok 10 m) (h0 : 0 ≤ d) (h1 : d < 10) : Ok 10 (m ++ [d]) := ok_append.2 ⟨h, ok_cons.2 ⟨⟨h0, h1⟩, ok_nil _⟩⟩
theorem fmt_l1 {T : Int} (v : Nat) (R : ByteArray) (N : Nat) (hN : N ≤ 140737488355000) (cont : ∀ m : List Int, Ok 10 m → m.length ≤ N + 9 → EqI (ev 10 m + 10 ^ m.length * v) T → Ev (fun k => natural_Format.l0 k (lm v) (dI m)) R) :
  ∀ (d j : Nat) (m : List Int) (r : Nat), j + d = 9 → Ok 10 m → m.length ≤ N + j → r < 10 ^ d → EqI (ev 10 m + 10 ^ m.length * (r + 10 ^ d * v)) T → Ev (fun k => natural_Format.l1 k (lm v) (dI m) (r : Int) (j : Int)) R := by
 intro d
 induction d with
 | zero =>
  intro j m r hj hok hl hr he
  obtain rfl : j = 9 := by omega
  have hr0 : r = 0 := by simpa using hr
  subst hr0
  refine Ev.step (fun k => ?_) (cont m hok hl ⟨by have := he.out; simpa using this⟩)
  simp only [natural_Format.l1]; rw [if_neg (by decide)]
 | succ d ih =>
  intro j m r hj hok hl hr he
  have a1 : j + 1 + d = 9 := by clear hr he; omega
  have a2 : (j : Int) < 9 := by clear hr he; omega
  have a3 : m.length < 140737488355328 := by clear hr he; omega
  have e3 : wrap64 ((j : Int) + 1) = ((j + 1 : Nat) : Int) := by clear hr he; rw [w64 (by omega) (by omega)]; omega
  have a4 : (m ++ [((r % 10 : Nat) : Int)]).length ≤ N + (j + 1) := by rw [List.length_append, List.length_singleton]; exact Nat.add_le_add_right hl 1
  have hd : 10 ^ (d + 1) ≤ 10 ^ 9 := Nat.pow_le_pow_right (by decide) (by clear hr he; omega)
  have hr9 : r < 1000000000 := Nat.lt_of_lt_of_le hr hd
  have hr1 : r / 10 < 10 ^ d := Nat.div_lt_of_lt_mul (by rw [Nat.mul_comm, ← Nat.pow_succ]; exact hr)
  have h1 := he.out
  clear hr hd he
  have e1 : (48 + Int.tmod (r : Int) 10) % 256 = 48 + ((r % 10 : Nat) : Int) := by rw [Int.tmod_eq_emod_of_nonneg (Int.natCast_nonneg r)]; clear h1 hr1; omega
  have e2 : (Int.tdiv (r : Int) 10) % 4294967296 = ((r / 10 : Nat) : Int) := by rw [Int.tdiv_eq_ediv_of_nonneg (Int.natCast_nonneg r)]; clear h1 hr1; omega
  have h2 : (r : Int) = ((r % 10 : Nat) : Int) + 10 * ((r / 10 : Nat) : Int) := by clear h1 hr1; omega
  have hn := ih (j + 1) (m ++ [((r % 10 : Nat) : Int)]) (r / 10) a1 (ok10_append hok (Int.natCast_nonneg _) (Int.ofNat_lt.2 (Nat.mod_lt r (by decide)))) a4 hr1 ⟨?_⟩
  ·refine Ev.step (fun k => ?_) hn
   simp only [natural_Format.l1]
   rw [if_pos a2, if_pos (by rw [List.length_map]; exact a3), e1, e2, e3]
   simp only [dI, List.map_append, List.map_cons, List.map_nil]
  ·rw [ev_append, List.length_append, List.length_singleton, Int.pow_succ]
   simp only [ev, Int.mul_zero, Int.add_zero]
   rw [← h1, Int.pow_succ]
   generalize ((r % 10 : Nat) : Int) = a at *
   generalize ((r / 10 : Nat) : Int) = b at *
   rw [h2]
   grind
theorem fmt_l0 (n : Nat) (hn : n ≠ 0) : ∀ (v : Nat) (m : List Int), (lm v).length ≤ 1000000000 → Ok 10 m → m.length + 9 * (dg 1000000000 v).length ≤ 140737488350000 → EqI (ev 10 m + 10 ^ m.length * v) n → Ev (fun k => natural_Format.l0 k (lm v) (dI m)) (mkS (dc n)) := by
 intro v
 induction v using Nat.strongRecOn with
 | _ v ih =>
  intro m hl hok hlen he
  by_cases hv : v = 0
  ·subst hv
   have he' := he.out
   rw [Int.natCast_zero, Int.mul_zero, Int.add_zero] at he'
   have hr := reverse_ev (dI m) (by rw [List.length_map]; omega)
   rw [← List.map_reverse] at hr
   have ht := trimLeft_ev (strOfNums (dI m.reverse)) 48 (by decide)
   rw [strOf_dI, mkS_toList, drop10 (ok_reverse hok) (by rw [List.reverse_reverse]; exact he') hn] at ht
   rw [show dc n = (dg 10 n).reverse.map dB by unfold dc; rw [if_neg hn]]
   refine Ev.step (f := fun k => (slices_Reverse_byte_byte.f k (dI m)).bind fun t376 => ((strings_TrimLeft.f k (strOfNums t376) (⟨#[48]⟩ : ByteArray)).bind fun t377 => (some t377))) (fun k => ?_) (Ev.bind hr (Ev.bind ?_ (Ev.now _)))
   ·simp only [natural_Format.l0]; rw [lm_zero, if_neg (by decide)]
   ·rw [strOf_dI]; exact ht
  ·have hlv := mt (lm_nil_iff v).1 hv
   have hd := divideSmall_ev v (by omega) (d := 1000000000) (by decide) (by decide)
   rw [show (1000000000 : Int).toNat = 1000000000 from rfl] at hd
   have hlt : v / 1000000000 < v := Nat.div_lt_self (Nat.pos_of_ne_zero hv) (by decide)
   have hll : (lm (v / 1000000000)).length ≤ (lm v).length := lm_len_le (Nat.le_of_lt hlt)
   have main := fmt_l1 (T := (n : Int)) (v / 1000000000) (mkS (dc n)) m.length (by omega) (fun m' ho' hl' he' => ih (v / 1000000000) hlt m' (Nat.le_trans hll hl) ho' ?_ he') 9 0 m (v % 1000000000) rfl hok (Nat.le_refl _) (Nat.mod_lt _ (by decide)) ⟨?_⟩
   ·refine Ev.step (f := fun k => (natural_divideSmall.f k (lm v) 1000000000).bind fun bt378 => (natural_Format.l1 k bt378.1 (dI m) bt378.2 0)) (fun k => ?_) (Ev.bind hd main)
    simp only [natural_Format.l0]; rw [if_pos (by omega)]
   ·rw [dg_pos (b := 1000000000) (by decide) hv, List.length_cons] at hlen
    clear he he' hd ih
    omega
   ·rw [← he.out]
    have h1 : (v : Int) = ((v % 1000000000 : Nat) : Int) + 10 ^ 9 * ((v / 1000000000 : Nat) : Int) := by
     have := Nat.mod_add_div v 1000000000
     have e9 : ((10 : Int) ^ 9) = 1000000000 := by decide
     rw [e9]; clear he hd ih; omega
    rw [← h1]
theorem natFormat_ev (s : ByteArray) (hs : s.size ≤ 1000000) : Ev (fun k => natural_Format.f k s) (mkS (dc (sv s))) := by
 unfold natural_Format.f
 refine Ev.bind (parse_ev s (by omega)) ?_
 by_cases h : sv s = 0
 ·have h1 := (lm_nil_iff (sv s)).2 h
  simp only [if_pos (show ((lm (sv s)).length : Int) = 0 by omega)]
  rw [h]; exact Ev.now _
 ·have h1 := mt (lm_nil_iff (sv s)).1 h
  simp only [if_neg (show ¬ ((lm (sv s)).length : Int) = 0 by omega)]
  have hl : (lm (sv s)).length ≤ 1000000 := Nat.le_trans (lmB' (sv_lt s)) hs
  have hg : (dg 1000000000 (sv s)).length ≤ s.size := dg_len_le (by decide) (Nat.lt_of_lt_of_le (sv_lt s) (Nat.pow_le_pow_left (by decide) _))
  exact fmt_l0 (sv s) h (sv s) [] (by omega) (ok_nil _) (by rw [List.length_nil]; omega) ⟨by simp [ev]⟩
theorem mkS_append (a b : List UInt8) : mkS a ++ mkS b = mkS (a ++ b) := by
 apply ByteArray.ext; simp [mkS]
theorem single_mkS (c : UInt8) : (⟨#[c]⟩ : ByteArray) = mkS [c] := rfl
theorem bd_len {n m : Nat} (h : n < 256 ^ m) (hm : m ≤ 1000000) : (by_ n).size ≤ 1000000 := Nat.le_trans (by_size_le h) hm
theorem isD_ne {c d : UInt8} (h : isD c = true) (hd : isD d = false) : c ≠ d := by rintro rfl; rw [h] at hd; cases hd
theorem digits_no {l : List UInt8} (h : l.all isD = true) {c : UInt8} (hc : isD c = false) : ∀ x ∈ l, x ≠ c := fun x hx => isD_ne (List.all_eq_true.1 h x hx) hc
def pad (P : Nat) (s : List UInt8) : List UInt8 := List.replicate (P + 1 - s.length) 48 ++ s
def dot (P : Nat) (s : List UInt8) : List UInt8 := if P = 0 then s else s.take (s.length - P) ++ 46 :: s.drop (s.length - P)
def dq (x : Rat) (P : Nat) : Nat := x.num.natAbs * 10 ^ P / x.den
def dec (x : Rat) (P : Nat) : List UInt8 := (if x.num < 0 ∧ dq x P ≠ 0 then [45] else []) ++ dot P (pad P (dc (dq x P)))
theorem pad_len (P : Nat) (s : List UInt8) : P < (pad P s).length := by unfold pad; rw [List.length_append, List.length_replicate]; omega
theorem pad_long {P : Nat} {s : List UInt8} (h : P < s.length) : pad P s = s := by unfold pad; rw [show P + 1 - s.length = 0 by omega]; rfl
theorem pad_le {P : Nat} (s : List UInt8) : (pad P s).length ≤ P + 1 + s.length := by unfold pad; rw [List.length_append, List.length_replicate]; omega
theorem dot_len {P : Nat} {s : List UInt8} : (dot P s).length ≤ s.length + 1 := by
 unfold dot
 split
 ·omega
 ·rw [List.length_append, List.length_take, List.length_cons, List.length_drop]; omega
theorem repeat_one (c : UInt8) : ∀ n, Lib.repeatL [c] n = List.replicate n c := by
 intro n
 induction n with
 | zero => rfl
 | succ n ih => simp only [Lib.repeatL, ih, List.replicate_succ]; rfl
theorem repeat_f {n : Nat} (h : n ≤ 1000) : strings_Repeat.f (⟨#[48]⟩ : ByteArray) (n : Int) = some (mkS (List.replicate n 48)) := by
 unfold strings_Repeat.f
 rw [if_pos ⟨Int.natCast_nonneg n, by omega, by rw [Int.toNat_natCast, show (⟨#[48]⟩ : ByteArray).size = 1 from rfl]; omega⟩, Int.toNat_natCast, ← repeat_one]; rfl
theorem dec_j0 (P q : Nat) (hP : P ≤ 20) (s : List UInt8) (hs : P < s.length) (hl : s.length ≤ 1000000) (n : Bool) (a b : ByteArray) :
  Ev (fun k => rational_Decimal.j0 k (P : Int) (by_ q) (mkS s) n a b) (mkS ((if n = true ∧ q ≠ 0 then [45] else []) ++ dot P s)) := by
 have hd : (dot P s).length ≤ s.length + 1 := dot_len
 have hq : (by_ q).toList = [] ↔ q = 0 := by_toList_nil
 have sg : ∀ t : List UInt8, t.length ≤ 1000001 → (if n = true then (if (by_ q).toList = ([] : List UInt8) then (some (mkS t)) else (if 1 + (mkS t).size ≤ 9223372036854775807 then (some ((⟨#[45]⟩ : ByteArray) ++ (mkS t))) else (none))) else (some (mkS t))) = some (mkS ((if n = true ∧ q ≠ 0 then [45] else []) ++ t)) := by
  intro t ht
  by_cases h1 : n = true
  ·by_cases h2 : q = 0
   ·rw [if_pos h1, if_pos (hq.2 h2), if_neg (by rintro ⟨_, h⟩; exact h h2), List.nil_append]
   ·rw [if_pos h1, if_neg (mt hq.1 h2), if_pos (by rw [mkS_size]; omega), if_pos ⟨h1, h2⟩, single_mkS, mkS_append]
  ·rw [if_neg h1, if_neg (by rintro ⟨h, _⟩; exact h1 h), List.nil_append]
 refine Ev.step (f := fun _ => some (mkS ((if n = true ∧ q ≠ 0 then [45] else []) ++ dot P s))) (fun k => ?_) (Ev.now _)
 simp only [rational_Decimal.j0]
 by_cases hp : P = 0
 ·have e : dot P s = s := by unfold dot; rw [if_pos hp]
  rw [if_neg (by omega), sg s (by omega), e]
 ·have w : wrap64 (((mkS s).size : Int) - (P : Int)) = ((s.length - P : Nat) : Int) := by rw [mkS_size, w64 (by omega) (by omega)]; omega
  have e1 : (mkS s).extract 0 (s.length - P) = mkS (s.take (s.length - P)) := by rw [extract_take, mkS_toList]
  have e2 : (mkS s).extract (s.length - P) (mkS s).size = mkS (s.drop (s.length - P)) := by rw [extract_drop, mkS_toList]
  have e3 : dot P s = s.take (s.length - P) ++ 46 :: s.drop (s.length - P) := by unfold dot; rw [if_neg hp]
  have e4 : (mkS (s.take (s.length - P)) ++ (⟨#[46]⟩ : ByteArray)) ++ mkS (s.drop (s.length - P)) = mkS (dot P s) := by rw [single_mkS, mkS_append, mkS_append, e3, List.append_assoc]; rfl
  rw [if_pos (by omega), w, if_pos (Int.natCast_nonneg _), if_pos (by rw [mkS_size]; omega), Int.toNat_natCast, e1, e2, if_pos (by rw [mkS_size, List.length_take]; omega), if_pos (by rw [single_mkS, mkS_append, mkS_size, mkS_size, List.length_append, List.length_take, List.length_drop, List.length_singleton]; omega), e4]
  exact sg _ (by omega)
section
variable {a1 a2 : ByteArray} (a0 : Bool) {m : Nat} (h1 : a1.size ≤ m) (h2 : a2.size ≤ m) (hm1 : 1 ≤ m) (hm : m ≤ 1000) {a : Int} {P : Nat} (hP : P ≤ 20)
include h1 h2 hm1 hm hP
theorem dq_lt : dq (rc a0 a1 a2) P < 256 ^ (m + 21) := by
 have hb := bd_rc a0 h1 h2 hm1
 unfold dq
 refine Nat.lt_of_le_of_lt (Nat.div_le_self _ _) (Nat.lt_of_lt_of_le (mul_lt_pow' hb.1 (ten_lt P)) (Nat.pow_le_pow_right (by omega) (by omega)))
theorem Decimal_ev (ha : mn (mx a 0) 20 = (P : Int)) : Ev (fun k => rational_Decimal.f k a0 a1 a2 a) (mkS (dec (rc a0 a1 a2) P)) := by
 have hqb := dq_lt a0 h1 h2 hm1 hm hP
 unfold rational_Decimal.f
 rw [ha]
 refine Ev.bind (clean_ev a0 (by unfold Lim; omega) (by unfold Lim; omega)) ?_
 have hb := bd_rc a0 h1 h2 hm1
 generalize rc a0 a1 a2 = x at hb hqb ⊢
 have m1 := mul_ev (lim_by hb.1 (by omega)) (lim_ten (n := P) (by omega))
 rw [sv_by, sv_by] at m1
 have d1 := quo_ev (lim_by (mul_lt_pow' hb.1 (ten_lt P)) (by omega)) (lim_by hb.2 (by omega))
 rw [sv_by, sv_by, if_neg x.den_nz] at d1
 have hl := dc_len hqb
 have f1 := natFormat_ev (by_ (dq x P)) (bd_len hqb (by omega))
 rw [sv_by] at f1
 have j := fun s hs hl' => dec_j0 P (dq x P) hP s hs hl' (decide (x.num < 0)) (by_ x.num.natAbs) (dn x.den)
 have e : ∀ s, (if decide (x.num < 0) = true ∧ dq x P ≠ 0 then [45] else []) ++ dot P s = (if x.num < 0 ∧ dq x P ≠ 0 then [45] else []) ++ dot P s := fun s => by simp only [decide_eq_true_eq]
 simp only [e] at j
 simp only [rp, den_f _ _ _ x.den_nz]
 refine Ev.bind (tenTo_ev P (by omega)) (Ev.bind m1 (Ev.bind (Ev.now _) (Ev.bind d1 (Ev.bind f1 ?_))))
 simp only [mkS_size]
 by_cases hs : (dc (dq x P)).length ≤ P
 ·have w : wrap64 (((P : Int) + 1) - ((dc (dq x P)).length : Int)) = ((P + 1 - (dc (dq x P)).length : Nat) : Int) := by rw [w64 (by omega) (by omega)]; omega
  simp only [if_pos (show ((dc (dq x P)).length : Int) ≤ (P : Int) by omega), w, repeat_f (n := P + 1 - (dc (dq x P)).length) (by omega)]
  refine Ev.bind (Ev.now _) ?_
  have hpl := pad_le (P := P) (dc (dq x P))
  have hj := j (pad P (dc (dq x P))) (pad_len P _) (by omega)
  simp only [mkS_size, List.length_replicate, mkS_append, if_pos (show P + 1 - (dc (dq x P)).length + (dc (dq x P)).length ≤ 9223372036854775807 by omega)]
  exact hj
 ·simp only [if_neg (show ¬ ((dc (dq x P)).length : Int) ≤ (P : Int) by omega)]
  have hj := j (dc (dq x P)) (by omega) (by omega)
  rw [show dec x P = _ from rfl]
  unfold dec
  rw [pad_long (by omega)]
  exact hj
end
theorem size_rp' {x : Rat} {m : Nat} (h : Bd x m) : (rp x).2.1.size ≤ m ∧ (rp x).2.2.size ≤ m := by
 unfold rp
 refine ⟨by_size_le h.1, ?_⟩
 unfold dn; split
 ·show (0 : Nat) ≤ _; omega
 ·exact by_size_le h.2
section
variable {x y : Rat} {m : Nat} (hx : Bd x m) (hy : Bd y m) (hm1 : 1 ≤ m) (hm : 2 * m + 1 ≤ 1073741824)
include hx hm1 hm
theorem Sign_rp : Ev (fun k => rational_Sign.f k (rp x).1 (rp x).2.1 (rp x).2.2) (Int.sign x.num) := by
 have := Sign_ev (rp x).1 (size_rp' hx).1 (size_rp' hx).2 hm1 hm
 rwa [rc_rp] at this
theorem Negate_rp : Ev (fun k => rational_Negate.f k (rp x).1 (rp x).2.1 (rp x).2.2) (rp (-x)) := by
 have := Negate_ev (rp x).1 (size_rp' hx).1 (size_rp' hx).2 hm1 hm
 rwa [rc_rp] at this
include hy
theorem Compare_rp : Ev (fun k => rational_Compare.f k (rp x).1 (rp x).2.1 (rp x).2.2 (rp y).1 (rp y).2.1 (rp y).2.2) (cmpR x y) := by
 have := Compare_ev (rp x).1 (rp y).1 (size_rp' hx).1 (size_rp' hx).2 (size_rp' hy).1 (size_rp' hy).2 hm1 hm
 rwa [rc_rp, rc_rp] at this
theorem Divide_rp : Ev (fun k => rational_Divide.f k (rp x).1 (rp x).2.1 (rp x).2.2 (rp y).1 (rp y).2.1 (rp y).2.2) (qz x y) := by
 have := Divide_ev (rp x).1 (rp y).1 (size_rp' hx).1 (size_rp' hx).2 (size_rp' hy).1 (size_rp' hy).2 hm1 hm
 rwa [rc_rp, rc_rp] at this
end
theorem bd_up {x : Rat} {m n : Nat} (h : Bd x m) (hm : m ≤ n) : Bd x n := bd_mono h hm
theorem bd_sub {x y : Rat} {m : Nat} (hx : Bd x m) (hy : Bd y m) : Bd (x - y) (2 * m + 1) := by
 rw [Rat.sub_eq_add_neg]; exact bd_add hx (bd_neg hy)
theorem sub_lt_iff (x y z : Rat) : x - y < z ↔ x < z + y := by
 have := Rat.add_lt_add_right (a := x - y) (b := z) (c := y)
 rw [← this, Rat.sub_add_cancel]
theorem cmp_ge {x y : Rat} : cmpR x y ≥ 0 ↔ ¬ x < y := by
 unfold cmpR
 by_cases h : x < y
 ·simp [h]
 ·rw [if_neg h]; split <;> simp [*]
theorem cmp_lt {x y : Rat} : cmpR x y < 0 ↔ x < y := by
 unfold cmpR
 by_cases h : x < y
 ·simp [h]
 ·rw [if_neg h]; split <;> simp [*]

theorem mk_parts (k : Int) {D : Nat} (hD : D ≠ 0) : ∃ g : Int, 0 < g ∧ (mkRat k D).num * g = k ∧ ((mkRat k D).den : Int) * g = D := by
 refine ⟨((D.gcd k.natAbs : Nat) : Int), ?_, ?_, ?_⟩
 ·have := Nat.gcd_pos_of_pos_left k.natAbs (Nat.pos_of_ne_zero hD); omega
 ·rw [Rat.num_mkRat, if_neg hD]
  exact Int.ediv_mul_cancel (Int.ofNat_dvd_left.2 (Nat.gcd_dvd_right D k.natAbs))
 ·rw [Rat.den_mkRat, if_neg hD, ← Int.natCast_mul, Nat.div_mul_cancel (Nat.gcd_dvd_left D k.natAbs)]
theorem lt_mk {x : Rat} {k : Int} {D : Nat} (hD : D ≠ 0) : x < mkRat k D ↔ x.num * D < k * x.den := by
 obtain ⟨g, hg, h1, h2⟩ := mk_parts k hD
 rw [Rat.lt_iff]
 generalize (mkRat k D).num = a at *
 generalize (mkRat k D).den = b at *
 rw [← h1, ← h2, ← Int.mul_assoc x.num, Int.mul_right_comm a g]
 exact ⟨fun h => Int.mul_lt_mul_of_pos_right h hg, fun h => Int.lt_of_mul_lt_mul_right h (Int.le_of_lt hg)⟩
theorem mk_lt {x : Rat} {k : Int} {D : Nat} (hD : D ≠ 0) : mkRat k D < x ↔ k * x.den < x.num * D := by
 obtain ⟨g, hg, h1, h2⟩ := mk_parts k hD
 rw [Rat.lt_iff]
 generalize (mkRat k D).num = a at *
 generalize (mkRat k D).den = b at *
 rw [← h1, ← h2, ← Int.mul_assoc x.num, Int.mul_right_comm a g]
 exact ⟨fun h => Int.mul_lt_mul_of_pos_right h hg, fun h => Int.lt_of_mul_lt_mul_right h (Int.le_of_lt hg)⟩
theorem mk_add (a b : Int) {D : Nat} (hD : D ≠ 0) : mkRat a D + mkRat b D = mkRat (a + b) D := by
 rw [Rat.mkRat_add_mkRat a b hD hD, ← Int.add_mul, Rat.mkRat_mul_right hD]
theorem mk_sub (a b : Int) {D : Nat} (hD : D ≠ 0) : mkRat a D - mkRat b D = mkRat (a - b) D := by
 rw [Rat.sub_eq_add_neg, Rat.neg_mkRat, mk_add _ _ hD, Int.sub_eq_add_neg]
theorem ten_ne (P : Nat) : 10 ^ P ≠ 0 := Nat.pos_iff_ne_zero.1 (Nat.pow_pos (by omega))
def dx (x : Rat) (P : Nat) : Rat := mkRat (si (decide (x.num < 0)) (dq x P)) (10 ^ P)
def unit_ (P : Nat) : Rat := mkRat 1 (10 ^ P)
theorem dq_le (x : Rat) (P : Nat) : dq x P * x.den ≤ x.num.natAbs * 10 ^ P := Nat.div_mul_le_self _ _
theorem lt_dq (x : Rat) (P : Nat) : x.num.natAbs * 10 ^ P < (dq x P + 1) * x.den := by rw [Nat.mul_comm (dq x P + 1)]; exact Nat.lt_mul_div_succ _ x.den_pos
theorem near_pos {x : Rat} (P : Nat) (h : ¬ x.num < 0) : ¬ x < dx x P ∧ x - dx x P < unit_ P := by
 have e : x.num = ((x.num.natAbs : Nat) : Int) := by omega
 have h1 := Int.ofNat_le.2 (dq_le x P)
 have h2 := Int.ofNat_lt.2 (lt_dq x P)
 rw [Int.natCast_mul, Int.natCast_mul, ← e] at h1
 rw [Int.natCast_mul, Int.natCast_mul, ← e] at h2
 unfold dx unit_
 rw [decide_eq_false h, show si false (dq x P) = ((dq x P : Nat) : Int) from rfl]
 refine ⟨?_, ?_⟩
 ·rw [lt_mk (ten_ne P)]; omega
 ·rw [sub_lt_iff, mk_add _ _ (ten_ne P), lt_mk (ten_ne P), Int.add_comm]
  exact h2
theorem near_neg {x : Rat} (P : Nat) (h : x.num < 0) : ¬ dx x P < x ∧ dx x P - x < unit_ P := by
 have e : x.num = -((x.num.natAbs : Nat) : Int) := by omega
 have h1 := Int.ofNat_le.2 (dq_le x P)
 have h2 := Int.ofNat_lt.2 (lt_dq x P)
 rw [Int.natCast_mul, Int.natCast_mul] at h1 h2
 unfold dx unit_
 rw [decide_eq_true h, show si true (dq x P) = -((dq x P : Nat) : Int) from rfl]
 refine ⟨?_, ?_⟩
 ·rw [mk_lt (ten_ne P), e, Int.neg_mul, Int.neg_mul]; omega
 ·rw [sub_lt_iff, Rat.add_comm, ← sub_lt_iff, mk_sub _ _ (ten_ne P), mk_lt (ten_ne P), e, Int.neg_mul]
  have h3 : (-((dq x P : Nat) : Int) - 1) * (x.den : Int) = -(((dq x P + 1 : Nat) : Int) * (x.den : Int)) := by
   rw [← Int.neg_mul]; congr 1; omega
  rw [h3]; omega
theorem qr_unit (i : Nat) : qr (unit_ i) (ri 10) = unit_ (i + 1) := by
 unfold unit_ qr
 rw [Rat.num_mkRat, if_neg (ten_ne i), Rat.den_mkRat, if_neg (ten_ne i), ri_num, ri_den]
 simp [si, Nat.pow_succ]
theorem bd_unit {i : Nat} (h : i ≤ 20) : Bd (unit_ i) 21 :=
 bd_mk (ten_ne i) (Nat.lt_of_lt_of_le (by decide : (1 : Int).natAbs < 256 ^ 1) (Nat.pow_le_pow_right (by omega) (by omega))) (Nat.lt_of_lt_of_le (ten_lt i) (Nat.pow_le_pow_right (by omega) (by omega)))

theorem rep_all (n : Nat) : (List.replicate n (48 : UInt8)).all isD = true := List.all_eq_true.2 fun x hx => by rw [(List.mem_replicate.1 hx).2]; rfl
theorem rep_dval (n : Nat) (s : List UInt8) : dval (List.replicate n 48 ++ s) = dval s := by
 induction n with
 | zero => rfl
 | succ n ih => rw [List.replicate_succ, List.cons_append, dval_cons, ih]; simp
theorem pad_all {P : Nat} {s : List UInt8} (h : s.all isD = true) : (pad P s).all isD = true := by unfold pad; rw [List.all_append, rep_all, h]; rfl
theorem all_take {l : List UInt8} (h : l.all isD = true) (n : Nat) : (l.take n).all isD = true := List.all_eq_true.2 fun x hx => List.all_eq_true.1 h x (List.mem_of_mem_take hx)
theorem all_dropn {l : List UInt8} (h : l.all isD = true) (n : Nat) : (l.drop n).all isD = true := List.all_eq_true.2 fun x hx => List.all_eq_true.1 h x (List.mem_of_mem_drop hx)
theorem whole_isI {P : Nat} (hp : P ≠ 0) (q : Nat) : isI ((pad P (dc q)).take ((pad P (dc q)).length - P)) = true := by
 have hl := pad_len P (dc q)
 have ha := all_take (pad_all (P := P) (dc_all q)) ((pad P (dc q)).length - P)
 have hlen : ((pad P (dc q)).take ((pad P (dc q)).length - P)).length = (pad P (dc q)).length - P := by rw [List.length_take]; omega
 have hne : (pad P (dc q)).take ((pad P (dc q)).length - P) ≠ [] := by
  intro h; rw [h] at hlen; simp at hlen; omega
 have key : ((pad P (dc q)).take ((pad P (dc q)).length - P)).head? ≠ some 48 ∨ ((pad P (dc q)).take ((pad P (dc q)).length - P)).length = 1 := by
  by_cases h : (dc q).length ≤ P
  ·refine .inr ?_
   rw [hlen]; unfold pad; rw [List.length_append, List.length_replicate]; omega
  ·refine .inl ?_
   rw [pad_long (by omega), List.head?_take, if_neg (by omega)]
   refine dc_head ?_
   rintro rfl
   have : (dc 0).length = 1 := rfl
   omega
 unfold isI isDs
 rw [ha]
 rcases key with h | h
 ·simp [hne, h]
 ·simp [hne, h]
theorem pzb_dot (neg : Bool) (q P : Nat) (hP : P ≤ 20) (hl : (dc q).length ≤ 1000) : pzb neg (dot P (pad P (dc q))) = (mkRat (si neg q) (10 ^ P), 0) := by
 have hpa := pad_all (P := P) (dc_all q)
 have hple := pad_le (P := P) (dc q)
 have hpl := pad_len P (dc q)
 unfold dot
 by_cases hp : P = 0
 ·subst hp
  rw [if_pos rfl, pad_long (by have := dc_ne q; have := List.length_pos_iff.2 this; omega)]
  unfold pzb
  rw [no_any (digits_no (dc_all q) (c := 46) (by decide)), no_any (digits_no (dc_all q) (c := 47) (by decide)), if_neg (by decide), if_neg (by decide), dc_isI, if_pos rfl, if_neg (by omega), dval_dc]
 ·rw [if_neg hp]
  have hI := whole_isI hp q
  have hv : dval (pad P (dc q)) = q := by unfold pad; rw [rep_dval, dval_dc]
  have ht := all_take hpa ((pad P (dc q)).length - P)
  have hd := all_dropn hpa ((pad P (dc q)).length - P)
  have hta := List.take_append_drop ((pad P (dc q)).length - P) (pad P (dc q))
  have hdl : ((pad P (dc q)).drop ((pad P (dc q)).length - P)).length = P := by rw [List.length_drop]; omega
  have htl : ((pad P (dc q)).take ((pad P (dc q)).length - P)).length ≤ 2000 := by rw [List.length_take]; omega
  rw [← hta, dval_append, hdl] at hv
  generalize (pad P (dc q)).take ((pad P (dc q)).length - P) = w at *
  generalize (pad P (dc q)).drop ((pad P (dc q)).length - P) = f at *
  obtain ⟨t1, t2, t3⟩ := tw_at (c := 46) (q := f) (digits_no ht (by decide))
  have hfd : isDs f = true := by
   unfold isDs; rw [hd]
   have : f ≠ [] := by rintro rfl; simp at hdl; omega
   simp [this]
  unfold pzb
  rw [t3, t1, t2, if_pos rfl, List.tail_cons, hI, hfd, Bool.and_self, if_pos rfl, if_neg (by omega), hdl, hv]
theorem pz_dec (x : Rat) (P : Nat) (hP : P ≤ 20) (hl : (dc (dq x P)).length ≤ 1000) : pz (dec x P) = (dx x P, 0) := by
 unfold pz dec dx
 have hh : (dot P (pad P (dc (dq x P)))).head? ≠ some 45 := by
  have hpa := pad_all (P := P) (dc_all (dq x P))
  have hpl := pad_len P (dc (dq x P))
  unfold dot
  have no : ∀ {l : List UInt8}, l.all isD = true → l.head? ≠ some 45 := by
   intro l h he
   cases l with
   | nil => cases he
   | cons c l => rw [List.all_cons, Bool.and_eq_true] at h; exact isD_ne h.1 (d := 45) (by decide) (Option.some.inj he)
  split
  ·exact no hpa
  ·have h1 := no (all_take hpa ((pad P (dc (dq x P))).length - P))
   have h2 : ((pad P (dc (dq x P))).take ((pad P (dc (dq x P))).length - P)).length ≠ 0 := by rw [List.length_take]; omega
   cases hc : (pad P (dc (dq x P))).take ((pad P (dc (dq x P))).length - P) with
   | nil => rw [hc] at h2; exact absurd rfl h2
   | cons c l => rw [hc] at h1; rw [List.cons_append, List.head?_cons]; exact h1
 by_cases h : x.num < 0 ∧ dq x P ≠ 0
 ·rw [if_pos h, List.singleton_append, if_pos (by rfl), List.tail_cons, pzb_dot true _ P hP hl, decide_eq_true h.1]
 ·rw [if_neg h, List.nil_append, if_neg hh, pzb_dot false _ P hP hl]
  by_cases h1 : x.num < 0
  ·have h2 : dq x P = 0 := by
    rcases Nat.eq_zero_or_pos (dq x P) with h2 | h2
    ·exact h2
    ·exact absurd ⟨h1, by omega⟩ h
   rw [h2, si_zero, si_zero]
  ·rw [decide_eq_false h1]
theorem dec_len (x : Rat) (P : Nat) (hP : P ≤ 20) (hl : (dc (dq x P)).length ≤ 1000) : (dec x P).length ≤ 2000 := by
 unfold dec
 have h1 := pad_le (P := P) (dc (dq x P))
 have h2 := dot_len (P := P) (s := pad P (dc (dq x P)))
 rw [List.length_append]
 have h3 : (if x.num < 0 ∧ dq x P ≠ 0 then [45] else [] : List UInt8).length ≤ 1 := by split <;> simp
 omega
theorem trunc_l0 {a1 a2 : ByteArray} (a0 : Bool) (h1 : a1.size ≤ 24) (h2 : a2.size ≤ 24) (P : Nat) (hP : P ≤ 20) : ∀ d i, i + d = P → Ev (fun k => insolvencylaw2_RationalTruncated.l0 k (P : Int) (i : Int) a0 a1 a2 (rp (unit_ i)).1 (rp (unit_ i)).2.1 (rp (unit_ i)).2.2) true := by
 intro d
 induction d with
 | zero =>
  intro i hi
  obtain rfl : i = P := by omega
  have ha : mn (mx (i : Int) 0) 20 = (i : Int) := by unfold mn mx; repeat' split <;> omega
  have p := Decimal_ev a0 h1 h2 (by omega) (by omega) hP ha
  have hq := dq_lt a0 h1 h2 (by omega) (show 24 ≤ 1000 by omega) hP
  have bx := bd_rc a0 h1 h2 (by omega)
  have sg := Sign_ev a0 h1 h2 (by omega) (by omega)
  have S1 : ∀ {y : Rat}, Bd y 100 → Ev (fun k => rational_Subtract.f k a0 a1 a2 (rp y).1 (rp y).2.1 (rp y).2.2) (rp (rc a0 a1 a2 - y)) := fun {y} h => by
   have := Subtract_ev a0 (rp y).1 (Nat.le_trans h1 (by omega)) (Nat.le_trans h2 (by omega)) (size_rp' h).1 (size_rp' h).2 (by omega) (by omega)
   rwa [rc_rp] at this
  generalize rc a0 a1 a2 = x at *
  have hl : (dc (dq x i)).length ≤ 1000 := Nat.le_trans (dc_len hq) (by omega)
  have z := parseR_ev (mkS (dec x i)) (by rw [mkS_size]; have := dec_len x i hP hl; omega)
  rw [mkS_toList, pz_dec x i hP hl] at z
  have by' : Bd (dx x i) 100 := by
   refine bd_mk (ten_ne i) ?_ (Nat.lt_of_lt_of_le (ten_lt i) (Nat.pow_le_pow_right (by omega) (by omega)))
   rw [si_abs]; exact Nat.lt_of_lt_of_le hq (Nat.pow_le_pow_right (by omega) (by omega))
  have s := S1 by'
  have bd := bd_sub (bd_up bx (show 24 ≤ 100 by omega)) by'
  have bu : Bd (unit_ i) 201 := bd_up (bd_unit hP) (by omega)
  have hsn : Int.sign x.num < 0 ↔ x.num < 0 := sign_neg_iff _
  refine Ev.step (f := fun k => (rational_Decimal.f k a0 a1 a2 (i : Int)).bind fun t1553 => ((rational_Parse.f k t1553).bind fun bt1554 => ((rational_Subtract.f k a0 a1 a2 bt1554.1 bt1554.2.1 bt1554.2.2.1).bind fun bt1559 => ((rational_Sign.f k a0 a1 a2).bind fun t1563 => (if t1563 < 0 then ((rational_Negate.f k bt1559.1 bt1559.2.1 bt1559.2.2).bind fun bt1564 => ((insolvencylaw2_awake.f k).bind fun t1567 => (if t1567 = true then (if bt1554.2.2.2 = 0 then ((rational_Sign.f k bt1564.1 bt1564.2.1 bt1564.2.2).bind fun t1568 => (if t1568 ≥ 0 then ((rational_Compare.f k bt1564.1 bt1564.2.1 bt1564.2.2 (rp (unit_ i)).1 (rp (unit_ i)).2.1 (rp (unit_ i)).2.2).bind fun t1569 => (some (decide (t1569 < 0)))) else (some false))) else (some false)) else (some false)))) else ((insolvencylaw2_awake.f k).bind fun t1570 => (if t1570 = true then (if bt1554.2.2.2 = 0 then ((rational_Sign.f k bt1559.1 bt1559.2.1 bt1559.2.2).bind fun t1571 => (if t1571 ≥ 0 then ((rational_Compare.f k bt1559.1 bt1559.2.1 bt1559.2.2 (rp (unit_ i)).1 (rp (unit_ i)).2.1 (rp (unit_ i)).2.2).bind fun t1572 => (some (decide (t1572 < 0)))) else (some false))) else (some false)) else (some false)))))))) (fun k => ?_) (Ev.bind p (Ev.bind z (Ev.bind s (Ev.bind sg ?_))))
  ·simp only [insolvencylaw2_RationalTruncated.l0]; rw [if_neg (by omega)]
  ·simp only [pr]
   by_cases h : x.num < 0
   ·obtain ⟨n1, n2⟩ := near_neg i h
    simp only [if_pos (hsn.2 h)]
    have ng := Negate_rp bd (by omega) (by omega)
    rw [Rat.neg_sub] at ng
    have bn : Bd (dx x i - x) 201 := by rw [← Rat.neg_sub]; exact bd_neg bd
    have g := Sign_rp bn (by omega) (by omega)
    have c := Compare_rp bn bu (by omega) (by omega)
    rw [cmp_sub] at g
    refine Ev.bind ng (Ev.bind awake_ev ?_)
    simp only [if_true]
    refine Ev.bind g ?_
    simp only [if_pos (cmp_ge.2 n1)]
    refine Ev.bind c ?_
    rw [decide_eq_true (cmp_lt.2 n2)]; exact Ev.now _
   ·obtain ⟨n1, n2⟩ := near_pos i h
    simp only [if_neg (mt hsn.1 h)]
    have g := Sign_rp bd (by omega) (by omega)
    have c := Compare_rp bd bu (by omega) (by omega)
    rw [cmp_sub] at g
    refine Ev.bind awake_ev ?_
    simp only [if_true]
    refine Ev.bind g ?_
    simp only [if_pos (cmp_ge.2 n1)]
    refine Ev.bind c ?_
    rw [decide_eq_true (cmp_lt.2 n2)]; exact Ev.now _
 | succ d ih =>
  intro i hi
  have w1 : wrap64 ((i : Int) + 1) = ((i + 1 : Nat) : Int) := by rw [w64 (by omega) (by omega)]; omega
  have b10 : Bd (ri 10) 21 := bd_up (bd_ri (by decide) (by decide)) (by omega)
  have dv := Divide_rp (bd_unit (i := i) (by omega)) b10 (by omega) (by omega)
  unfold qz at dv
  rw [if_neg (by rw [ri_num]; decide), qr_unit] at dv
  refine Ev.step (f := fun k => (rational_Int.f k 10).bind fun bt1546 => ((rational_Divide.f k (rp (unit_ i)).1 (rp (unit_ i)).2.1 (rp (unit_ i)).2.2 bt1546.1 bt1546.2.1 bt1546.2.2).bind fun bt1549 => (insolvencylaw2_RationalTruncated.l0 k (P : Int) ((i + 1 : Nat) : Int) a0 a1 a2 bt1549.1 bt1549.2.1 bt1549.2.2.1))) (fun k => ?_) (Ev.bind (int_ev (by decide) (by decide)) (Ev.bind dv (ih (i + 1) (by omega))))
  simp only [insolvencylaw2_RationalTruncated.l0]
  rw [if_pos (by omega), w1]
theorem truncated_law (a0 : Bool) (a1 a2 : ByteArray) {a : Int} (ha : (Lit.int .u8 a).wf = true) : Ev (fun k => insolvencylaw2_RationalTruncated.f k a0 a1 a2 a) true := by
 unfold insolvencylaw2_RationalTruncated.f
 refine Ev.bind (few8_ev _ (by show 1 ≤ 8; omega)) ?_
 cases hf : ([(⟨a0, a1, a2⟩ : S24)] : List S24).all fw with
 | false => exact Ev.bind awake_ev (Ev.now _)
 | true =>
  simp only [List.all_cons, List.all_nil, Bool.and_true, fw_iff] at hf
  simp only [if_true]
  simp [Lit.wf, IntKind.min, IntKind.max, IntKind.signed, IntKind.bits] at ha
  have e : wrap64 (Int.tmod a 21) = (((a % 21).toNat : Nat) : Int) := by
   rw [Int.tmod_eq_emod_of_nonneg ha.1, w64 (by omega) (by omega)]; omega
  rw [e]
  have one : rp (ri 1) = rp (unit_ 0) := by congr 1
  have i1 := int_ev (n := 1) (by decide) (by decide)
  rw [one] at i1
  exact Ev.bind i1 (trunc_l0 a0 hf.1 hf.2 (a % 21).toNat (by omega) (a % 21).toNat 0 (by omega))

end Go.Proofs.YtgepdnoaemeofaaGreatDoor.Pn
