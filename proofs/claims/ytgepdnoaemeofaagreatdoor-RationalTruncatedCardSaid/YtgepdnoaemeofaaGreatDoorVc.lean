/- Words of this session beside the printed ones: a row made with a capacity of its own; a row's block does not hang on its length. -/
import Derived.Test.YtgepdnoaemeofaaGreatDoorWd
namespace Go.Proofs.YtgepdnoaemeofaaGreatDoorW.PrintWords
open Go.RowKit
theorem ob_len {x : Option Nat} {A : Option Addr} {n c m c' : Nat} (h : x ≠ (Value.slice A n c).ownBlock) : x ≠ (Value.slice A m c').ownBlock := by
  cases A <;> simpa [Value.ownBlock] using h
namespace Kd
section
variable {P : Program} {ops : Array Oper} {rest : List Oper} {o : Oper} {a : Act} {Q : Exit → Act → World → Prop} {α : Type}
/-- make([]T, 0, n): no element, and room for n. -/
theorem R_makecap (d : Kd α) {w0 W : World} (base e : Nat) (hgd : o.guard = none) {N : Tmp} (_hd : o.dst = some N) (t : TypeId) (x y : Operand) (ho : o.op = .makeSlice t x y) (n : Int) (hx : a.eval x = .int .i64 0) (hy : a.eval y = .int .i64 n)
    (ht : P.underlying t = some (.slice e)) (z : Value) (bytes : Nat) (hinfo : (P.info? e).map (fun i => (i.zero, i.size, i.bytes)) = some (some z, d.sz, bytes)) (_hz : z.cells.size = d.sz) (_hs0 : 0 < d.sz) (hb0 : 0 < bytes)
    (z0 : α) {ok okp : Nat → Prop} (_hzero : d.M W base okp z0 z.cells.toList) (_hok : ∀ k, okp k → ok k) (hfresh : ok W.heap.size) (h0 : 0 ≤ n) (hl : n.toNat * bytes ≤ 281474976710656) (HB : Below base w0 W) (hbase : base ≤ W.heap.size)
    (h : ∀ v1 w1, d.R e w1 base ok v1 ([] : List α) → Below base w0 w1 → W.grownBy w1 none → (∃ b, v1.ownBlock = some b ∧ W.heap.size ≤ b) → wpList P ops Q rest (a.put o.dst v1) w1) : wpList P ops Q (o :: rest) a W := by
  obtain ⟨m, rfl⟩ := Int.eq_ofNat_of_zero_le h0
  simp only [Int.toNat_natCast] at hl
  obtain ⟨i0, hi, hzz⟩ := Option.map_eq_some_iff.1 hinfo
  simp only [Prod.mk.injEq] at hzz
  obtain ⟨hz0, hz1, hz2⟩ := hzz
  have hm : m ≤ 281474976710656 := Nat.le_trans (Nat.le_mul_of_pos_right _ hb0) hl
  have hbm : i0.bytes * m ≤ 281474976710656 := by rw [hz2, Nat.mul_comm]; exact hl
  have hr := run_make (P := P) W t e i0 z ht hi hz0 .i64 .i64 0 (m : Int) (by omega) (by omega) (by
      have h3 : ((i0.bytes * m : Nat) : Int) ≤ 281474976710656 := by omega
      rwa [Int.natCast_mul] at h3) (by omega)
  obtain ⟨w1, hr1, hown, _⟩ := run_make_own (P := P) W base t e i0 z d.sz ht hi hz0 hz1 .i64 .i64 m hbm (by unfold maxLen; omega) hbase
  have he := hr1.symm.trans hr
  injection he with hv hw
  subst hw
  simp only [Int.toNat_natCast, Int.toNat_zero] at hr hown
  refine event_run hgd (v := .slice (some ⟨W.heap.size, 0, none⟩) 0 m) (w1 := W.alloc (.cells (madeCells z.cells (m * i0.size)) e)) ?_ (h _ _ ⟨fun k hk => ?_, [], ?_, ?_⟩ (HB.alloc hbase _) (World.grownBy_alloc W _ none) ⟨W.heap.size, by simp [Value.ownBlock], Nat.le_refl _⟩)
  · simp [execOp, ho, hx, hy, hr]
  · have : W.heap.size = k := by simpa [Value.ownBlock] using hk
    subst this
    exact hfresh
  · simpa using hown
  · exact Reps.none _ _
end
/-- What is read lies where its owner says. -/
theorem V_in {α : Type} {e base n c : Nat} {ok : Nat → Prop} {W : World} {d : Kd α} {ad : Addr} {xs : List α} (h : V d e W base ok (.slice (some ad) n c) xs) (hn : 0 < n) (hs : 0 < d.sz) : ok ad.block := by
  obtain ⟨A, c', hv, _, hf⟩ := h
  injection hv with h1 h2 h3
  subst h2
  exact F_in hf h1.symm hn hs
/-- A window in a row of the call's own that begins at its block's head: pre stands before it, post behind it. -/
def Wn (pre post : List Int) (e : Nat) (w : World) (base : Nat) (ok : Nat → Prop) (v : Value) (xs : List Int) : Prop :=
  (∀ k, v.ownBlock = some k → ok k) ∧ ∃ g c, v = .slice (some ⟨g, pre.length, none⟩) xs.length (c - pre.length) ∧ 0 < xs.length ∧ (Kd.int .u32).R e w base ok (.slice (some ⟨g, 0, none⟩) (pre ++ xs ++ post).length c) (pre ++ xs ++ post)
section
variable {pre post : List Int} {e base g o n cap m : Nat} {ok ok' : Nat → Prop} {w w' W : World} {v : Value} {xs : List Int}
theorem Wn_Q (h : Wn pre post e w base ok v xs) : (Kd.int .u32).Q e w base ok v xs := by
  obtain ⟨_, g, c, rfl, hp, hR⟩ := h
  have hc := (R_reads' hR).2.1
  have h1 := Q_take (m := pre.length + xs.length) (Q_of_R hR) (by simp)
  have h2 := Q_drop (k := pre.length) h1 (by simp)
  have hlen : ((pre ++ xs ++ post).take (pre.length + xs.length)).drop pre.length = xs := by
    rw [List.take_append_of_le_length (by simp), List.take_of_length_le (by simp), List.drop_left]
  rw [hlen, if_neg (by simp at hc; omega)] at h2
  have ha : (some (⟨g, 0, none⟩ : Addr)).map (·.add (pre.length * (Kd.int .u32).sz)) = some ⟨g, pre.length, none⟩ := by
    rw [show (Kd.int .u32).sz = 1 from rfl, Nat.mul_one]; simp [add_plain]
  rw [ha, Nat.add_sub_cancel_left] at h2
  exact h2
theorem Wn_mono (h : Wn pre post e w base ok v xs) (hok : ∀ k, ok k → ok' k) : Wn pre post e w base ok' v xs := by
  obtain ⟨h0, g, c, h1, hp, hR⟩ := h; exact ⟨fun k hk => hok k (h0 k hk), g, c, h1, hp, R_mono hR hok⟩
theorem Wn_alloc (h : Wn pre post e w base ok v xs) (o : Obj) : Wn pre post e (w.alloc o) base ok v xs := by
  obtain ⟨h0, g, c, h1, hp, hR⟩ := h; exact ⟨h0, g, c, h1, hp, R_alloc hR o⟩
theorem Wn_drew (h : Wn pre post e w base ok v xs) : Wn pre post e w.drew base ok v xs := by
  obtain ⟨h0, g, c, h1, hp, hR⟩ := h; exact ⟨h0, g, c, h1, hp, R_drew hR⟩
theorem Wn_drewN (h : Wn pre post e w base ok v xs) (m : Nat) : Wn pre post e (w.drewN m) base ok v xs := by
  obtain ⟨h0, g, c, h1, hp, hR⟩ := h; exact ⟨h0, g, c, h1, hp, R_drewN hR m⟩
theorem Wn_at (hq : w.drewN m = w') (h : Wn pre post e w base ok v xs) : Wn pre post e w' base ok v xs := by subst hq; exact Wn_drewN h m
theorem Wn_slice (h : Wn pre post e w base ok v xs) : ∃ A c, v = .slice A xs.length c ∧ xs.length ≤ c := Q_slice (Wn_Q h)
theorem Wn_reads' {A : Option Addr} {n c : Nat} (h : Wn pre post e w base ok (.slice A n c) xs) : n = xs.length ∧ n ≤ c ∧ (Kd.int .u32).C w A xs.length xs := Q_reads' (Wn_Q h)
theorem Wn_form (h : Wn pre post e w base ok v xs) (hp : 0 < xs.length) : ∃ g o cap, v = .slice (some ⟨g, o, none⟩) xs.length cap ∧ base ≤ g ∧ g < w.heap.size ∧ ∃ cells, w.heap[g]? = some (.cells cells e (0, 0)) := Q_form (Wn_Q h) hp
theorem Wn_cell (d : Int) (h : Wn pre post e W base ok (.slice (some ⟨g, o, none⟩) n cap) xs) (i : Int) (h0 : 0 ≤ i) (hi : i < n) : W.cell? ⟨g, o + i.toNat, none⟩ = some (.int .u32 (rdOf d xs i)) ∧ W.frozen? ⟨g, o + i.toNat, none⟩ = false := Q_cell d (Wn_Q h) i h0 hi
theorem Wn_putg (h : Wn pre post e W base ok (.slice (some ⟨g, o, none⟩) n cap) xs) (i : Int) (h0 : 0 ≤ i) (hi : i < n) (x : Int) : Wn pre post e (W.setCell ⟨g, o + i.toNat, none⟩ (.int .u32 x)) base ok (.slice (some ⟨g, o, none⟩) n cap) (xs.set i.toNat x) ∧ W.grownBy (W.setCell ⟨g, o + i.toNat, none⟩ (.int .u32 x)) (some g) := by
  have hn := (Wn_reads' h).1
  obtain ⟨hk0, g', c, hv, hp, hR⟩ := h
  injection hv with ha hl hc
  injection ha with ha
  injection ha with hg ho _
  subst hg; subst ho
  obtain ⟨j, rfl⟩ := Int.eq_ofNat_of_zero_le h0
  simp only [Int.toNat_natCast] at *
  have h1 := R_putg hR ((pre.length + j : Nat) : Int) x
  rw [Int.toNat_natCast] at h1
  have he : (pre ++ xs ++ post).set (pre.length + j) x = pre ++ xs.set j x ++ post := by
    rw [List.append_assoc, List.set_append_right _ _ (by omega), Nat.add_sub_cancel_left, List.set_append_left _ _ (by omega), List.append_assoc]
  rw [he] at h1
  refine ⟨⟨hk0, g, c, by rw [List.length_set, hn, hc], by rw [List.length_set]; exact hp, ?_⟩, h1.2⟩
  have h3 := h1.1
  rw [show (pre ++ xs ++ post).length = (pre ++ xs.set j x ++ post).length by simp] at h3
  exact h3
/-- The window xs[lo:hi] of such a row, and the row behind it. -/
theorem Wn_of_R {Au Aw : Option Addr} {cu nw cw lo hi : Nat} (h : (Kd.int .u32).R e w base ok (.slice Au xs.length cu) xs) (hlo : lo < hi) (hhi : hi ≤ xs.length)
    (hAw : Aw = if cu = lo then Au else Au.map (·.add (lo * 1))) (hnw : nw = hi - lo) (hcw : cw = cu - lo) : Wn (xs.take lo) (xs.drop hi) e w base ok (.slice Aw nw cw) ((xs.take hi).drop lo) := by
  have hc := (R_reads' h).2.1
  obtain ⟨g, c, hv, _⟩ := R_form h (by omega)
  injection hv with ha _ hcc
  subst ha; subst hcc
  have he : xs.take lo ++ (xs.take hi).drop lo ++ xs.drop hi = xs := by
    rw [show xs.take lo = (xs.take hi).take lo by rw [List.take_take, Nat.min_eq_left (by omega)], List.take_append_drop, List.take_append_drop]
  have hl : (xs.take lo).length = lo := by rw [List.length_take]; omega
  refine ⟨fun k hk => h.1 k ?_, g, cu, ?_, by rw [List.length_drop, List.length_take]; omega, by rw [he]; exact h⟩
  · rw [hAw, if_neg (by omega)] at hk
    simpa [Value.ownBlock, add_plain] using hk
  rw [hAw, hnw, hcw, if_neg (by omega), hl, List.length_drop, List.length_take, Nat.min_eq_left hhi]
  simp [add_plain]
theorem R_of_Wn {Au Aw : Option Addr} {cu nw cw lo hi N : Nat} {ys : List Int} (hN : N = xs.length) (h : Wn (xs.take lo) (xs.drop hi) e w base ok (.slice Aw nw cw) ys) (hlo : lo < hi) (hhi : hi ≤ xs.length) (g : Nat) (hg : Au = some ⟨g, 0, none⟩) (hcu : xs.length ≤ cu)
    (hAw : Aw = if cu = lo then Au else Au.map (·.add (lo * 1))) (hnw : nw = hi - lo) (hcw : cw = cu - lo) : (Kd.int .u32).R e w base ok (.slice Au N cu) (xs.take lo ++ ys ++ xs.drop hi) := by
  have hn := (Wn_reads' h).1
  obtain ⟨hk0, g', c, hv, hp, hR⟩ := h
  have hl : (xs.take lo).length = lo := by rw [List.length_take]; omega
  have hc := (R_reads' hR).2.1
  injection hv with ha _ hcc
  rw [hAw, if_neg (by omega), hg, hl] at ha
  simp only [Option.map_some, Nat.mul_one, add_plain, Option.some.injEq] at ha
  injection ha with hg' _ _
  subst hg'
  have : c = cu := by simp only [List.length_append, hl] at hc; omega
  subst this
  have hlen : (xs.take lo ++ ys ++ xs.drop hi).length = N := by simp only [List.length_append, hl, List.length_drop]; omega
  rw [hlen] at hR
  rw [hg]; exact hR
end
end Kd
end Go.Proofs.YtgepdnoaemeofaaGreatDoorW.PrintWords
