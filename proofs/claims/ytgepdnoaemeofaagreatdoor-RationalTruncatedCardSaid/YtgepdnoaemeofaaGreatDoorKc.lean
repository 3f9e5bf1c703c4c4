/- Short names of the steps that the printed walks repeat: each says one step of the words, its side proofs found where it is used. -/
import Derived.Test.YtgepdnoaemeofaaGreatDoorWd
import Derived.Test.YtgepdnoaemeofaaGreatDoorVc
import Derived.KernelRfl
import Derived.Tactics
namespace Go.Proofs.YtgepdnoaemeofaaGreatDoorW.PK
open Go.RowKit Go.Proofs.YtgepdnoaemeofaaGreatDoorW.PrintWords Go.Proofs.YtgepdnoaemeofaaGreatDoorW.PrintLast Go.Proofs.YtgepdnoaemeofaaGreatDoorW.PrintMore
set_option linter.unusedVariables false
theorem oa {p : Prop} [Decidable p] (h : decide p = true := by first | (with_reducible assumption) | assumption) : p := of_decide_eq_true h
theorem fe {p : Prop} (h : p := by first | rfl | (simp [errW_none, errW_some] <;> rfl) | (simp [*, errW_none, errW_some] <;> rfl) | (simp; (cases (ByteArray.toList _) <;> rfl))) : p := h
theorem fs {p : Prop} (h : p := by first | rfl | (simp; done) | (simp [*]; done) | (simp; (cases (ByteArray.toList _) <;> rfl))) : p := h
theorem dz {p : Prop} (h : p := by (repeat (first | exact Drawn0.refl _ | apply Drawn0.step)); done) : p := h
theorem bs1 {α β : Type} {o : Option α} {f : α → Option β} {r : β} (h : o.bind f = some r) : ∃ a, Aside0 (o = some a) ∧ f a = some r := by
  obtain ⟨a, h1, h2⟩ := Option.bind_eq_some_iff.mp h; exact ⟨a, ⟨h1⟩, h2⟩
section
variable {w W w1 w2 : World}
theorem bz (h : Below w.heap.size w W) (s : Below w.heap.size w W → Below w.heap.size w w2 := by intro h_; (repeat (first | (with_reducible first | exact h_ | apply below_alloc | apply pw_below_drewN | apply below_drew1 | refine below_set ?_ (Aside0.out (by assumption))) | exact h_)); done) : Below w.heap.size w w2 := s h
theorem sz (h : Below w.heap.size w W) (s : Below w.heap.size w W → Below w.heap.size w w2 := by intro h_; (repeat (first | (with_reducible first | exact h_ | apply below_alloc | apply pw_below_drewN | apply below_drew1 | refine below_set ?_ (Aside0.out (by assumption))) | exact h_)); done) : w.heap.size ≤ w2.heap.size := below_size (s h)
theorem bs (h : Below w.heap.size w W) (hb : Below w2.heap.size w2 w1) (s : Below w.heap.size w W → Below w.heap.size w w2 := by intro h_; (repeat (first | (with_reducible first | exact h_ | apply below_alloc | apply pw_below_drewN | apply below_drew1 | refine below_set ?_ (Aside0.out (by assumption))) | exact h_)); done) : Below w.heap.size w w1 := below_step (s h) hb
theorem sg {g : Nat} (hg : g = w2.heap.size) (h : Below w.heap.size w W) (s : Below w.heap.size w W → Below w.heap.size w w2 := by intro h_; (repeat (first | (with_reducible first | exact h_ | apply below_alloc | apply pw_below_drewN | apply below_drew1 | refine below_set ?_ (Aside0.out (by assumption))) | exact h_)); done) : Aside0 (w.heap.size ≤ g) := ⟨hg ▸ below_size (s h)⟩
end
theorem vs {p q : Prop} (h : p) (s : p → q := by intro h_; (with_reducible repeat (first | exact h_ | apply Kd.V_alloc | apply Kd.V_drewN | apply Kd.V_drew | apply Kd.R_alloc | apply Kd.R_drewN | apply Kd.R_drew | apply Kd.Wn_alloc | apply Kd.Wn_drewN | apply Kd.Wn_drew | refine Kd.C_alloc ?_ _ | refine Kd.C_drewN ?_ _ | refine Kd.C_drew ?_)); (first | done | exact h_)) : q := s h
section
variable {α : Type} {d : Kd α} {e base b : Nat} {ok : Nat → Prop} {v : Value} {xs : List α} {w W w1 w2 : World}
theorem vm {ok' : Nat → Prop} (h : Kd.V d e w base ok v xs) (f : ∀ k, ok k → ok' k) (s : Kd.V d e w base ok v xs → Kd.V d e w2 base ok v xs := by intro h_; (with_reducible repeat (first | exact h_ | apply Kd.V_alloc | apply Kd.V_drewN | apply Kd.V_drew)); (first | done | exact h_)) : Kd.V d e w2 base ok' v xs := Kd.V_mono (s h) f
theorem rm {ok' : Nat → Prop} (h : Kd.R d e w base ok v xs) (f : ∀ k, ok k → ok' k) (s : Kd.R d e w base ok v xs → Kd.R d e w2 base ok v xs := by intro h_; (with_reducible repeat (first | exact h_ | apply Kd.R_alloc | apply Kd.R_drewN | apply Kd.R_drew)); (first | done | exact h_)) : Kd.R d e w2 base ok' v xs := Kd.R_mono (s h) f
theorem vb (h : Kd.V d e w base ok v xs) (hb : Below w2.heap.size w2 w1) (s : Kd.V d e w base ok v xs → Kd.V d e w2 base ok v xs := by intro h_; (with_reducible repeat (first | exact h_ | apply Kd.V_alloc | apply Kd.V_drewN | apply Kd.V_drew)); (first | done | exact h_)) : Kd.V d e w1 base ok v xs := Kd.V_below (s h) hb
theorem rb (h : Kd.R d e w base ok v xs) (hb : Below w2.heap.size w2 w1) (s : Kd.R d e w base ok v xs → Kd.R d e w2 base ok v xs := by intro h_; (with_reducible repeat (first | exact h_ | apply Kd.R_alloc | apply Kd.R_drewN | apply Kd.R_drew)); (first | done | exact h_)) : Kd.R d e w1 base ok v xs := Kd.R_below (s h) hb
end
section
variable {w W w1 w2 : World} {g g2 : Nat} {t : TypeId} {cs cs' : Array Value} {o o1 o2 : Obj}
theorem blk_putb (i : Nat) (u : Value) (h : w.heap[g]? = some (.cells cs t (0, 0))) : (w.setCell ⟨g, i, none⟩ u).heap[g]? = some (.cells (cs.setIfInBounds i u) t (0, 0)) := blk_put h i u rfl
theorem blk_farb {g' : Nat} {i : Nat} {u : Value} (hp : Aside0 (g ≠ g')) (h : w.heap[g]? = some (.cells cs t (0, 0))) : (w.setCell ⟨g', i, none⟩ u).heap[g]? = some (.cells cs t (0, 0)) := blk_far h hp.out u
theorem blk_conv {x : Option Obj} (h : x = some o1) (e : o1 = o) : x = some o := e ▸ h
/-- Blocks that other blocks' stores and new memory leave alone. -/
theorem bq {p q : Prop} (h : p) (s : p → q := by intro h_; first | with_reducible exact h_ | (apply blk_conv; (focus (repeat (first | (with_reducible first | exact h_ | apply blk_drewN | apply blk_drew | apply blk_alloc | (apply blk_farb; focus assumption) | apply blk_putb) | exact h_))); (first | rfl | (simp; done) | (simp; (cases (ByteArray.toList _) <;> rfl))))) : q := s h
theorem bk0 (h : w.heap[g]? = some o) (hb : Below w2.heap.size w2 w1) (s : w.heap[g]? = some o → w2.heap[g]? = some o := by exact fun h_ => bq h_) : w1.heap[g]? = some o := blk_below (s h) hb
theorem bk (h : w.heap[g]? = some o) (hb : Below w2.heap.size w2 w1) (o1 : Obj) (s : w.heap[g]? = some o → w2.heap[g]? = some o1 := by exact fun h_ => bq h_) : w1.heap[g]? = some o1 := blk_below (s h) hb
end
section
variable {P : Program} {ops : Array Oper} {rest : List Oper} {oi : Oper} {a : Act} {Q : Exit → Act → World → Prop} {W w1 : World}
theorem gc (f : FuncId) {as : Array Operand} {ts : Array TypeId} (ho : oi.op = .call { callee := .value (.func f), args := as, argTypes := ts }) (h : wpList P ops Q (oi :: rest) a W) : wpList P ops Q (oi :: rest) a W := h
theorem gd (N : Tmp) (hN : oi.dst = some N) (h : wpList P ops Q (oi :: rest) a W) : wpList P ops Q (oi :: rest) a W := h
theorem gl (N : Option Tmp) {f : FuncId} {fn : Func} (hf : P.funcs[f]? = some fn) (args : Array Value) {as : Array Operand} {ts : Array TypeId}
    (h : Calls P f args W fun e w' => ∃ v, e = .returned v ∧ wpList P ops Q rest (a.put N v) w')
    (hd : oi.dst = N := by rfl) (hg : oi.guard = none := by rfl) (hname : (fn.name == "runtime.NumGoroutine") = false := by kernel_rfl) (hb : fn.body.isSome = true := by rfl)
    (hop : oi.op = .call { callee := .value (.func f), args := as, argTypes := ts } := by rfl) (hargs : as.map a.eval = args := by (try simp only [List.map_toArray, List.map_cons, List.map_nil]); first | done | rfl | (simp only [List.length_drop, List.length_take]; rfl)) : wpList P ops Q (oi :: rest) a W :=
  goesL_ N hd hg hf hname hb args hop hargs h
theorem bx (N : Tmp) (cs : Array Value) (t : TypeId)
    (h : ∀ g, g = W.heap.size → ∀ w1, w1.heap[g]? = some (.cells cs t (0, 0)) → Below W.heap.size W w1 → wpList P ops Q rest (a.put oi.dst (.pointer (some ⟨g, 0, none⟩))) w1)
    (hgd : oi.guard = none := by rfl) (hd : oi.dst = some N := by rfl) (hrun : (execOp a.eval oi).run P W = .ok (.value (.pointer (some ⟨W.heap.size, 0, none⟩))) (W.alloc (.cells cs t (0, 0))) := by first | (go_simp; done) | (go_simp; rfl)) : wpList P ops Q (oi :: rest) a W :=
  box_event hgd hd hrun h
theorem se (t : TypeId) (p : Tmp) {v : Operand} (h : ∀ w', w' = w1 → wpList P ops Q rest a w') (hgd : oi.guard = none := by rfl) (ho : oi.op = .store t (.tmp p) v := by rfl) (hN : oi.dst = none := by rfl)
    (hrun : (execOp a.eval oi).run P W = .ok .skip w1 := by first | (go_simp; done) | (go_simp; rfl)) : wpList P ops Q (oi :: rest) a W := store_event hgd ho hN hrun h
end
theorem iN {c : Prop} [Decidable c] {α : Type} {x : Option α} {r : α} (h : (if c then x else none) = some r) : c ∧ x = some r := by
  split at h
  · exact ⟨‹c›, h⟩
  · cases h
theorem nf {r : Bool} {p : Prop} (hr : r = true) (H : some false = some r) : p := by subst hr; cases H
theorem ib {t : Bool} {α : Type} {x y z : α} (h : (if t = true then x else y) = z) : (t = true ∧ x = z) ∨ (t = false ∧ y = z) := by
  cases t
  · exact .inr ⟨rfl, by simpa using h⟩
  · exact .inl ⟨rfl, by simpa using h⟩
section
variable {w : World} {g : Nat} {t : TypeId} {x y z u : Value}
theorem cz (h : w.heap[g]? = some (.cells #[x, y, z] t (0, 0))) : w.cell? ⟨g, 0, none⟩ = some x ∧ w.cell? ⟨g, 1, none⟩ = some y ∧ w.cell? ⟨g, 2, none⟩ = some z ∧ w.frozen? ⟨g, 0, none⟩ = false ∧ w.frozen? ⟨g, 1, none⟩ = false ∧ w.frozen? ⟨g, 2, none⟩ = false :=
  ⟨(blk_cell h 0).trans rfl, (blk_cell h 1).trans rfl, (blk_cell h 2).trans rfl, blk_frozen h 0, blk_frozen h 1, blk_frozen h 2⟩
theorem nl {w2 : World} {g2 : Nat} {o : Obj} (hg : g2 = w2.heap.size) (h : w.heap[g]? = some o) (s : w.heap[g]? = some o → ∃ o1, w2.heap[g]? = some o1 := by exact fun h_ => ⟨_, bq h_⟩) : Aside0 (g ≠ g2) := ⟨hg ▸ Nat.ne_of_lt (blk_lt (s h).choose_spec)⟩
theorem nr {w2 : World} {g2 : Nat} {o : Obj} (hg : g2 = w2.heap.size) (h : w.heap[g]? = some o) (s : w.heap[g]? = some o → ∃ o1, w2.heap[g]? = some o1 := by exact fun h_ => ⟨_, bq h_⟩) : Aside0 (g2 ≠ g) := ⟨hg ▸ Nat.ne_of_gt (blk_lt (s h).choose_spec)⟩
end
section
variable {P : Program} {ops : Array Oper} {Q : Exit → Act → World → Prop} {md : Region.Mode} {S : World → Prop} {ds : List Nat} {oi : Oper} {v : Value} {fuel : Nat} {l : Array Bool} {a a' : Act} {w : World} {T : Bool × List (List Nat × List Nat)} {K : Act → World → Prop}
theorem py (i : Nat) (N : Option Tmp) (l' : Array Bool) (hT : Aside0 (rtab md ops = T)) (h : wpAnyLast P md ops Q S ds fuel l' a' w) (hi : ops[i]? = some oi := by rfl) (hN : oi.dst = N := by rfl)
    (hw : Region.wanted oi (yielded ops a.tmps) = true := by rfl) (hy : ∀ w', (execOp a.eval oi).run P w' = .ok (.value v) w' := by intro w'; go_simp; with_reducible rfl)
    (ha : a.put N v = a' := by simp only [Act.put, List.setIfInBounds_toArray, List.set_cons_zero, List.set_cons_succ, i64_w, i32_w]; rfl) (hc : anyT T l.toList l'.toList i = true := by kernel_rfl)
    (hQ : ∀ c a1 w1, Q (.panic c) (a1.put oi.dst v) w1 → Q (.panic c) a1 w1 := by exact fun _ _ _ h => h) : wpAnyLast P md ops Q S ds (fuel + 1) l a w :=
  pure_ l' hi hN (any_of hT.out hc) hQ (Or.inl ⟨hw, hy⟩) ha h
theorem pu (i : Nat) (N : Option Tmp) (l' : Array Bool) (hT : Aside0 (rtab md ops = T)) (h : wpAnyLast P md ops Q S ds fuel l' a' w) (hi : ops[i]? = some oi := by rfl) (hN : oi.dst = N := by rfl)
    (hw : Region.wanted oi (yielded ops a.tmps) = false := by rfl)
    (ha : a.put N undef = a' := by simp only [Act.put, List.setIfInBounds_toArray, List.set_cons_zero, List.set_cons_succ, i64_w, i32_w]; rfl) (hc : anyT T l.toList l'.toList i = true := by kernel_rfl)
    (hQ : ∀ c a1 w1, Q (.panic c) (a1.put oi.dst undef) w1 → Q (.panic c) a1 w1 := by exact fun _ _ _ h => h) : wpAnyLast P md ops Q S ds (fuel + 1) l a w :=
  pure_ l' hi hN (any_of hT.out hc) hQ (Or.inr ⟨hw, rfl⟩) ha h
theorem nm (h : wpAnyLast P md ops Q S ds fuel l a' w) (ha : a = a' := by show Act.put _ _ _ = _; simp only [Act.put, List.setIfInBounds_toArray, List.set_cons_zero, List.set_cons_succ, i64_w, i32_w]; rfl) : wpAnyLast P md ops Q S ds fuel l a w := norm_ ha h
theorem gs {f : FuncId} {fn : Func} (hf : P.funcs[f]? = some fn) (args : Array Value) {N : Option Tmp} {as : Array Operand} {ts : Array TypeId}
    (h : Calls P f args w fun e w' => ∃ v, e = .returned v ∧ K (a.put N v) w') (hname : (fn.name == "runtime.NumGoroutine") = false := by kernel_rfl) (hb : fn.body.isSome = true := by rfl)
    (hw : Region.wanted oi (yielded ops a.tmps) = true := by rfl) (hN : oi.dst = N := by rfl) (hop : oi.op = .call { callee := .value (.func f), args := as, argTypes := ts } := by rfl)
    (hargs : as.map a.eval = args := by (try simp only [List.map_toArray, List.map_cons, List.map_nil]); first | done | rfl | (simp only [List.length_drop, List.length_take]; rfl)) :
    if Region.wanted oi (yielded ops a.tmps) = true then Oper.wp P oi a w K Q else K (a.put N undef) w := goes_ hf hname hb args hw hN hop hargs h
end
theorem dw {p : Prop} (h : p := by first | exact ⟨rfl, _, World.drewN_drewN _ _ _⟩ | exact ⟨rfl, _, Eq.trans (World.drewN_drewN _ _ _) (congrArg (World.drewN _) (Nat.add_assoc _ _ _))⟩) : p := h
section
variable {k : IntKind} {w : World} {A : Option Addr} {xs : List Int} {n : Nat}
theorem ai (h : (Kd.int k).C w A n xs) (i : Int) {j : Int} (h0 : 0 ≤ i) (h1 : i < j) (hj : j = (n : Int) := by rfl) : ∃ ad, A = some ad ∧ w.cell? (ad.add i.toNat) = some (.int k (rd xs i)) := Kd.at_int h i h0 (hj ▸ h1)
end
end Go.Proofs.YtgepdnoaemeofaaGreatDoorW.PK
