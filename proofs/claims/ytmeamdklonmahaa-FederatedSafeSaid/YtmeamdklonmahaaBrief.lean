/- Short names of our own for what the printed texts say often: each is a law of the words, or stands for a proof that is looked for where it is asked. No condition. -/
import Derived.Test.YtmeamdklonmahaaWWords
import Derived.Test.YtmeamdklonmahaaWLast
import Derived.Test.YtmeamdklonmahaaWTab
import Derived.Test.YtmeamdklonmahaaWMore
import Derived.Test.YtmeamdklonmahaaWN
import Derived.KernelRfl
import Derived.Tactics
namespace Go.Proofs.YtmeamdklonmahaaW.PrintWords
open Go.RowKit Go.Proofs.YtmeamdklonmahaaW.PrintLast
theorem am {p : Prop} (h : p) : Aside0 p := ⟨h⟩
theorem bb {w w1 : World} {g : Nat} {o : Obj} (h : Aside0 (w.heap[g]? = some o)) (hb : Below w.heap.size w w1) : Aside0 (w1.heap[g]? = some o) := ⟨blk_below h.out hb⟩
theorem bs {w W w2 : World} (h : Aside0 (Below w.heap.size w W)) (k : Below W.heap.size W w2) : Aside0 (Below w.heap.size w w2) := ⟨below_step h.out k⟩
theorem ax {p : Prop} (h : p := by (try simp only [List.map_toArray, List.map_cons, List.map_nil]); first | done | rfl | (simp only [List.length_drop, List.length_take]; rfl)) : p := h
theorem od {p : Prop} [Decidable p] (h : decide p = true := by first | (with_reducible assumption) | assumption) : p := of_decide_eq_true h
theorem ar {p : Prop} (h : p := by first | rfl | (simp; done) | (simp [*]; done) | (refine congrArg (Value.int .i64) ?_; unfold wrap64; omega)) : p := h
theorem pu {p : Prop} (h : p := by simp only [Act.put, List.setIfInBounds_toArray, List.set_cons_zero, List.set_cons_succ, i64_w, i32_w]; rfl) : p := h
theorem er {p : Prop} (h : p := by first | rfl | (simp [errW_none, errW_some] <;> rfl) | (simp [*, errW_none, errW_some] <;> rfl)) : p := h
section
variable {P : Program} {ops : Array Oper} {Q : Exit → Act → World → Prop} {md : Region.Mode} {S : World → Prop} {ds : List Nat} {i : Nat} {N : Option Tmp} {oi : Oper} {v : Value} {fuel : Nat} {l : Array Bool} {a : Act} {w : World} {T : Bool × List (List Nat × List Nat)} {B : List Nat}
theorem pq {l' : Array Bool} (hT : Aside0 (rtab md ops = T)) {a' : Act} (h : wpAnyLast P md ops Q S ds fuel l' a' w)
    (_hl : l.setIfInBounds i true = l' := by (simp only [List.setIfInBounds_toArray, List.set_cons_zero, List.set_cons_succ]; rfl)) (hi : ops[i]? = some oi := by rfl) (hN : oi.dst = N := by rfl) (hc : anyT T l.toList l'.toList i = true := by kernel_rfl) (hQ : ∀ c a w, Q (.panic c) (a.put oi.dst v) w → Q (.panic c) a w := by exact fun _ _ _ h => h)
    (hw : Region.wanted oi (yielded ops a.tmps) = true := by rfl) (hy : ∀ w, (execOp a.eval oi).run P w = .ok (.value v) w := by (intro w'; go_simp; with_reducible rfl)) (ha : a.put N v = a' := by (simp only [Act.put, List.setIfInBounds_toArray, List.set_cons_zero, List.set_cons_succ, i64_w, i32_w]; rfl)) : wpAnyLast P md ops Q S ds (fuel + 1) l a w :=
  pure_ l' hi hN (any_of hT.out hc) hQ (Or.inl ⟨hw, hy⟩) ha h
theorem tq {l' : Array Bool} (hT : Aside0 (rtab md ops = T)) (hB : Aside0 (waitsOk T.2 B = true)) (hS : S w) {a' : Act} (h : wpAnyLast P md ops Q S ds fuel l' a' w)
    (_hl : l.setIfInBounds i true = l' := by (simp only [List.setIfInBounds_toArray, List.set_cons_zero, List.set_cons_succ]; rfl)) (hi : ops[i]? = some oi := by rfl) (hN : oi.dst = N := by rfl) (hc : takeW T B ds l.toList l'.toList i = true := by kernel_rfl) (hQ : ∀ c a w, Q (.panic c) (a.put oi.dst v) w → Q (.panic c) a w := by exact fun _ _ _ h => h)
    (hw : Region.wanted oi (yielded ops a.tmps) = true := by rfl) (hy : ∀ w, S w → (execOp a.eval oi).run P w = .ok (.value v) w := by (intro w' s_; go_simp; with_reducible rfl)) (ha : a.put N v = a' := by (simp only [Act.put, List.setIfInBounds_toArray, List.set_cons_zero, List.set_cons_succ, i64_w, i32_w]; rfl)) : wpAnyLast P md ops Q S ds (fuel + 1) l a w :=
  take_ l' hi hN (take_ofW hT.out hB.out hc) hQ (Or.inl ⟨hw, hy⟩) hS ha h
end
theorem bw {w0 w w1 : World} {g : Nat} {o : Obj} (h : Aside0 (w0.heap[g]? = some o)) (hb : Below w.heap.size w w1) (he : w0.heap = w.heap := by rfl) : Aside0 (w1.heap[g]? = some o) := ⟨blk_below (by rw [← he]; exact h.out) hb⟩
theorem kb {w0 w w1 : World} {g g' : Nat} {o : Obj} (h : Aside0 (w0.heap[g']? = some o)) (hk : KeepBut w w1 g none) (hn : Aside0 (g' ≠ g)) (he : w0.heap = w.heap := by rfl) : Aside0 (w1.heap[g']? = some o) := ⟨KeepBut.blk hk (by rw [← he]; exact h.out) hn.out (by simp)⟩
section
variable {P : Program} {ops : Array Oper} {Q : Exit → Act → World → Prop} {rest : List Oper} {oi : Oper} {a : Act} {w : World}
theorem gA (N : Option Tmp) {f : FuncId} {fn : Func} {as : Array Operand} {ts : Array TypeId} (hf : P.funcs[f]? = some fn) (args : Array Value) (h : Calls P f args w fun e w' => ∃ v, e = .returned v ∧ wpList P ops Q rest (a.put N v) w')
    (hd : oi.dst = N := by with_reducible rfl) (hg : oi.guard = none := by rfl) (hop : oi.op = .call { callee := .value (.func f), args := as, argTypes := ts } := by rfl) (hname : (fn.name == "runtime.NumGoroutine") = false := by kernel_rfl) (hb : fn.body.isSome = true := by rfl)
    (hargs : as.map a.eval = args := by (try simp only [List.map_toArray, List.map_cons, List.map_nil]); first | done | rfl | (simp only [List.length_drop, List.length_take]; rfl)) : wpList P ops Q (oi :: rest) a w :=
  goesL_ N hd hg hf hname hb args hop hargs h
end
section
variable {α : Type} {d : Kd α} {e base n m : Nat} {ok : Nat → Prop} {w w' w0 : World} {v : Value} {xs : List α} {A : Option Addr}
theorem dR (hq : w.drewN m = w') (h : Aside0 (Kd.R d e w base ok v xs)) : Aside0 (Kd.R d e w' base ok v xs) := hq ▸ ⟨Kd.R_drewN h.out m⟩
theorem dN (hq : w.drewN m = w') (h : Aside0 (Kd.N d e w base ok v xs)) : Aside0 (Kd.N d e w' base ok v xs) := hq ▸ ⟨Kd.N_drewN h.out m⟩
theorem dV (hq : w.drewN m = w') (h : Aside0 (Kd.V d e w base ok v xs)) : Aside0 (Kd.V d e w' base ok v xs) := hq ▸ ⟨Kd.V_drewN h.out m⟩
theorem dC (hq : w.drewN m = w') (h : Aside0 (Kd.C d w A n xs)) : Aside0 (Kd.C d w' A n xs) := hq ▸ ⟨Kd.C_drewN h.out m⟩
theorem dW {B : Nat} (hq : w.drewN m = w') (h : Aside0 (Below B w0 w)) : Aside0 (Below B w0 w') := hq ▸ ⟨pw_below_drewN h.out m⟩
theorem dK {g : Nat} {row : Option Nat} (hq : w.drewN m = w') (h : Aside0 (KeepBut w0 w g row)) : Aside0 (KeepBut w0 w' g row) := hq ▸ ⟨keep_drewN h.out m⟩
theorem pR (h : Aside0 (Kd.R d e w base ok v xs)) (hs : Below w.heap.size w w' := by repeat (with_reducible first | exact Below.refl _ _ | apply below_alloc | apply pw_below_drewN | apply below_drew1)) : Kd.R d e w' base ok v xs := Kd.R_below h.out hs
theorem pN (h : Aside0 (Kd.N d e w base ok v xs)) (hs : Below w.heap.size w w' := by repeat (with_reducible first | exact Below.refl _ _ | apply below_alloc | apply pw_below_drewN | apply below_drew1)) : Kd.N d e w' base ok v xs := Kd.N_below h.out hs
theorem pV (h : Aside0 (Kd.V d e w base ok v xs)) (hs : Below w.heap.size w w' := by repeat (with_reducible first | exact Below.refl _ _ | apply below_alloc | apply pw_below_drewN | apply below_drew1)) : Kd.V d e w' base ok v xs := Kd.V_below h.out hs
theorem dB {g : Nat} {o : Obj} (hq : w.drewN m = w') (h : Aside0 (w.heap[g]? = some o)) : Aside0 (w'.heap[g]? = some o) := hq ▸ ⟨blk_drewN h.out m⟩
end
theorem dn_set (w : World) (p : Addr) (v : Value) (n : Nat) : (w.setCell p v).drewN n = (w.drewN n).setCell p v := rfl
theorem kw {w W0 W : World} (_ : Aside0 (Below w.heap.size w W0)) (h : Below w.heap.size w W) : Below w.heap.size w W := h
theorem kk {w W0 W : World} {g : Nat} {row : Option Nat} (_ : Aside0 (KeepBut w W0 g row)) (h : KeepBut w W g row) : KeepBut w W g row := h
theorem nl {w : World} {g g' : Nat} {o : Obj} (hg : g' = w.heap.size) (h : Aside0 (w.heap[g]? = some o)) : Aside0 (g ≠ g') := ⟨by rw [hg]; exact Nat.ne_of_lt (blk_lt h.out)⟩
theorem ng {w : World} {g g' : Nat} {o : Obj} (hg : g' = w.heap.size) (h : Aside0 (w.heap[g]? = some o)) : Aside0 (g' ≠ g) := ⟨by rw [hg]; exact Nat.ne_of_gt (blk_lt h.out)⟩
theorem blk_as {w : World} {g : Nat} {t : TypeId} {cs cs' : Array Value} (h : w.heap[g]? = some (.cells cs t (0, 0))) (e : cs = cs') : w.heap[g]? = some (.cells cs' t (0, 0)) := e ▸ h
theorem bf {w : World} {g g' j : Nat} {t : TypeId} {cs : Array Value} {u : Value} (n : Aside0 (g ≠ g')) (h : w.heap[g]? = some (.cells cs t (0, 0))) : (w.setCell ⟨g', j, none⟩ u).heap[g]? = some (.cells cs t (0, 0)) := blk_far h n.out u
theorem bo {w : World} {g : Nat} {t : TypeId} {cs : Array Value} (h : w.heap[g]? = some (.cells cs t (0, 0)) := by (apply blk_as; (focus (repeat (with_reducible first | exact Aside0.out (by assumption) | apply blk_set | (apply bf; assumption) | apply blk_drewN | apply blk_drew | apply blk_alloc))); rfl)) : w.heap[g]? = some (.cells cs t (0, 0)) := h
section
variable {P : Program} {ops : Array Oper} {Q : Exit → Act → World → Prop} {rest : List Oper} {o : Oper} {a : Act} {w W : World}
theorem bx (N : Tmp) (cs : Array Value) (t : TypeId) (hB : Below w.heap.size w W)
    (h : ∀ g, g = W.heap.size → ∀ w1, Aside0 (w1.heap[g]? = some (.cells cs t (0, 0))) → Aside0 (w.heap.size ≤ g) → Below W.heap.size W w1 → wpList P ops Q rest (a.put o.dst (.pointer (some ⟨g, 0, none⟩))) w1)
    (hd : o.dst = some N := by with_reducible rfl) (hg : o.guard = none := by rfl)
    (hr : (execOp a.eval o).run P W = .ok (.value (.pointer (some ⟨W.heap.size, 0, none⟩))) (W.alloc (.cells cs t (0, 0))) := by first | (go_simp; done) | (go_simp; rfl)) : wpList P ops Q (o :: rest) a W :=
  box_event hg hd hr fun g hg w1 h1 hb => h g hg w1 ⟨h1⟩ ⟨by rw [hg]; exact below_size hB⟩ hb
end
end Go.Proofs.YtmeamdklonmahaaW.PrintWords
