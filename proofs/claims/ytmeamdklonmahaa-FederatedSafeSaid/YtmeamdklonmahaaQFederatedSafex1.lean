/- Lean functions that answer as the Go functions do which the law reaches, and proofs that the Go code comes to exactly these answers. Conditions: those that each theorem names. -/
import Derived.Test.YtmeamdklonmahaaQFederatedSafex0
namespace Go.Proofs.Ytmeamdklonmahaa.QFederatedSafe
open Go.RowKit Go.Proofs.YtmeamdklonmahaaW.PrintWords Go.Proofs.YtmeamdklonmahaaW.PrintLast Go.Proofs.YtmeamdklonmahaaW.PrintMore
attribute [local go_sem] max2_int min2_int max_two min_two max_three min_three max_four min_four   -- for this text's walks alone
set_option linter.unusedVariables false
set_option linter.unusedSimpArgs false

/-- A state of type 78 at block g of W; what its slices lead to came in by w0. -/
def IsS78 (w0 W : World) (g : Nat) (f0 : List Int) (f1 : Int) : Prop := ∃ A0 c0, W.heap[g]? = some (.cells #[.slice A0 f0.length c0, .int .i64 f1] 78 (0, 0)) ∧ w0.heap.size ≤ g ∧ Kd.C (Kd.int .i64) w0 A0 f0.length f0
theorem IsS78.grown {w0 W : World} {g : Nat} {f0 : List Int} {f1 : Int} {W1 : World} {row : Option Nat} (h : IsS78 w0 W g f0 f1) (hw : W.grownBy W1 row) (hne : some g ≠ row) : IsS78 w0 W1 g f0 f1 := by
  obtain ⟨A0, c0, hb, hg, hr0⟩ := h
  exact ⟨A0, c0, blk_grown hb hw hne, hg, hr0⟩
theorem IsS78.own_neN {w0 W : World} {g : Nat} {f0 : List Int} {f1 : Int} {α : Type} {d : Kd α} {e : Nat} {base : Nat} {ok : Nat → Prop} {v : Value} {xs : List α} (h : IsS78 w0 W g f0 f1) (ho : Kd.N d e W base ok v xs) (ht : e ≠ 78) : some g ≠ v.ownBlock := by
  obtain ⟨A0, c0, hb, hg, hr0⟩ := h
  exact Kd.N_ne ho hb ht
theorem IsS78.fresh {w0 W : World} {g : Nat} {f0 : List Int} {f1 : Int} (h : IsS78 w0 W g f0 f1) : ∀ k, W.heap.size ≤ k → k ≠ g := by
  obtain ⟨A0, c0, hb, hg, hr0⟩ := h
  exact Kd.freshB hb
theorem IsS78.kept {w0 W : World} {g : Nat} {f0 : List Int} {f1 : Int} {W1 : World} {S : Nat → Prop} (h : IsS78 w0 W g f0 f1) (hk : Kept W W1 S) (hne : ¬ S g) : IsS78 w0 W1 g f0 f1 := by
  obtain ⟨A0, c0, hb, hg, hr0⟩ := h
  exact ⟨A0, c0, blk_kept hb hk hne, hg, hr0⟩
theorem IsS78.below {w0 W : World} {g : Nat} {f0 : List Int} {f1 : Int} {W1 : World} (h : IsS78 w0 W g f0 f1) (hw : Below W.heap.size W W1) : IsS78 w0 W1 g f0 f1 := h.grown (grown_of_below hw none) (by simp)
theorem IsS78.alloc {w0 W : World} {g : Nat} {f0 : List Int} {f1 : Int} (h : IsS78 w0 W g f0 f1) (o : Obj) : IsS78 w0 (W.alloc o) g f0 f1 := h.below (below_alloc (Below.refl _ _) o)
theorem IsS78.drewN {w0 W : World} {g : Nat} {f0 : List Int} {f1 : Int} (h : IsS78 w0 W g f0 f1) (m : Nat) : IsS78 w0 (W.drewN m) g f0 f1 := h
theorem IsS78.drew {w0 W : World} {g : Nat} {f0 : List Int} {f1 : Int} (h : IsS78 w0 W g f0 f1) : IsS78 w0 W.drew g f0 f1 := h
theorem IsS78.at_ {w0 W : World} {g : Nat} {f0 : List Int} {f1 : Int} {w' : World} {m : Nat} (hq : W.drewN m = w') (h : IsS78 w0 W g f0 f1) : IsS78 w0 w' g f0 f1 := by subst hq; exact IsS78.drewN h m
theorem IsS78.apart {w0 W : World} {g : Nat} {f0 : List Int} {f1 : Int} {α : Type} {d : Kd α} {e : Nat} {base : Nat} {ok : Nat → Prop} {v : Value} {xs : List α} (h : IsS78 w0 W g f0 f1) (ho : d.R e W base ok v xs) (ht : ∀ q, q ∈ e :: d.E → q ≠ 78) : d.R e W base (fun k => ok k ∧ k ≠ g) v xs := by
  obtain ⟨A0, c0, hb, hg, hr0⟩ := h
  exact Kd.R_types ho hb ht
theorem IsS78.own_ne {w0 W : World} {g : Nat} {f0 : List Int} {f1 : Int} {α : Type} {d : Kd α} {e : Nat} {base : Nat} {ok : Nat → Prop} {v : Value} {xs : List α} (h : IsS78 w0 W g f0 f1) (ho : d.R e W base ok v xs) (ht : e ≠ 78) : some g ≠ v.ownBlock := by
  obtain ⟨A0, c0, hb, hg, hr0⟩ := h
  exact Kd.R_ne ho hb ht
theorem IsS78.apartQ {w0 W : World} {g : Nat} {f0 : List Int} {f1 : Int} {α : Type} {d : Kd α} {e : Nat} {base : Nat} {ok : Nat → Prop} {v : Value} {xs : List α} (h : IsS78 w0 W g f0 f1) (ho : d.Q e W base ok v xs) (ht : ∀ q, q ∈ e :: d.E → q ≠ 78) : d.Q e W base (fun k => ok k ∧ k ≠ g) v xs := by
  obtain ⟨A0, c0, hb, hg, hr0⟩ := h
  exact Kd.Q_types ho hb ht
theorem IsS78.own_neQ {w0 W : World} {g : Nat} {f0 : List Int} {f1 : Int} {α : Type} {d : Kd α} {e : Nat} {base : Nat} {ok : Nat → Prop} {v : Value} {xs : List α} (h : IsS78 w0 W g f0 f1) (ho : d.Q e W base ok v xs) (ht : e ≠ 78) : some g ≠ v.ownBlock := by
  obtain ⟨A0, c0, hb, hg, hr0⟩ := h
  exact Kd.Q_ne ho hb ht
theorem IsS78.apartS {w0 W : World} {g : Nat} {f0 : List Int} {f1 : Int} {α : Type} {d : Kd α} {e : Nat} {base : Nat} {ok : Nat → Prop} {v : Value} {xs : List α} (h : IsS78 w0 W g f0 f1) (ho : d.S e W base ok v xs) (ht : ∀ q, q ∈ e :: d.E → q ≠ 78) : d.S e W base (fun k => ok k ∧ k ≠ g) v xs := by
  obtain ⟨A0, c0, hb, hg, hr0⟩ := h
  exact Kd.S_types ho hb ht
theorem IsS78.own_neS {w0 W : World} {g : Nat} {f0 : List Int} {f1 : Int} {α : Type} {d : Kd α} {e : Nat} {base : Nat} {ok : Nat → Prop} {v : Value} {xs : List α} (h : IsS78 w0 W g f0 f1) (ho : d.S e W base ok v xs) (ht : e ≠ 78) : some g ≠ v.ownBlock := by
  obtain ⟨A0, c0, hb, hg, hr0⟩ := h
  exact Kd.S_ne ho hb ht
theorem IsS78.lt {w0 W : World} {g : Nat} {f0 : List Int} {f1 : Int} (h : IsS78 w0 W g f0 f1) : g < W.heap.size := by
  obtain ⟨A0, c0, hb, hg, hr0⟩ := h
  exact blk_lt hb
theorem IsS78.ge {w0 W : World} {g : Nat} {f0 : List Int} {f1 : Int} (h : IsS78 w0 W g f0 f1) : w0.heap.size ≤ g := by
  obtain ⟨A0, c0, hb, hg, hr0⟩ := h
  exact hg
theorem IsS78.ne_blk {w0 W : World} {g : Nat} {f0 : List Int} {f1 : Int} {a : Nat} {cs : Array Value} {t : TypeId} {fr : Nat × Nat} (h : IsS78 w0 W g f0 f1) (hb2 : W.heap[a]? = some (.cells cs t fr)) (ht : t ≠ 78) : g ≠ a := by
  obtain ⟨A0, c0, hb, hg, hr0⟩ := h
  rintro rfl
  rw [hb] at hb2
  injection hb2 with hb2
  injection hb2 with _ ht2
  exact ht ht2.symm
theorem IsS78.far {w0 W : World} {g : Nat} {f0 : List Int} {f1 : Int} {p : Addr} (h : IsS78 w0 W g f0 f1) (hne : g ≠ p.block) (u : Value) : IsS78 w0 (W.setCell p u) g f0 f1 := by
  obtain ⟨A0, c0, hb, hg, hr0⟩ := h
  exact ⟨A0, c0, blk_far hb hne u, hg, hr0⟩
theorem cellS78_0 {W : World} {g : Nat} {A0 : Option Addr} {c0 : Nat} {f0 : List Int} {f1 : Int} (h : W.heap[g]? = some (.cells #[.slice A0 f0.length c0, .int .i64 f1] 78 (0, 0))) : W.cell? ⟨g, 0, none⟩ = some (.slice A0 f0.length c0) := (blk_cell h 0).trans rfl
theorem cellS78_1 {W : World} {g : Nat} {A0 : Option Addr} {c0 : Nat} {f0 : List Int} {f1 : Int} (h : W.heap[g]? = some (.cells #[.slice A0 f0.length c0, .int .i64 f1] 78 (0, 0))) : W.cell? ⟨g, 1, none⟩ = some (.int .i64 f1) := (blk_cell h 1).trans rfl
theorem IsS78.set_1 {w0 W : World} {g : Nat} {f0 : List Int} {f1 : Int} (h : IsS78 w0 W g f0 f1) (x : Int) : IsS78 w0 (W.setCell ⟨g, 1, none⟩ (.int .i64 x)) g f0 x := by
  obtain ⟨A0, c0, hb, hg, hr0⟩ := h
  exact ⟨A0, c0, by simpa using blk_set hb 1 (.int .i64 x), hg, hr0⟩
theorem IsS78.new (w0 W : World) (A0 : Option Addr) (c0 : Nat) (f0 : List Int) (f1 : Int) (hB : Below w0.heap.size w0 W) (hr0 : Kd.C (Kd.int .i64) w0 A0 f0.length f0) : IsS78 w0 (W.alloc (.cells #[.slice A0 f0.length c0, .int .i64 f1] 78)) W.heap.size f0 f1 := ⟨A0, c0, by simpa using heap_alloc_new W _, hB.size, hr0⟩

/-! ### trustquorummake_New: function 8 -/
def trustquorummake_New.f (l0 : List Int) : Option (List Int × Int) := if 0 ≤ (mn (l0.length : Int) 400) then (if (mn (l0.length : Int) 400) ≤ (l0.length : Int) then (some (l0.take ((mn (l0.length : Int) 400) : Int).toNat, 0)) else (none)) else (none)
set_option maxHeartbeats 8000000 in
set_option maxRecDepth 100000 in
theorem trustquorummake_New.calls (A0 : Option Addr) (c0 : Nat) (l0 : List Int) (r1 : List Int) (r2 : Int) (w0 w : World) (hB : Below w0.heap.size w0 w) (hr0 : Kd.C (Kd.int .i64) w0 A0 l0.length l0) (hc0 : l0.length ≤ c0) (h : trustquorummake_New.f l0 = some (r1, r2)) :
    Calls Try.prog 8 #[.slice A0 l0.length c0] w fun e w' => ∃ g_ : Nat, e = .returned (.pointer (some ⟨g_, 0, none⟩)) ∧ IsS78 w0 w' g_ r1 r2 ∧ Below w0.heap.size w0 w' ∧ Below w.heap.size w w' := by
 have hu78 := Try.underlying78; have HR0 := am hr0; have HC0 := am hc0; clear hr0 hc0; have HBW := am (Below.refl w.heap.size w); have HW0 := am hB.size; have HB := am hB; clear hB; have H : (if 0 ≤ (mn (l0.length : Int) 400) then (if (mn (l0.length : Int) 400) ≤ (l0.length : Int) then (some (l0.take ((mn (l0.length : Int) 400) : Int).toNat, 0)) else (none)) else (none)) = some (r1, r2) := h; clear h; obtain ⟨ji2, hji2⟩ : ∃ j_ : Int, (mn (l0.length : Int) 400) = j_ := ⟨_, rfl⟩; replace H : (if 0 ≤ (ji2) then (if (ji2) ≤ (l0.length : Int) then (some (l0.take ((ji2) : Int).toNat, 0)) else (none)) else (none)) = some (r1, r2) := by first | (rw [hji2] at H; exact H) | (simp only [hji2] at H ⊢; exact H)
 (try (have hji2h : ji2 ≤ 400 := by (rw [← hji2]; unfold mn; (repeat' split) <;> omega))); (try (have hji2g : ji2 ≤ 64 := by omega)); (try (have hji2l : 0 ≤ ji2 := by (rw [← hji2]; unfold mn; (repeat' split) <;> omega))); (try (have hji2m : 0 ≤ ji2 := by omega)); have hji2_ : (if 400 < (l0.length : Int) then 400 else (l0.length : Int)) = ji2 := hji2
 by_cases c3 : 0 ≤ (ji2)
 ·
  rw [if_pos c3] at H; have c3b0 := eq_true c3; have c3b1 : decide (0 ≤ (ji2)) = true := decide_eq_true c3; clear c3
  by_cases c4 : (ji2) ≤ (l0.length : Int)
  ·
   rw [if_pos c4] at H; have c4b0 := eq_true c4; have c4b1 : decide ((ji2) ≤ (l0.length : Int)) = true := decide_eq_true c4; clear c4; simp only [Option.some.injEq, Prod.mk.injEq] at H; obtain ⟨rfl, rfl⟩ := H; obtain ⟨i05, hi05, _, hsz5, _⟩ := info_parts info3; obtain ⟨hcut5, hA5, hC5⟩ := print_take_of (P := Try.prog) (Value.int .i64) 0 22 3 .i64 Try.underlying22 hi05 hsz5 A0 c0 l0 (ji2) od od HC0.out; have HR101 := am (Kd.C_of_reads (h1 := fun _ => rfl) (hA5 _ (Kd.reads_of_C HR0.out))); have HC101 := am hC5; clear hA5 hC5 hi05 hsz5
   go_enter Try.func8, Try.ntmps8
   go_wp2_with (first | ((with_reducible refine gate_dst (N := 9) rfl ?_); refine box_event ?hg (N := 9) ?hd (cs := #[.slice A0 (l0.take ((ji2) : Int).toNat).length c0, .int .i64 0]) (t := 78) ?hr ?_; (case hd => rfl); (case hg => rfl); (case hr => first | (go_simp; done) | (go_simp; rfl)); intro gb102 hg w6 hbox hb; replace HB := bs HB hb; have BK102 := am (hbox); have GW102 := am ((by rw [hg]; exact (below_size HBW.out) : w.heap.size ≤ gb102)); have GE102 := am ((Nat.le_trans HW0.out (by rw [hg]; exact (below_size HBW.out) : w.heap.size ≤ gb102) : w0.heap.size ≤ gb102)); replace HBW := am (below_step HBW.out hb); clear hb hg))
   go_ret
   exact ⟨_, rfl, (show IsS78 w0 _ gb102 (l0.take ((ji2) : Int).toNat) 0 from ⟨_, _, by exact BK102.out, GE102.out, HR101.out⟩), by exact HB.out, by exact HBW.out⟩
  ·
   rw [if_neg c4] at H; exact absurd H (by simp)
 ·
  rw [if_neg c3] at H; exact absurd H (by simp)
/-! ### trustquorummake_Tape_N: function 10 -/
def trustquorummake_Tape_N.f (s0_0 : List Int) (s0_1 : Int) (a1 : Int) : Option (Int × Int) := if s0_1 ≥ (s0_0.length : Int) then (some (0, s0_1)) else (if 0 ≤ s0_1 then (if s0_1 < (s0_0.length : Int) then (if a1 = 0 then (none) else (if (Int.tmod (rd s0_0 s0_1) a1) < 0 then (some (wrap64 ((Int.tmod (rd s0_0 s0_1) a1) + a1), wrap64 (s0_1 + 1))) else (some (Int.tmod (rd s0_0 s0_1) a1, wrap64 (s0_1 + 1))))) else (none)) else (none))
set_option maxHeartbeats 8000000 in
set_option maxRecDepth 100000 in
theorem trustquorummake_Tape_N.calls (g : Nat) (s0_0 : List Int) (s0_1 : Int) (a1 : Int) (r1 : Int) (r2 : Int) (w0 w : World) (hI : IsS78 w0 w g s0_0 s0_1) (hB : Below w0.heap.size w0 w) (h : trustquorummake_Tape_N.f s0_0 s0_1 a1 = some (r1, r2)) :
    Calls Try.prog 10 #[.pointer (some ⟨g, 0, none⟩), .int .i64 a1] w fun e w' => e = .returned (.int .i64 r1) ∧ IsS78 w0 w' g s0_0 r2 ∧ Below w0.heap.size w0 w' ∧ KeepBut w w' g none := by
 have HI0 := am hI; have HK := am (KeepBut.refl w g none); have HL := am hB.size; clear hI; have HW0 := am hB.size; have HB := am hB; clear hB; have H : (if s0_1 ≥ (s0_0.length : Int) then (some (0, s0_1)) else (if 0 ≤ s0_1 then (if s0_1 < (s0_0.length : Int) then (if a1 = 0 then (none) else (if (Int.tmod (rd s0_0 s0_1) a1) < 0 then (some (wrap64 ((Int.tmod (rd s0_0 s0_1) a1) + a1), wrap64 (s0_1 + 1))) else (some (Int.tmod (rd s0_0 s0_1) a1, wrap64 (s0_1 + 1))))) else (none)) else (none))) = some (r1, r2) := h; clear h
 by_cases c3 : s0_1 ≥ (s0_0.length : Int)
 ·
  rw [if_pos c3] at H; have c3b0 : decide ((s0_0.length : Int) ≤ s0_1) = true := decide_eq_true c3; clear c3; simp only [Option.some.injEq, Prod.mk.injEq] at H; obtain ⟨rfl, rfl⟩ := H; obtain ⟨ASz4_0, cSz4_0, HGz4, hgz4, HSz4_0⟩ := HI0.out; have hcz4_0 := cellS78_0 HGz4; have hcz4_1 := cellS78_1 HGz4; have hfz4_1 := blk_frozen HGz4 1; clear HGz4 hgz4
  go_enter Try.func10, Try.ntmps10
  go_wp2
  repeat (go_quiet (fail); try go_wp2)
  go_ret
  exact ⟨er, cl8, cl7, cl9⟩
 ·
  rw [if_neg c3] at H; have c3b0 : decide ((s0_0.length : Int) ≤ s0_1) = false := decide_eq_false c3; clear c3
  by_cases c5 : 0 ≤ s0_1
  ·
   rw [if_pos c5] at H; have c5b0 : decide (0 ≤ s0_1) = true := decide_eq_true c5; clear c5
   by_cases c6 : s0_1 < (s0_0.length : Int)
   ·
    rw [if_pos c6] at H; have c6b0 : decide (s0_1 < (s0_0.length : Int)) = true := decide_eq_true c6; clear c6
    by_cases c7 : a1 = 0
    ·
     rw [if_pos c7] at H; exact absurd H (by simp)
    ·
     rw [if_neg c7] at H; have c7b0 : (a1 == 0) = false := beq_eq_false_iff_ne.mpr c7; have c7b1 : (a1 != 0) = true := bne_iff_ne.mpr c7
     by_cases c8 : (Int.tmod (rd s0_0 s0_1) a1) < 0
     ·
      rw [if_pos c8] at H; have c8b0 : decide ((Int.tmod (rd s0_0 s0_1) a1) < 0) = true := decide_eq_true c8; clear c8; simp only [Option.some.injEq, Prod.mk.injEq] at H; obtain ⟨rfl, rfl⟩ := H; obtain ⟨ASz9_0, cSz9_0, HGz9, hgz9, HSz9_0⟩ := HI0.out; have hcz9_0 := cellS78_0 HGz9; have hcz9_1 := cellS78_1 HGz9; have hfz9_1 := blk_frozen HGz9 1; clear HGz9 hgz9; have p103 : 0 ≤ (s0_1 : Int) := od; have q103 : s0_1 < (s0_0.length : Int) := od; obtain ⟨ad103, e103, hx103_0⟩ := Kd.at_int HSz9_0 s0_1 p103 q103
      cases e103
      replace hx103_0 := pw_cell_below HB.out hx103_0; replace p103 := eq_true p103; replace q103 := eq_true q103
      go_enter Try.func10, Try.ntmps10
      go_wp2
      repeat (go_quiet (fail); try go_wp2)
      go_ret
      exact ⟨er, cl8, cl7, cl9⟩
     ·
      rw [if_neg c8] at H; have c8b0 : decide ((Int.tmod (rd s0_0 s0_1) a1) < 0) = false := decide_eq_false c8; clear c8; simp only [Option.some.injEq, Prod.mk.injEq] at H; obtain ⟨rfl, rfl⟩ := H; obtain ⟨ASz10_0, cSz10_0, HGz10, hgz10, HSz10_0⟩ := HI0.out; have hcz10_0 := cellS78_0 HGz10; have hcz10_1 := cellS78_1 HGz10; have hfz10_1 := blk_frozen HGz10 1; clear HGz10 hgz10; have p103 : 0 ≤ (s0_1 : Int) := od; have q103 : s0_1 < (s0_0.length : Int) := od; obtain ⟨ad103, e103, hx103_0⟩ := Kd.at_int HSz10_0 s0_1 p103 q103
      cases e103
      replace hx103_0 := pw_cell_below HB.out hx103_0; replace p103 := eq_true p103; replace q103 := eq_true q103
      go_enter Try.func10, Try.ntmps10
      go_wp2
      repeat (go_quiet (fail); try go_wp2)
      go_ret
      exact ⟨er, cl8, cl7, cl9⟩
   ·
    rw [if_neg c6] at H; exact absurd H (by simp)
  ·
   rw [if_neg c5] at H; exact absurd H (by simp)
/-! ### trustquorummake_Tape_Range: function 44 -/
def trustquorummake_Tape_Range.f (s0_0 : List Int) (s0_1 : Int) (a1 : Int) (a2 : Int) : Option (Int × Int) := (trustquorummake_Tape_N.f s0_0 s0_1 (wrap64 ((wrap64 (a2 - a1)) + 1))).bind fun bt104 => (some (wrap64 (a1 + bt104.1), bt104.2))
set_option maxHeartbeats 8000000 in
set_option maxRecDepth 100000 in
theorem trustquorummake_Tape_Range.calls (g : Nat) (s0_0 : List Int) (s0_1 : Int) (a1 : Int) (a2 : Int) (r1 : Int) (r2 : Int) (w0 w : World) (hI : IsS78 w0 w g s0_0 s0_1) (hB : Below w0.heap.size w0 w) (h : trustquorummake_Tape_Range.f s0_0 s0_1 a1 a2 = some (r1, r2)) :
    Calls Try.prog 44 #[.pointer (some ⟨g, 0, none⟩), .int .i64 a1, .int .i64 a2] w fun e w' => e = .returned (.int .i64 r1) ∧ IsS78 w0 w' g s0_0 r2 ∧ Below w0.heap.size w0 w' ∧ KeepBut w w' g none := by
 have HI0 := am hI; have HK := am (KeepBut.refl w g none); have HL := am hB.size; clear hI; have HW0 := am hB.size; have HB := am hB; clear hB; have H : ((trustquorummake_Tape_N.f s0_0 s0_1 (wrap64 ((wrap64 (a2 - a1)) + 1))).bind fun bt104 => (some (wrap64 (a1 + bt104.1), bt104.2))) = some (r1, r2) := h; clear h; replace H := Option.bind_eq_some_iff.mp H; obtain ⟨⟨t104, t105⟩, A40, H⟩ := H; replace H : (some (wrap64 (a1 + t104), t105)) = some (r1, r2) := H; have A4 := am A40; clear A40; simp only [Option.some.injEq, Prod.mk.injEq] at H; obtain ⟨rfl, rfl⟩ := H
 go_enter Try.func44, Try.ntmps44
 go_wp2_with (first | (refine gA (some 13) Try.func10 #[.pointer (some ⟨g, 0, none⟩), .int .i64 (wrap64 ((wrap64 (a2 - a1)) + 1))] ?_; (with_reducible refine (trustquorummake_Tape_N.calls g s0_0 s0_1 (wrap64 ((wrap64 (a2 - a1)) + 1)) t104 t105 w0 _ HI0.out HB.out A4.out).mono ?_); rintro e w5 ⟨rfl, hi, hb, hk⟩; refine ⟨_, rfl, ?_⟩; replace HK := am (KeepBut.trans HK.out hk (.inl rfl)); replace HB := am (hb); replace HI0 := am (hi); (try clear hb); (try clear hk); (try clear hi)))
 go_ret
 exact ⟨er, by exact HI0.out, by exact HB.out, by exact HK.out⟩
/-! ### trustquorummake_Tape_Pick: function 51 -/
def trustquorummake_Tape_Pick.f (s0_0 : List Int) (s0_1 : Int) (l1 : List Int) : Option (Int × Int) := (trustquorummake_Tape_N.f s0_0 s0_1 (l1.length : Int)).bind fun bt106 => (if 0 ≤ bt106.1 then (if bt106.1 < (l1.length : Int) then (some (rd l1 bt106.1, bt106.2)) else (none)) else (none))
set_option maxHeartbeats 8000000 in
set_option maxRecDepth 100000 in
theorem trustquorummake_Tape_Pick.calls (g : Nat) (s0_0 : List Int) (s0_1 : Int) (A1 : Option Addr) (c1 : Nat) (l1 : List Int) (r1 : Int) (r2 : Int) (w0 w : World) (hI : IsS78 w0 w g s0_0 s0_1) (hB : Below w0.heap.size w0 w) (hr1 : Kd.C (Kd.int .i64) w A1 l1.length l1) (hc1 : l1.length ≤ c1) (hf1 : ∀ ad, A1 = some ad → 0 < l1.length → ad.block ≠ g) (h : trustquorummake_Tape_Pick.f s0_0 s0_1 l1 = some (r1, r2)) :
    Calls Try.prog 51 #[.pointer (some ⟨g, 0, none⟩), .slice A1 l1.length c1] w fun e w' => e = .returned (.int .i64 r1) ∧ IsS78 w0 w' g s0_0 r2 ∧ Below w0.heap.size w0 w' ∧ KeepBut w w' g none := by
 have HR1 := am hr1; have HC1 := am hc1; clear hr1 hc1; have HI0 := am hI; have HK := am (KeepBut.refl w g none); have HL := am hB.size; clear hI; have HW0 := am hB.size; have HB := am hB; clear hB; have H : ((trustquorummake_Tape_N.f s0_0 s0_1 (l1.length : Int)).bind fun bt106 => (if 0 ≤ bt106.1 then (if bt106.1 < (l1.length : Int) then (some (rd l1 bt106.1, bt106.2)) else (none)) else (none))) = some (r1, r2) := h; clear h; replace H := Option.bind_eq_some_iff.mp H; obtain ⟨⟨t106, t107⟩, A30, H⟩ := H; replace H : (if 0 ≤ t106 then (if t106 < (l1.length : Int) then (some (rd l1 t106, t107)) else (none)) else (none)) = some (r1, r2) := H; have A3 := am A30; clear A30
 by_cases c4 : 0 ≤ t106
 ·
  rw [if_pos c4] at H; have c4b0 : decide (0 ≤ t106) = true := decide_eq_true c4; clear c4
  by_cases c5 : t106 < (l1.length : Int)
  ·
   rw [if_pos c5] at H; have c5b0 : decide (t106 < (l1.length : Int)) = true := decide_eq_true c5; clear c5; simp only [Option.some.injEq, Prod.mk.injEq] at H; obtain ⟨rfl, rfl⟩ := H
   go_enter Try.func51, Try.ntmps51
   go_wp2_with (first | (refine gA (some 9) Try.func10 #[.pointer (some ⟨g, 0, none⟩), .int .i64 (l1.length : Int)] ?_; (with_reducible refine (trustquorummake_Tape_N.calls g s0_0 s0_1 (l1.length : Int) t106 t107 w0 _ HI0.out HB.out A3.out).mono ?_); rintro e w6 ⟨rfl, hi, hb, hk⟩; refine ⟨_, rfl, ?_⟩; replace HK := am (KeepBut.trans HK.out hk (.inl rfl)); replace HB := am (hb); replace HI0 := am (hi); (try clear hb); (try clear hk); (try clear hi); have p108 : 0 ≤ (t106 : Int) := od; have q108 : t106 < (l1.length : Int) := od; obtain ⟨ad108, e108, hx108_0⟩ := Kd.at_int HR1.out t106 p108 q108; cases e108; replace hx108_0 := keep_cell HK.out hx108_0 (by first | (rw [add_block]; exact hf1 _ rfl (by omega)) | exact hf1 _ rfl (by omega) | exact hf1 ad108 rfl (by omega)); replace p108 := eq_true p108; replace q108 := eq_true q108))
   go_ret
   exact ⟨er, by exact HI0.out, by exact HB.out, by exact HK.out⟩
  ·
   rw [if_neg c5] at H; exact absurd H (by simp)
 ·
  rw [if_neg c4] at H; exact absurd H (by simp)
/-! ### trustquorummake_Tape_Order: function 94 -/
mutual
def trustquorummake_Tape_Order.l0 : Nat → Int → List Int → Int → List Int → Int → Option (List Int × Int)
  | 0, _, _, _, _, _ => none
  | k + 1, x1, x5, x6, x1000, x1001 => if x6 < x1 then (if x5.length < 17592186044416 then (trustquorummake_Tape_Order.l0 k x1 (x5 ++ [x6]) (wrap64 (x6 + 1)) x1000 x1001) else (none)) else (trustquorummake_Tape_Order.l1 k x5 (wrap64 (x1 - 1)) x1000 x1001)
def trustquorummake_Tape_Order.l1 : Nat → List Int → Int → List Int → Int → Option (List Int × Int)
  | 0, _, _, _, _ => none
  | k + 1, x5, x7, x1000, x1001 => if x7 > 0 then ((trustquorummake_Tape_N.f x1000 x1001 (wrap64 (x7 + 1))).bind fun bt112 => (if 0 ≤ bt112.1 then (if bt112.1 < (x5.length : Int) then (if 0 ≤ x7 then (if x7 < (x5.length : Int) then (trustquorummake_Tape_Order.l1 k ((x5.set (x7 : Int).toNat (rd x5 bt112.1)).set (bt112.1 : Int).toNat (rd x5 x7)) (wrap64 (x7 - 1)) x1000 bt112.2) else (none)) else (none)) else (none)) else (none))) else (some (x5, x1001))
end
def trustquorummake_Tape_Order.f (k : Nat) (s0_0 : List Int) (s0_1 : Int) (a1 : Int) : Option (List Int × Int) := trustquorummake_Tape_Order.l0 k a1 ([] : List Int) 0 s0_0 s0_1
theorem trustquorummake_Tape_Order.mono_l : ∀ k, (∀ y0 y1 y2 y3 y4, LeO (trustquorummake_Tape_Order.l0 k y0 y1 y2 y3 y4) (trustquorummake_Tape_Order.l0 (k + 1) y0 y1 y2 y3 y4)) ∧ (∀ y0 y1 y2 y3, LeO (trustquorummake_Tape_Order.l1 k y0 y1 y2 y3) (trustquorummake_Tape_Order.l1 (k + 1) y0 y1 y2 y3))
  | 0 => ⟨fun _ _ _ _ _ r h => by simp [trustquorummake_Tape_Order.l0] at h, fun _ _ _ _ r h => by simp [trustquorummake_Tape_Order.l1] at h⟩
  | k + 1 => by
    obtain ⟨ih0, ih1⟩ := trustquorummake_Tape_Order.mono_l k
    refine ⟨?_, ?_⟩
    · intro y0 y1 y2 y3 y4
      unfold trustquorummake_Tape_Order.l0
      repeat' first
      | (with_reducible exact ih0 _ _ _ _ _)
      | (with_reducible exact ih1 _ _ _ _)
      | (with_reducible exact LeO.refl _)
      | (with_reducible exact LeO.none _)
      | (with_reducible refine LeO.ite ?_ ?_)
      | (with_reducible refine LeO.bind ?_ (fun _ => ?_))
      | exact ih0 _ _ _ _ _
      | exact ih1 _ _ _ _
      | exact LeO.none _
      | refine LeO.ite ?_ ?_
      | refine LeO.bind ?_ (fun _ => ?_)
    · intro y0 y1 y2 y3
      unfold trustquorummake_Tape_Order.l1
      repeat' first
      | (with_reducible exact ih0 _ _ _ _ _)
      | (with_reducible exact ih1 _ _ _ _)
      | (with_reducible exact LeO.refl _)
      | (with_reducible exact LeO.none _)
      | (with_reducible refine LeO.ite ?_ ?_)
      | (with_reducible refine LeO.bind ?_ (fun _ => ?_))
      | exact ih0 _ _ _ _ _
      | exact ih1 _ _ _ _
      | exact LeO.none _
      | refine LeO.ite ?_ ?_
      | refine LeO.bind ?_ (fun _ => ?_)
theorem trustquorummake_Tape_Order.mono : ∀ a0 a1 a2 k, LeO (trustquorummake_Tape_Order.f k a0 a1 a2) (trustquorummake_Tape_Order.f (k + 1) a0 a1 a2) := by
  intro a0 a1 a2 k
  obtain ⟨ih0, ih1⟩ := trustquorummake_Tape_Order.mono_l k
  unfold trustquorummake_Tape_Order.f
  repeat' first
      | (with_reducible exact ih0 _ _ _ _ _)
      | (with_reducible exact ih1 _ _ _ _)
      | (with_reducible exact LeO.refl _)
      | (with_reducible exact LeO.none _)
      | (with_reducible refine LeO.ite ?_ ?_)
      | (with_reducible refine LeO.bind ?_ (fun _ => ?_))
      | exact ih0 _ _ _ _ _
      | exact ih1 _ _ _ _
      | exact LeO.none _
      | refine LeO.ite ?_ ?_
      | refine LeO.bind ?_ (fun _ => ?_)
def trustquorummake_Tape_Order.T10 : Bool × List (List Nat × List Nat) := (true, [([], []), ([], []), ([], []), ([], []), ([], []), ([], []), ([4, 5], [4, 5]), ([6], [6]), ([], []), ([], []), ([8, 9], [8, 9]), ([10], [10]), ([0, 1, 0, 1, 4, 5, 6, 7, 11], [0, 1]), ([12, 7, 0, 1, 4, 5, 6, 7, 11], [7, 12]), ([2, 3, 0, 1, 2, 3, 4, 5, 6, 7, 8, 9, 10, 11, 12, 13], [2, 3]), ([14, 11, 13, 0, 1, 2, 3, 4, 5, 6, 7, 8, 9, 10, 11, 12, 13], [11, 14])])
def trustquorummake_Tape_Order.B10 : List Nat := [0, 0, 0, 0, 0, 0, 48, 112, 0, 0, 768, 1792, 4083, 8179, 16383, 32767]
theorem trustquorummake_Tape_Order.tab10 : rtab .any (opsOf Try.f94 10) = trustquorummake_Tape_Order.T10 := by kernel_rfl
theorem trustquorummake_Tape_Order.bits10 : waitsOk trustquorummake_Tape_Order.T10.2 trustquorummake_Tape_Order.B10 = true := by kernel_rfl
set_option maxHeartbeats 8000000 in
set_option maxRecDepth 100000 in
theorem trustquorummake_Tape_Order.calls (k : Nat) (g : Nat) (s0_0 : List Int) (s0_1 : Int) (a1 : Int) (r1 : List Int) (r2 : Int) (w0 w : World) (hI : IsS78 w0 w g s0_0 s0_1) (hB : Below w0.heap.size w0 w) (h : trustquorummake_Tape_Order.f k s0_0 s0_1 a1 = some (r1, r2)) :
    Calls Try.prog 94 #[.pointer (some ⟨g, 0, none⟩), .int .i64 a1] w fun e w' => ∃ v0_ : Value, e = .returned (v0_) ∧ Kd.R (Kd.int .i64) 3 w' w.heap.size (fun _ => True) v0_ r1 ∧ IsS78 w0 w' g s0_0 r2 ∧ Below w0.heap.size w0 w' ∧ KeepBut w w' g none := by
 have HI0 := am hI; have HK := am (KeepBut.refl w g none); have HL := am hB.size; clear hI; have HW0 := am hB.size; have HB := am hB; clear hB; have H : (trustquorummake_Tape_Order.l0 k a1 ([] : List Int) 0 s0_0 s0_1) = some (r1, r2) := h; clear h; have H' := am H; clear H
 go_enter Try.func94, Try.ntmps94
 go_wp2
 go_loopg [5, 6] k (fun kq v5 v6 w' => ∃ (x5_1 : List Int) (x6_1 : Int), v6 = .int .i64 x6_1 ∧ Aside0 (trustquorummake_Tape_Order.l0 kq a1 x5_1 x6_1 s0_0 s0_1 = some (r1, r2)) ∧ Aside0 (kq ≤ k) ∧ Aside0 (Kd.R (Kd.int .i64) 3 w' w.heap.size (fun _ => True) v5 x5_1) ∧ Aside0 (IsS78 w0 w' g s0_0 s0_1) ∧ Aside0 (KeepBut w w' g none) ∧ Aside0 (Below w0.heap.size w0 w'))
 case atStart => exact ⟨(([] : List Int)), (0), ar, H', ⟨Nat.le_refl _⟩, ⟨by first | exact Kd.R_nil _ _ _ _ _ | exact Kd.N_nil _ _ _ _ _ | exact Kd.V_nil _ _ _ _ _ | exact Kd.Q_nil _ _ _ _ _ | exact Kd.S_nil _ _ _ _ _⟩, ⟨by exact HI0.out⟩, ⟨by exact HK.out⟩, ⟨by exact HB.out⟩⟩
 case round =>
  clear H'; (try clear p2); obtain ⟨x5_1, x6_1, rfl, HA, HK1, HO_5, HI0, HK, HB⟩ := hrel
  cases gk with
  | zero => exact absurd HA.out (by simp [trustquorummake_Tape_Order.l0])
  | succ k1 =>
   have H := HA.out; clear HA; simp only [trustquorummake_Tape_Order.l0] at H
   by_cases c3 : x6_1 < a1
   ·
    rw [if_pos c3] at H; have c3b0 : decide (x6_1 < a1) = true := decide_eq_true c3; clear c3
    by_cases c4 : x5_1.length < 17592186044416
    ·
     rw [if_pos c4] at H; have LMc4 := am c4; clear c4; obtain ⟨y109, hy109⟩ : ∃ y_ : List Int, y_ = (x5_1 ++ [x6_1]) := ⟨_, rfl⟩; replace H : (trustquorummake_Tape_Order.l0 k1 a1 y109 (wrap64 (x6_1 + 1)) s0_0 s0_1) = some (r1, r2) := by first | (rw [hy109]; with_reducible exact H) | (have H2_ := (Option.bind_some _ _).symm.trans H; rw [hy109]; with_reducible exact H2_) | (have H2_ := (Option.bind_some _ _).symm.trans H; with_reducible exact H2_) | with_reducible exact H | (rw [hy109]; exact H) | exact H
     have Ny109 := am hy109; clear hy109; have H' := am H; clear H
     go_wp2_with (first | ((with_reducible refine gate_builtin (b := .append) (xs := #[.tmp 14, .tmp 16]) rfl ?_); at_builtin; refine Kd.R_append (Kd.int .i64) w.heap.size rfl (.tmp 14) (.tmp 16) 22 3 (.int .i64 0) 8 rfl Try.underlying22 info3 rfl (by decide) (by omega) u5 x5_1 x6_1 [.int .i64 x6_1] (fun _ => True) (fun _ => False) rfl rfl ?aP (fun _ hk => hk.elim) ?aF ?aO (Below.refl _ _) ?aS ?aL ?_; (case aP => exact rfl); (case aF => exact (fun _ _ => trivial)); (case aO => exact HO_5.out); (case aS => exact (keep_size (w := w) (g := g) (row := none) HK.out)); (case aL => have := LMc4.out; omega); intro v110 w5 ho hb hg hat; rw [← Ny109.out] at ho; replace HI0 := am (IsS78.grown HI0.out hg (IsS78.own_ne HI0.out HO_5.out (by decide))); replace HB := am (below_weaken HB.out HL.out hb); replace HK := am (KeepBut.trans HK.out (KeepBut.of_grown hg g) (Kd.R_base2 HO_5.out)); have HO111 := am (ho); clear HO_5; clear ho hb hg hat))
     go_roundg k1
     case measure => have := HK1.out; omega
     case rel => exact ⟨(y109), (wrap64 (x6_1 + 1)), ar, H', ⟨by have := HK1.out; omega⟩, ⟨by exact HO111.out⟩, ⟨by exact HI0.out⟩, ⟨by exact HK.out⟩, ⟨by exact HB.out⟩⟩
    ·
     rw [if_neg c4] at H; exact absurd H (by simp)
   ·
    rw [if_neg c3] at H; have c3b0 : decide (x6_1 < a1) = false := decide_eq_false c3; clear c3; have H' := am H; clear H
    go_wp2
    go_loopg [7] k1 (fun kq v7 w' => ∃ (x5_2 : List Int) (x7_2 : Int) (x1001_2 : Int), v7 = .int .i64 x7_2 ∧ Aside0 (trustquorummake_Tape_Order.l1 kq x5_2 x7_2 s0_0 x1001_2 = some (r1, r2)) ∧ Aside0 (kq ≤ k1) ∧ Aside0 (Kd.R (Kd.int .i64) 3 w' w.heap.size (fun _ => True) u5 x5_2) ∧ Aside0 (IsS78 w0 w' g s0_0 x1001_2) ∧ Aside0 (KeepBut w w' g none) ∧ Aside0 (Below w0.heap.size w0 w'))
    case atStart => exact ⟨(x5_1), (wrap64 (a1 - 1)), (s0_1), ar, H', ⟨Nat.le_refl _⟩, ⟨by exact HO_5.out⟩, ⟨by exact HI0.out⟩, ⟨by exact HK.out⟩, ⟨by exact HB.out⟩⟩
    case round =>
     clear H'; (try clear p2); (try clear c3); (try clear c3b0); (try clear c4); (try clear p2); obtain ⟨x5_2, x7_2, x1001_2, rfl, HA, HK2, HO_5, HI0, HK, HB⟩ := hrel
     cases gk with
     | zero => exact absurd HA.out (by simp [trustquorummake_Tape_Order.l1])
     | succ k2 =>
      have H := HA.out; clear HA; simp only [trustquorummake_Tape_Order.l1] at H
      by_cases c6 : x7_2 > 0
      ·
       rw [if_pos c6] at H; have c6b0 : decide (0 < x7_2) = true := decide_eq_true c6; clear c6; replace H := Option.bind_eq_some_iff.mp H; obtain ⟨⟨t112, t113⟩, A70, H⟩ := H; replace H : (if 0 ≤ t112 then (if t112 < (x5_2.length : Int) then (if 0 ≤ x7_2 then (if x7_2 < (x5_2.length : Int) then (trustquorummake_Tape_Order.l1 k2 ((x5_2.set (x7_2 : Int).toNat (rd x5_2 t112)).set (t112 : Int).toNat (rd x5_2 x7_2)) (wrap64 (x7_2 - 1)) s0_0 t113) else (none)) else (none)) else (none)) else (none)) = some (r1, r2) := H; have A7 := am A70; clear A70
       by_cases c8 : 0 ≤ t112
       ·
        rw [if_pos c8] at H; have c8b0 : decide (0 ≤ t112) = true := decide_eq_true c8; clear c8
        by_cases c9 : t112 < (x5_2.length : Int)
        ·
         rw [if_pos c9] at H; have c9b0 : decide (t112 < (x5_2.length : Int)) = true := decide_eq_true c9; clear c9
         by_cases c10 : 0 ≤ x7_2
         ·
          rw [if_pos c10] at H; have c10b0 : decide (0 ≤ x7_2) = true := decide_eq_true c10; clear c10
          by_cases c11 : x7_2 < (x5_2.length : Int)
          ·
           rw [if_pos c11] at H; have c11b0 : decide (x7_2 < (x5_2.length : Int)) = true := decide_eq_true c11; clear c11; obtain ⟨y116, hy116⟩ : ∃ y_ : List Int, y_ = (x5_2.set (x7_2 : Int).toNat (rd x5_2 t112)) := ⟨_, rfl⟩; replace H : (trustquorummake_Tape_Order.l1 k2 (y116.set (t112 : Int).toNat (rd x5_2 x7_2)) (wrap64 (x7_2 - 1)) s0_0 t113) = some (r1, r2) := by first | (rw [hy116]; with_reducible exact H) | (have H2_ := (Option.bind_some _ _).symm.trans H; rw [hy116]; with_reducible exact H2_) | (have H2_ := (Option.bind_some _ _).symm.trans H; with_reducible exact H2_) | with_reducible exact H | (rw [hy116]; exact H) | exact H
           have Ny116 := am hy116; clear hy116; obtain ⟨y117, hy117⟩ : ∃ y_ : List Int, y_ = (y116.set (t112 : Int).toNat (rd x5_2 x7_2)) := ⟨_, rfl⟩; replace H : (trustquorummake_Tape_Order.l1 k2 y117 (wrap64 (x7_2 - 1)) s0_0 t113) = some (r1, r2) := by first | (rw [hy117]; with_reducible exact H) | (have H2_ := (Option.bind_some _ _).symm.trans H; rw [hy117]; with_reducible exact H2_) | (have H2_ := (Option.bind_some _ _).symm.trans H; with_reducible exact H2_) | with_reducible exact H | (rw [hy117]; exact H) | exact H
           have Ny117 := am hy117; clear hy117; have H' := am H; clear H
           try go_wp2_with (first | (refine gA (some 27) Try.func10 #[.pointer (some ⟨g, 0, none⟩), .int .i64 (wrap64 (x7_2 + 1))] ?_; (with_reducible refine (trustquorummake_Tape_N.calls g s0_0 x1001_2 (wrap64 (x7_2 + 1)) t112 t113 w0 _ HI0.out HB.out A7.out).mono ?_); rintro e w14 ⟨rfl, hi, hb, hk⟩; refine ⟨_, rfl, ?_⟩; replace HO_5 := am (Kd.R_mono (Kd.R_keep (IsS78.apart (show IsS78 w0 _ g s0_0 x1001_2 from by exact HI0.out) HO_5.out (by decide)) hk (fun _ h => h.2)) (fun _ h => h.1)); replace HK := am (KeepBut.trans HK.out hk (.inl rfl)); replace HB := am (hb); replace HI0 := am (hi); (try clear hb); (try clear hk); (try clear hi)))
           replace HO_5 := am (Kd.R_drew HO_5.out); replace HI0 := am (IsS78.drew HI0.out); replace HK := am (keep_drew HK.out); replace HB := am (below_drew1 HB.out); obtain ⟨Ao16, co16, eo16⟩ := Kd.R_slice HO_5.out; (first | subst eo16 | (injection eo16 with f1_ f2_ f3_; have f4_ := f1_.symm; have f5_ := f3_.symm; clear f1_ f2_ f3_; subst f4_; subst f5_)); have p114 : 0 ≤ (t112 : Int) := od; have q114 : t112 < (x5_2.length : Int) := od; obtain ⟨ad114, e114, hx114_0⟩ := Kd.at_int (Kd.R_reads' HO_5.out).2.2 t112 p114 q114
           cases e114
           replace p114 := eq_true p114; replace q114 := eq_true q114; have p115 : 0 ≤ (x7_2 : Int) := od; have q115 : x7_2 < (x5_2.length : Int) := od; obtain ⟨ad115, e115, hx115_0⟩ := Kd.at_int (Kd.R_reads' HO_5.out).2.2 x7_2 p115 q115; obtain rfl : ad114 = ad115 := (by injection e115); replace p115 := eq_true p115; replace q115 := eq_true q115; have p12 : 0 ≤ (x7_2 : Int) := od; have q12 : (x7_2 : Int) < ((x5_2.length : Int) : Int) := od; obtain ⟨go12, co12, eo12, gb12, gl12, cl12, HG12⟩ := Kd.R_form HO_5.out (by omega); (first | cases eo12 | (injection eo12 with ea_ en_ ec_; (first | subst ea_ | (injection ea_ with ea_; subst ea_)); subst ec_; clear en_)); have GB12 := am gb12; have GG12 := am HG12; clear gb12 gl12 HG12; (first | simp only [add_plain] at hx114_0 | skip); (first | simp only [add_plain] at hx115_0 | skip); obtain ⟨hx12_0, hf12_0⟩ := Kd.R_celln 0 HO_5.out (x7_2 : Int) p12 q12; replace p12 := eq_true p12; replace q12 := eq_true q12; have HN0_go12 := am (show g ≠ go12 from by have h_ := IsS78.own_ne HI0.out HO_5.out (by decide); intro e_; exact h_ (by rw [e_]; rfl)); have HP17 := Kd.R_putn HO_5.out (x7_2 : Int) (rd x5_2 t112); rw [← Ny116.out] at HP17; have HQ17 := am HP17
           clear HP17; have p13 : 0 ≤ (t112 : Int) := od; have q13 : (t112 : Int) < ((x5_2.length : Int) : Int) := od; obtain ⟨hx13_0, hf13_0⟩ := Kd.R_celln 0 HQ17.out (t112 : Int) p13 q13; replace p13 := eq_true p13; replace q13 := eq_true q13; have HN0_go12 := am (show g ≠ go12 from by have h_ := IsS78.own_ne HI0.out HO_5.out (by decide); intro e_; exact h_ (by rw [e_]; rfl)); have HP18 := Kd.R_putn HQ17.out (t112 : Int) (rd x5_2 x7_2); rw [← Ny117.out] at HP18; have HQ18 := am HP18; clear HP18; refine start_ (n := 16) (S := fun w' => w'.cell? ⟨go12, (t112).toNat, none⟩ = some (.int .i64 (rd x5_2 t112)) ∧ w'.cell? ⟨go12, (x7_2).toNat, none⟩ = some (.int .i64 (rd x5_2 x7_2))) (ds := [13, 15]) #[false, false, false, false, false, false, false, false, false, false, false, false, false, false, false, false] (by kernel_rfl) rfl rfl ⟨hx114_0, hx115_0⟩ (fun hHeld => ?_); refine with_tabW trustquorummake_Tape_Order.tab10 trustquorummake_Tape_Order.bits10 (fun HT_ HW_ => ?_); generalize w14.drew = w15 at HO_5 HI0 HK HB GG12 HQ17 HQ18 hf12_0 hf13_0 hx114_0 hx115_0 hx12_0 hx13_0 hHeld ⊢; refine pq (i := 0) (N := some 28) HT_ ?_
           refine pq (i := 1) (N := some 29) HT_ ?_
           refine pq (i := 2) (N := some 30) HT_ ?_
           refine pq (i := 3) (N := some 31) HT_ ?_
           refine pq (i := 4) (N := some 32) HT_ ?_
           refine pq (i := 5) (N := some 33) HT_ ?_
           refine pq (i := 6) (N := some 34) HT_ ?_
           refine pq (i := 8) (N := some 36) HT_ ?_
           refine pq (i := 9) (N := some 37) HT_ ?_
           refine pq (i := 10) (N := some 38) HT_ ?_
           refine tq (i := 7) (N := some 35) HT_ HW_ hHeld ?_
           refine tq (i := 11) (N := some 39) HT_ HW_ hHeld ?_
           refine pq (i := 12) (N := some 40) HT_ ?_
           refine last_ (i := 13) (N := none) #[true, true, true, true, true, true, true, true, true, true, true, true, true, true, false, false] rfl rfl (one_of HT_.out (by kernel_rfl)) (by decide) (fun K hK => ?_); refine skip_ (w1 := ?_) (by rfl) rfl ?_ ?_; rotate_left
           ·
            go_simp; rfl
           refine hK.out _ _ ?_; clear hK K; refine pq (i := 14) (N := some 41) HT_ ?_
           refine last_ (i := 15) (N := none) #[true, true, true, true, true, true, true, true, true, true, true, true, true, true, true, true] rfl rfl (one_of HT_.out (by kernel_rfl)) (by decide) (fun K hK => ?_); refine skip_ (w1 := ?_) (by rfl) rfl ?_ ?_; rotate_left
           ·
            go_simp; rfl
           refine hK.out _ _ ?_; clear hK K; refine done_ (done_of HT_.out (by kernel_rfl)) ?_
           try go_wp2
           go_roundg k2
           case measure => have := HK1.out; have := HK2.out; omega
           case rel => exact ⟨(y117), (wrap64 (x7_2 - 1)), (t113), ar, H', ⟨by have := HK1.out; have := HK2.out; omega⟩, ⟨by exact HQ18.out⟩, ⟨cl1⟩, ⟨by repeat (first | (with_reducible first | exact HK.out | apply KeepBut.set_ | apply keep_drewN | apply keep_drew | apply keep_alloc | refine keep_far ?_ GB12.out _) | exact HK.out)⟩, ⟨by repeat (first | (with_reducible first | exact HB.out | apply below_alloc | apply pw_below_drewN | apply below_drew1 | refine below_set ?_ (Nat.le_trans HL.out GB12.out) | refine below_set ?_ (IsS78.ge HI0.out)) | exact HB.out)⟩⟩
          ·
           rw [if_neg c11] at H; exact absurd H (by simp)
         ·
          rw [if_neg c10] at H; exact absurd H (by simp)
        ·
         rw [if_neg c9] at H; exact absurd H (by simp)
       ·
        rw [if_neg c8] at H; exact absurd H (by simp)
      ·
       rw [if_neg c6] at H; have c6b0 : decide (0 < x7_2) = false := decide_eq_false c6; clear c6; simp only [Option.some.injEq, Prod.mk.injEq] at H; obtain ⟨rfl, rfl⟩ := H
       go_wp2
       go_ret
       exact ⟨_, by first | rfl | (simp [errW_none, errW_some] <;> rfl) | (simp [*, errW_none, errW_some] <;> rfl), by exact HO_5.out, by exact HI0.out, by exact HB.out, by exact HK.out⟩
end Go.Proofs.Ytmeamdklonmahaa.QFederatedSafe
