/- Lean functions that answer as the Go functions do which the law reaches, and proofs that the Go code comes to exactly these answers. Conditions: those that each theorem names. -/
import Derived.Test.YtmeamdklonmahaaQFederatedViewx0
namespace Go.Proofs.Ytmeamdklonmahaa.QFederatedView
open Go.RowKit Go.Proofs.YtmeamdklonmahaaW.PrintWords Go.Proofs.YtmeamdklonmahaaW.PrintLast Go.Proofs.YtmeamdklonmahaaW.PrintMore
attribute [local go_sem] max2_int min2_int max_two min_two max_three min_three max_four min_four   -- for this text's walks alone
set_option linter.unusedVariables false
set_option linter.unusedSimpArgs false

/-- A state of type 78 at block g of W; what its slices lead to came in by w0. -/
def IsS78 (w0 W : World) (g : Nat) (f0 : List Int) (f1 : Int) : Prop := ∃ A0 c0, W.heap[g]? = some (.cells #[.slice A0 f0.length c0, .int .i64 f1] 78 (0, 0)) ∧ w0.heap.size ≤ g ∧ Kd.C (Kd.int .i64) w0 A0 f0.length f0
theorem IsS78.grown {w0 W : World} {g : Nat} {f0 : List Int} {f1 : Int} {W1 : World} {row : Option Nat} (h : IsS78 w0 W g f0 f1) (hw : W.grownBy W1 row) (hne : some g ≠ row) : IsS78 w0 W1 g f0 f1 := by
  obtain ⟨A0, c0, hb, hg, hr0⟩ := h
  exact ⟨A0, c0, blk_grown hb hw hne, hg, hr0⟩
theorem IsS78.own_neN {w0 W : World} {g : Nat} {f0 : List Int} {f1 : Int} {α : Type} {d : Kd α} {e : Nat} {base : Nat} {ok : Nat → Prop} {v : Value} {xs : List α} (h : IsS78 w0 W g f0 f1) (ho : Kd.N d e W base ok v xs) (ht : e ≠ 78) : some g ≠ v.ownBlock := by
  obtain ⟨A0, c0, hb, hg, hr0⟩ := h
  exact Kd.N_ne ho hb ht
theorem IsS78.fresh {w0 W : World} {g : Nat} {f0 : List Int} {f1 : Int} (h : IsS78 w0 W g f0 f1) : ∀ k, W.heap.size ≤ k → k ≠ g := by
  obtain ⟨A0, c0, hb, hg, hr0⟩ := h
  exact Kd.freshB hb
theorem IsS78.kept {w0 W : World} {g : Nat} {f0 : List Int} {f1 : Int} {W1 : World} {S : Nat → Prop} (h : IsS78 w0 W g f0 f1) (hk : Kept W W1 S) (hne : ¬ S g) : IsS78 w0 W1 g f0 f1 := by
  obtain ⟨A0, c0, hb, hg, hr0⟩ := h
  exact ⟨A0, c0, blk_kept hb hk hne, hg, hr0⟩
theorem IsS78.below {w0 W : World} {g : Nat} {f0 : List Int} {f1 : Int} {W1 : World} (h : IsS78 w0 W g f0 f1) (hw : Below W.heap.size W W1) : IsS78 w0 W1 g f0 f1 := h.grown (grown_of_below hw none) (by simp)
theorem IsS78.alloc {w0 W : World} {g : Nat} {f0 : List Int} {f1 : Int} (h : IsS78 w0 W g f0 f1) (o : Obj) : IsS78 w0 (W.alloc o) g f0 f1 := h.below (below_alloc (Below.refl _ _) o)
theorem IsS78.drewN {w0 W : World} {g : Nat} {f0 : List Int} {f1 : Int} (h : IsS78 w0 W g f0 f1) (m : Nat) : IsS78 w0 (W.drewN m) g f0 f1 := h
theorem IsS78.drew {w0 W : World} {g : Nat} {f0 : List Int} {f1 : Int} (h : IsS78 w0 W g f0 f1) : IsS78 w0 W.drew g f0 f1 := h
theorem IsS78.at_ {w0 W : World} {g : Nat} {f0 : List Int} {f1 : Int} {w' : World} {m : Nat} (hq : W.drewN m = w') (h : IsS78 w0 W g f0 f1) : IsS78 w0 w' g f0 f1 := by subst hq; exact IsS78.drewN h m
theorem IsS78.apart {w0 W : World} {g : Nat} {f0 : List Int} {f1 : Int} {α : Type} {d : Kd α} {e : Nat} {base : Nat} {ok : Nat → Prop} {v : Value} {xs : List α} (h : IsS78 w0 W g f0 f1) (ho : d.R e W base ok v xs) (ht : ∀ q, q ∈ e :: d.E → q ≠ 78) : d.R e W base (fun k => ok k ∧ k ≠ g) v xs := by
  obtain ⟨A0, c0, hb, hg, hr0⟩ := h
  exact Kd.R_types ho hb ht
theorem IsS78.own_ne {w0 W : World} {g : Nat} {f0 : List Int} {f1 : Int} {α : Type} {d : Kd α} {e : Nat} {base : Nat} {ok : Nat → Prop} {v : Value} {xs : List α} (h : IsS78 w0 W g f0 f1) (ho : d.R e W base ok v xs) (ht : e ≠ 78) : some g ≠ v.ownBlock := by
  obtain ⟨A0, c0, hb, hg, hr0⟩ := h
  exact Kd.R_ne ho hb ht
theorem IsS78.apartQ {w0 W : World} {g : Nat} {f0 : List Int} {f1 : Int} {α : Type} {d : Kd α} {e : Nat} {base : Nat} {ok : Nat → Prop} {v : Value} {xs : List α} (h : IsS78 w0 W g f0 f1) (ho : d.Q e W base ok v xs) (ht : ∀ q, q ∈ e :: d.E → q ≠ 78) : d.Q e W base (fun k => ok k ∧ k ≠ g) v xs := by
  obtain ⟨A0, c0, hb, hg, hr0⟩ := h
  exact Kd.Q_types ho hb ht
theorem IsS78.own_neQ {w0 W : World} {g : Nat} {f0 : List Int} {f1 : Int} {α : Type} {d : Kd α} {e : Nat} {base : Nat} {ok : Nat → Prop} {v : Value} {xs : List α} (h : IsS78 w0 W g f0 f1) (ho : d.Q e W base ok v xs) (ht : e ≠ 78) : some g ≠ v.ownBlock := by
  obtain ⟨A0, c0, hb, hg, hr0⟩ := h
  exact Kd.Q_ne ho hb ht
theorem IsS78.apartS {w0 W : World} {g : Nat} {f0 : List Int} {f1 : Int} {α : Type} {d : Kd α} {e : Nat} {base : Nat} {ok : Nat → Prop} {v : Value} {xs : List α} (h : IsS78 w0 W g f0 f1) (ho : d.S e W base ok v xs) (ht : ∀ q, q ∈ e :: d.E → q ≠ 78) : d.S e W base (fun k => ok k ∧ k ≠ g) v xs := by
  obtain ⟨A0, c0, hb, hg, hr0⟩ := h
  exact Kd.S_types ho hb ht
theorem IsS78.own_neS {w0 W : World} {g : Nat} {f0 : List Int} {f1 : Int} {α : Type} {d : Kd α} {e : Nat} {base : Nat} {ok : Nat → Prop} {v : Value} {xs : List α} (h : IsS78 w0 W g f0 f1) (ho : d.S e W base ok v xs) (ht : e ≠ 78) : some g ≠ v.ownBlock := by
  obtain ⟨A0, c0, hb, hg, hr0⟩ := h
  exact Kd.S_ne ho hb ht
theorem IsS78.lt {w0 W : World} {g : Nat} {f0 : List Int} {f1 : Int} (h : IsS78 w0 W g f0 f1) : g < W.heap.size := by
  obtain ⟨A0, c0, hb, hg, hr0⟩ := h
  exact blk_lt hb
theorem IsS78.ge {w0 W : World} {g : Nat} {f0 : List Int} {f1 : Int} (h : IsS78 w0 W g f0 f1) : w0.heap.size ≤ g := by
  obtain ⟨A0, c0, hb, hg, hr0⟩ := h
  exact hg
theorem IsS78.ne_blk {w0 W : World} {g : Nat} {f0 : List Int} {f1 : Int} {a : Nat} {cs : Array Value} {t : TypeId} {fr : Nat × Nat} (h : IsS78 w0 W g f0 f1) (hb2 : W.heap[a]? = some (.cells cs t fr)) (ht : t ≠ 78) : g ≠ a := by
  obtain ⟨A0, c0, hb, hg, hr0⟩ := h
  rintro rfl
  rw [hb] at hb2
  injection hb2 with hb2
  injection hb2 with _ ht2
  exact ht ht2.symm
theorem IsS78.far {w0 W : World} {g : Nat} {f0 : List Int} {f1 : Int} {p : Addr} (h : IsS78 w0 W g f0 f1) (hne : g ≠ p.block) (u : Value) : IsS78 w0 (W.setCell p u) g f0 f1 := by
  obtain ⟨A0, c0, hb, hg, hr0⟩ := h
  exact ⟨A0, c0, blk_far hb hne u, hg, hr0⟩
theorem cellS78_0 {W : World} {g : Nat} {A0 : Option Addr} {c0 : Nat} {f0 : List Int} {f1 : Int} (h : W.heap[g]? = some (.cells #[.slice A0 f0.length c0, .int .i64 f1] 78 (0, 0))) : W.cell? ⟨g, 0, none⟩ = some (.slice A0 f0.length c0) := (blk_cell h 0).trans rfl
theorem cellS78_1 {W : World} {g : Nat} {A0 : Option Addr} {c0 : Nat} {f0 : List Int} {f1 : Int} (h : W.heap[g]? = some (.cells #[.slice A0 f0.length c0, .int .i64 f1] 78 (0, 0))) : W.cell? ⟨g, 1, none⟩ = some (.int .i64 f1) := (blk_cell h 1).trans rfl
theorem IsS78.set_1 {w0 W : World} {g : Nat} {f0 : List Int} {f1 : Int} (h : IsS78 w0 W g f0 f1) (x : Int) : IsS78 w0 (W.setCell ⟨g, 1, none⟩ (.int .i64 x)) g f0 x := by
  obtain ⟨A0, c0, hb, hg, hr0⟩ := h
  exact ⟨A0, c0, by simpa using blk_set hb 1 (.int .i64 x), hg, hr0⟩
theorem IsS78.new (w0 W : World) (A0 : Option Addr) (c0 : Nat) (f0 : List Int) (f1 : Int) (hB : Below w0.heap.size w0 W) (hr0 : Kd.C (Kd.int .i64) w0 A0 f0.length f0) : IsS78 w0 (W.alloc (.cells #[.slice A0 f0.length c0, .int .i64 f1] 78)) W.heap.size f0 f1 := ⟨A0, c0, by simpa using heap_alloc_new W _, hB.size, hr0⟩

/-! ### trustquorummake_New: function 8 -/
def trustquorummake_New.f (l0 : List Int) : Option (List Int × Int) := if 0 ≤ (mn (l0.length : Int) 400) then (if (mn (l0.length : Int) 400) ≤ (l0.length : Int) then (some (l0.take ((mn (l0.length : Int) 400) : Int).toNat, 0)) else (none)) else (none)
set_option maxHeartbeats 8000000 in
set_option maxRecDepth 100000 in
theorem trustquorummake_New.calls (A0 : Option Addr) (c0 : Nat) (l0 : List Int) (r1 : List Int) (r2 : Int) (w0 w : World) (hB : Below w0.heap.size w0 w) (hr0 : Kd.C (Kd.int .i64) w0 A0 l0.length l0) (hc0 : l0.length ≤ c0) (h : trustquorummake_New.f l0 = some (r1, r2)) :
    Calls Try.prog 8 #[.slice A0 l0.length c0] w fun e w' => ∃ g_ : Nat, e = .returned (.pointer (some ⟨g_, 0, none⟩)) ∧ IsS78 w0 w' g_ r1 r2 ∧ Below w0.heap.size w0 w' ∧ Below w.heap.size w w' := by
 have hu78 := Try.underlying78; have HR0 := Aside0.mk hr0; have HC0 := Aside0.mk hc0; clear hr0 hc0; have HBW := Aside0.mk (Below.refl w.heap.size w); have HW0 := Aside0.mk hB.size; have HB := Aside0.mk hB; clear hB; have H : (if 0 ≤ (mn (l0.length : Int) 400) then (if (mn (l0.length : Int) 400) ≤ (l0.length : Int) then (some (l0.take ((mn (l0.length : Int) 400) : Int).toNat, 0)) else (none)) else (none)) = some (r1, r2) := h; clear h; obtain ⟨ji2, hji2⟩ : ∃ j_ : Int, (mn (l0.length : Int) 400) = j_ := ⟨_, rfl⟩; replace H : (if 0 ≤ (ji2) then (if (ji2) ≤ (l0.length : Int) then (some (l0.take ((ji2) : Int).toNat, 0)) else (none)) else (none)) = some (r1, r2) := by first | (rw [hji2] at H; exact H) | (simp only [hji2] at H ⊢; exact H)
 (try (have hji2h : ji2 ≤ 400 := by (rw [← hji2]; unfold mn; (repeat' split) <;> omega))); (try (have hji2g : ji2 ≤ 64 := by omega)); (try (have hji2l : 0 ≤ ji2 := by (rw [← hji2]; unfold mn; (repeat' split) <;> omega))); (try (have hji2m : 0 ≤ ji2 := by omega)); have hji2_ : (if 400 < (l0.length : Int) then 400 else (l0.length : Int)) = ji2 := hji2
 by_cases c3 : 0 ≤ (ji2)
 ·
  rw [if_pos c3] at H; have c3b0 := eq_true c3; have c3b1 : decide (0 ≤ (ji2)) = true := decide_eq_true c3; clear c3
  by_cases c4 : (ji2) ≤ (l0.length : Int)
  ·
   rw [if_pos c4] at H; have c4b0 := eq_true c4; have c4b1 : decide ((ji2) ≤ (l0.length : Int)) = true := decide_eq_true c4; clear c4; simp only [Option.some.injEq, Prod.mk.injEq] at H; obtain ⟨rfl, rfl⟩ := H; obtain ⟨i05, hi05, _, hsz5, _⟩ := info_parts info3; obtain ⟨hcut5, hA5, hC5⟩ := print_take_of (P := Try.prog) (Value.int .i64) 0 22 3 .i64 Try.underlying22 hi05 hsz5 A0 c0 l0 (ji2) (of_decide_eq_true (by first | (with_reducible assumption) | assumption)) (of_decide_eq_true (by first | (with_reducible assumption) | assumption)) HC0.out; have HR101 := Aside0.mk (Kd.C_of_reads (h1 := fun _ => rfl) (hA5 _ (Kd.reads_of_C HR0.out))); have HC101 := Aside0.mk hC5; clear hA5 hC5 hi05 hsz5
   go_enter Try.func8, Try.ntmps8
   go_wp2_with (first | ((with_reducible refine gate_dst (N := 9) rfl ?_); refine box_event ?hg (N := 9) ?hd (cs := #[.slice A0 (l0.take ((ji2) : Int).toNat).length c0, .int .i64 0]) (t := 78) ?hr ?_; (case hd => rfl); (case hg => rfl); (case hr => first | (go_simp; done) | (go_simp; rfl)); intro gb102 hg w6 hbox hb; replace HB := Aside0.mk (below_step HB.out hb); have BK102 := Aside0.mk (hbox); have GW102 := Aside0.mk ((by rw [hg]; exact (below_size HBW.out) : w.heap.size ≤ gb102)); have GE102 := Aside0.mk ((Nat.le_trans HW0.out (by rw [hg]; exact (below_size HBW.out) : w.heap.size ≤ gb102) : w0.heap.size ≤ gb102)); replace HBW := Aside0.mk (below_step HBW.out hb); clear hb hbox hg))
   go_ret
   exact ⟨_, rfl, (show IsS78 w0 _ gb102 (l0.take ((ji2) : Int).toNat) 0 from ⟨_, _, by exact BK102.out, GE102.out, HR101.out⟩), by exact HB.out, by exact HBW.out⟩
  ·
   rw [if_neg c4] at H; exact absurd H (by simp)
 ·
  rw [if_neg c3] at H; exact absurd H (by simp)
/-! ### trustquorummake_Tape_N: function 10 -/
def trustquorummake_Tape_N.f (s0_0 : List Int) (s0_1 : Int) (a1 : Int) : Option (Int × Int) := if s0_1 ≥ (s0_0.length : Int) then (some (0, s0_1)) else (if 0 ≤ s0_1 then (if s0_1 < (s0_0.length : Int) then (if a1 = 0 then (none) else (if (Int.tmod (rd s0_0 s0_1) a1) < 0 then (some (wrap64 ((Int.tmod (rd s0_0 s0_1) a1) + a1), wrap64 (s0_1 + 1))) else (some (Int.tmod (rd s0_0 s0_1) a1, wrap64 (s0_1 + 1))))) else (none)) else (none))
set_option maxHeartbeats 8000000 in
set_option maxRecDepth 100000 in
theorem trustquorummake_Tape_N.calls (g : Nat) (s0_0 : List Int) (s0_1 : Int) (a1 : Int) (r1 : Int) (r2 : Int) (w0 w : World) (hI : IsS78 w0 w g s0_0 s0_1) (hB : Below w0.heap.size w0 w) (h : trustquorummake_Tape_N.f s0_0 s0_1 a1 = some (r1, r2)) :
    Calls Try.prog 10 #[.pointer (some ⟨g, 0, none⟩), .int .i64 a1] w fun e w' => e = .returned (.int .i64 r1) ∧ IsS78 w0 w' g s0_0 r2 ∧ Below w0.heap.size w0 w' ∧ KeepBut w w' g none := by
 have HI0 := Aside0.mk hI; have HK := Aside0.mk (KeepBut.refl w g none); have HL := Aside0.mk hB.size; clear hI; have HW0 := Aside0.mk hB.size; have HB := Aside0.mk hB; clear hB; have H : (if s0_1 ≥ (s0_0.length : Int) then (some (0, s0_1)) else (if 0 ≤ s0_1 then (if s0_1 < (s0_0.length : Int) then (if a1 = 0 then (none) else (if (Int.tmod (rd s0_0 s0_1) a1) < 0 then (some (wrap64 ((Int.tmod (rd s0_0 s0_1) a1) + a1), wrap64 (s0_1 + 1))) else (some (Int.tmod (rd s0_0 s0_1) a1, wrap64 (s0_1 + 1))))) else (none)) else (none))) = some (r1, r2) := h; clear h
 by_cases c3 : s0_1 ≥ (s0_0.length : Int)
 ·
  rw [if_pos c3] at H; have c3b0 : decide ((s0_0.length : Int) ≤ s0_1) = true := decide_eq_true c3; clear c3; simp only [Option.some.injEq, Prod.mk.injEq] at H; obtain ⟨rfl, rfl⟩ := H; obtain ⟨ASz4_0, cSz4_0, HGz4, hgz4, HSz4_0⟩ := HI0.out; have hcz4_0 := cellS78_0 HGz4; have hcz4_1 := cellS78_1 HGz4; have hfz4_1 := blk_frozen HGz4 1; clear HGz4 hgz4
  go_enter Try.func10, Try.ntmps10
  go_wp2
  repeat (go_quiet (fail); try go_wp2)
  go_ret
  exact ⟨by first | rfl | (simp [errW_none, errW_some] <;> rfl) | (simp [*, errW_none, errW_some] <;> rfl), by repeat (first | (with_reducible first | exact HI0.out | apply IsS78.alloc | apply IsS78.drewN | apply IsS78.drew | apply IsS78.set_1) | exact HI0.out), by repeat (first | (with_reducible first | exact HB.out | apply below_alloc | apply pw_below_drewN | apply below_drew1 | refine below_set ?_ (IsS78.ge HI0.out)) | exact HB.out), by repeat (first | (with_reducible first | exact HK.out | apply KeepBut.set_ | apply keep_drewN | apply keep_drew | apply keep_alloc) | exact HK.out)⟩
 ·
  rw [if_neg c3] at H; have c3b0 : decide ((s0_0.length : Int) ≤ s0_1) = false := decide_eq_false c3; clear c3
  by_cases c5 : 0 ≤ s0_1
  ·
   rw [if_pos c5] at H; have c5b0 : decide (0 ≤ s0_1) = true := decide_eq_true c5; clear c5
   by_cases c6 : s0_1 < (s0_0.length : Int)
   ·
    rw [if_pos c6] at H; have c6b0 : decide (s0_1 < (s0_0.length : Int)) = true := decide_eq_true c6; clear c6
    by_cases c7 : a1 = 0
    ·
     rw [if_pos c7] at H; exact absurd H (by simp)
    ·
     rw [if_neg c7] at H; have c7b0 : (a1 == 0) = false := beq_eq_false_iff_ne.mpr c7; have c7b1 : (a1 != 0) = true := bne_iff_ne.mpr c7
     by_cases c8 : (Int.tmod (rd s0_0 s0_1) a1) < 0
     ·
      rw [if_pos c8] at H; have c8b0 : decide ((Int.tmod (rd s0_0 s0_1) a1) < 0) = true := decide_eq_true c8; clear c8; simp only [Option.some.injEq, Prod.mk.injEq] at H; obtain ⟨rfl, rfl⟩ := H; obtain ⟨ASz9_0, cSz9_0, HGz9, hgz9, HSz9_0⟩ := HI0.out; have hcz9_0 := cellS78_0 HGz9; have hcz9_1 := cellS78_1 HGz9; have hfz9_1 := blk_frozen HGz9 1; clear HGz9 hgz9; have p103 : 0 ≤ (s0_1 : Int) := of_decide_eq_true (by first | (with_reducible assumption) | assumption); have q103 : s0_1 < (s0_0.length : Int) := of_decide_eq_true (by first | (with_reducible assumption) | assumption); obtain ⟨ad103, e103, hx103_0⟩ := Kd.at_int HSz9_0 s0_1 p103 q103
      cases e103
      replace hx103_0 := pw_cell_below HB.out hx103_0; replace p103 := eq_true p103; replace q103 := eq_true q103
      go_enter Try.func10, Try.ntmps10
      go_wp2
      repeat (go_quiet (fail); try go_wp2)
      go_ret
      exact ⟨by first | rfl | (simp [errW_none, errW_some] <;> rfl) | (simp [*, errW_none, errW_some] <;> rfl), by repeat (first | (with_reducible first | exact HI0.out | apply IsS78.alloc | apply IsS78.drewN | apply IsS78.drew | apply IsS78.set_1) | exact HI0.out), by repeat (first | (with_reducible first | exact HB.out | apply below_alloc | apply pw_below_drewN | apply below_drew1 | refine below_set ?_ (IsS78.ge HI0.out)) | exact HB.out), by repeat (first | (with_reducible first | exact HK.out | apply KeepBut.set_ | apply keep_drewN | apply keep_drew | apply keep_alloc) | exact HK.out)⟩
     ·
      rw [if_neg c8] at H; have c8b0 : decide ((Int.tmod (rd s0_0 s0_1) a1) < 0) = false := decide_eq_false c8; clear c8; simp only [Option.some.injEq, Prod.mk.injEq] at H; obtain ⟨rfl, rfl⟩ := H; obtain ⟨ASz10_0, cSz10_0, HGz10, hgz10, HSz10_0⟩ := HI0.out; have hcz10_0 := cellS78_0 HGz10; have hcz10_1 := cellS78_1 HGz10; have hfz10_1 := blk_frozen HGz10 1; clear HGz10 hgz10; have p103 : 0 ≤ (s0_1 : Int) := of_decide_eq_true (by first | (with_reducible assumption) | assumption); have q103 : s0_1 < (s0_0.length : Int) := of_decide_eq_true (by first | (with_reducible assumption) | assumption); obtain ⟨ad103, e103, hx103_0⟩ := Kd.at_int HSz10_0 s0_1 p103 q103
      cases e103
      replace hx103_0 := pw_cell_below HB.out hx103_0; replace p103 := eq_true p103; replace q103 := eq_true q103
      go_enter Try.func10, Try.ntmps10
      go_wp2
      repeat (go_quiet (fail); try go_wp2)
      go_ret
      exact ⟨by first | rfl | (simp [errW_none, errW_some] <;> rfl) | (simp [*, errW_none, errW_some] <;> rfl), by repeat (first | (with_reducible first | exact HI0.out | apply IsS78.alloc | apply IsS78.drewN | apply IsS78.drew | apply IsS78.set_1) | exact HI0.out), by repeat (first | (with_reducible first | exact HB.out | apply below_alloc | apply pw_below_drewN | apply below_drew1 | refine below_set ?_ (IsS78.ge HI0.out)) | exact HB.out), by repeat (first | (with_reducible first | exact HK.out | apply KeepBut.set_ | apply keep_drewN | apply keep_drew | apply keep_alloc) | exact HK.out)⟩
   ·
    rw [if_neg c6] at H; exact absurd H (by simp)
  ·
   rw [if_neg c5] at H; exact absurd H (by simp)
/-! ### nodeset_below: function 81 -/
def nodeset_below.f (a0 : Int) (a1 : Int) : Option (Bool) := if a0 ≥ 0 then (if 0 ≤ a1 then (some (decide (a0 < (shl .i64 1 a1)))) else (none)) else (some false)
set_option maxHeartbeats 8000000 in
set_option maxRecDepth 100000 in
theorem nodeset_below.calls (a0 : Int) (a1 : Int) (r : Bool) (w : World) (h : nodeset_below.f a0 a1 = some r) :
    Calls Try.prog 81 #[.int .i64 a0, .int .i64 a1] w fun e w' => e = .returned (.bool r) ∧ Drawn0 w w' := by
 have H : (if a0 ≥ 0 then (if 0 ≤ a1 then (some (decide (a0 < (shl .i64 1 a1)))) else (none)) else (some false)) = some r := h; clear h
 by_cases c3 : a0 ≥ 0
 ·
  rw [if_pos c3] at H; have c3b0 : decide (0 ≤ a0) = true := decide_eq_true c3; clear c3
  by_cases c4 : 0 ≤ a1
  ·
   rw [if_pos c4] at H; have c4b0 := eq_true c4; have c4b1 : decide (0 ≤ a1) = true := decide_eq_true c4; clear c4; obtain ⟨ji5, hji5⟩ : ∃ j_ : Int, (shl .i64 1 a1) = j_ := ⟨_, rfl⟩; replace H : (some (decide (a0 < (ji5)))) = some r := by first | (rw [hji5] at H; exact H) | (simp only [hji5] at H ⊢; exact H)
   have hji5_ : (IntKind.i64.wrap (1 * 2 ^ min a1.toNat 64)) = ji5 := hji5; have hji5z : a1 ≤ 64 → (IntKind.i64.wrap (1 * 2 ^ a1.toNat)) = ji5 := shl_small hji5; have hji5u : (IntKind.i64.wrap (2 ^ min a1.toNat 64)) = ji5 := by have h_ := hji5_; rw [Int.one_mul] at h_; exact h_
   have hji5v : a1 ≤ 64 → (IntKind.i64.wrap (2 ^ a1.toNat)) = ji5 := fun hle_ => by have h_ := hji5z hle_; rw [Int.one_mul] at h_; exact h_
   have hji5y : (wrap64 (1 * 2 ^ min a1.toNat 64)) = ji5 := (i64_w _).symm.trans hji5_; have hji5x : a1 ≤ 64 → (wrap64 (1 * 2 ^ a1.toNat)) = ji5 := fun h_ => (i64_w _).symm.trans (hji5z h_); obtain rfl := Option.some.inj H
   go_enter Try.func81, Try.ntmps81
   go_wp2
   go_ret
   exact ⟨by first | rfl | (simp; done) | (simp only [← hji5] <;> (first | rfl | simp)) | (simp [*]; done), by repeat (first | exact Drawn0.refl _ | apply Drawn0.step)⟩
  ·
   rw [if_neg c4] at H; exact absurd H (by simp)
 ·
  rw [if_neg c3] at H; have c3b0 : decide (0 ≤ a0) = false := decide_eq_false c3; clear c3; obtain rfl := Option.some.inj H
  go_enter Try.func81, Try.ntmps81
  go_wp2
  go_ret
  exact ⟨by first | rfl | (simp; done) | (simp [*]; done) | (refine congrArg (Value.int .i64) ?_; unfold wrap64; omega), by repeat (first | exact Drawn0.refl _ | apply Drawn0.step)⟩
/-! ### nodeset_Valid: function 47 -/
def nodeset_Valid.f (a0 : Int) : Option (Bool) := (nodeset_below.f a0 10).bind fun t104 => (some t104)
set_option maxHeartbeats 8000000 in
set_option maxRecDepth 100000 in
theorem nodeset_Valid.calls (a0 : Int) (r : Bool) (w : World) (h : nodeset_Valid.f a0 = some r) :
    Calls Try.prog 47 #[.int .i64 a0] w fun e w' => e = .returned (.bool r) ∧ Drawn0 w w' := by
 have H : ((nodeset_below.f a0 10).bind fun t104 => (some t104)) = some r := h; clear h; replace H := Option.bind_eq_some_iff.mp H; obtain ⟨t104, A20, H⟩ := H; replace H : (some t104) = some r := H; have A2 := Aside0.mk A20; clear A20; obtain rfl := Option.some.inj H
 go_enter Try.func47, Try.ntmps47
 go_wp2_with (first | ((with_reducible refine gate_callee (f := 81) rfl ?_); refine goesL_ (some 4) rfl rfl Try.func81 (by kernel_rfl) rfl #[.int .i64 a0, .int .i64 10] rfl (by (try simp only [List.map_toArray, List.map_cons, List.map_nil]); first | done | rfl | (simp only [List.length_drop, List.length_take]; rfl)) ?_; (with_reducible refine (nodeset_below.calls a0 10 t104 _ A2.out).mono ?_); rintro e w' ⟨rfl, ⟨nd, rfl⟩⟩; refine ⟨_, rfl, ?_⟩))
 go_ret
 exact ⟨by first | rfl | (simp; done) | (simp [*]; done) | (refine congrArg (Value.int .i64) ?_; unfold wrap64; omega), by repeat (first | exact Drawn0.refl _ | apply Drawn0.step)⟩
/-! ### nodeset_Has: function 49 -/
def nodeset_Has.f (a0 : Int) (a1 : Int) : Option (Bool) := (nodeset_Valid.f a0).bind fun t105 => (if t105 = true then (if a1 ≥ 0 then (if a1 < 10 then (if 0 ≤ a1 then (some ((Go.bits .and .i64 a0 (shl .i64 1 a1)) != 0)) else (none)) else (some false)) else (some false)) else (some false))
set_option maxHeartbeats 8000000 in
set_option maxRecDepth 100000 in
theorem nodeset_Has.calls (a0 : Int) (a1 : Int) (r : Bool) (w : World) (h : nodeset_Has.f a0 a1 = some r) :
    Calls Try.prog 49 #[.int .i64 a0, .int .i64 a1] w fun e w' => e = .returned (.bool r) ∧ Drawn0 w w' := by
 have H : ((nodeset_Valid.f a0).bind fun t105 => (if t105 = true then (if a1 ≥ 0 then (if a1 < 10 then (if 0 ≤ a1 then (some ((Go.bits .and .i64 a0 (shl .i64 1 a1)) != 0)) else (none)) else (some false)) else (some false)) else (some false))) = some r := h; clear h; replace H := Option.bind_eq_some_iff.mp H; obtain ⟨t105, A30, H⟩ := H; replace H : (if t105 = true then (if a1 ≥ 0 then (if a1 < 10 then (if 0 ≤ a1 then (some ((Go.bits .and .i64 a0 (shl .i64 1 a1)) != 0)) else (none)) else (some false)) else (some false)) else (some false)) = some r := H; have A3 := Aside0.mk A30; clear A30
 by_cases c4 : t105 = true
 ·
  subst c4; have H1 : (if a1 ≥ 0 then (if a1 < 10 then (if 0 ≤ a1 then (some ((Go.bits .and .i64 a0 (shl .i64 1 a1)) != 0)) else (none)) else (some false)) else (some false)) = some r := by rw [if_pos rfl] at H; exact H
  clear H; have H := H1; clear H1
  by_cases c5 : a1 ≥ 0
  ·
   rw [if_pos c5] at H; have c5b0 : decide (0 ≤ a1) = true := decide_eq_true c5; clear c5
   by_cases c6 : a1 < 10
   ·
    rw [if_pos c6] at H; have c6b0 : decide (a1 < 10) = true := decide_eq_true c6; clear c6
    by_cases c7 : 0 ≤ a1
    ·
     rw [if_pos c7] at H; have c7b0 := eq_true c7; have c7b1 : decide (0 ≤ a1) = true := decide_eq_true c7; clear c7; obtain ⟨ji8, hji8⟩ : ∃ j_ : Int, (shl .i64 1 a1) = j_ := ⟨_, rfl⟩; replace H : (some ((Go.bits .and .i64 a0 (ji8)) != 0)) = some r := by first | (rw [hji8] at H; exact H) | (simp only [hji8] at H ⊢; exact H)
     (try rw [hji8] at A3); have hji8_ : (IntKind.i64.wrap (1 * 2 ^ min a1.toNat 64)) = ji8 := hji8; have hji8z : a1 ≤ 64 → (IntKind.i64.wrap (1 * 2 ^ a1.toNat)) = ji8 := shl_small hji8; have hji8u : (IntKind.i64.wrap (2 ^ min a1.toNat 64)) = ji8 := by have h_ := hji8_; rw [Int.one_mul] at h_; exact h_
     have hji8v : a1 ≤ 64 → (IntKind.i64.wrap (2 ^ a1.toNat)) = ji8 := fun hle_ => by have h_ := hji8z hle_; rw [Int.one_mul] at h_; exact h_
     have hji8y : (wrap64 (1 * 2 ^ min a1.toNat 64)) = ji8 := (i64_w _).symm.trans hji8_; have hji8x : a1 ≤ 64 → (wrap64 (1 * 2 ^ a1.toNat)) = ji8 := fun h_ => (i64_w _).symm.trans (hji8z h_); obtain rfl := Option.some.inj H
     go_enter Try.func49, Try.ntmps49
     go_wp2_with (first | ((with_reducible refine gate_callee (f := 47) rfl ?_); refine goesL_ (some 6) rfl rfl Try.func47 (by kernel_rfl) rfl #[.int .i64 a0] rfl (by (try simp only [List.map_toArray, List.map_cons, List.map_nil]); first | done | rfl | (simp only [List.length_drop, List.length_take]; rfl)) ?_; (with_reducible refine (nodeset_Valid.calls a0 true _ A3.out).mono ?_); rintro e w' ⟨rfl, ⟨nd, rfl⟩⟩; refine ⟨_, rfl, ?_⟩))
     go_ret
     exact ⟨by first | rfl | (simp; done) | (simp only [← hji8] <;> (first | rfl | simp)) | (simp [*]; done), by repeat (first | exact Drawn0.refl _ | apply Drawn0.step)⟩
    ·
     rw [if_neg c7] at H; exact absurd H (by simp)
   ·
    rw [if_neg c6] at H; have c6b0 : decide (a1 < 10) = false := decide_eq_false c6; clear c6; obtain rfl := Option.some.inj H
    go_enter Try.func49, Try.ntmps49
    go_wp2_with (first | ((with_reducible refine gate_callee (f := 47) rfl ?_); refine goesL_ (some 6) rfl rfl Try.func47 (by kernel_rfl) rfl #[.int .i64 a0] rfl (by (try simp only [List.map_toArray, List.map_cons, List.map_nil]); first | done | rfl | (simp only [List.length_drop, List.length_take]; rfl)) ?_; (with_reducible refine (nodeset_Valid.calls a0 true _ A3.out).mono ?_); rintro e w' ⟨rfl, ⟨nd, rfl⟩⟩; refine ⟨_, rfl, ?_⟩))
    go_ret
    exact ⟨by first | rfl | (simp; done) | (simp [*]; done) | (refine congrArg (Value.int .i64) ?_; unfold wrap64; omega), by repeat (first | exact Drawn0.refl _ | apply Drawn0.step)⟩
  ·
   rw [if_neg c5] at H; have c5b0 : decide (0 ≤ a1) = false := decide_eq_false c5; clear c5; obtain rfl := Option.some.inj H
   go_enter Try.func49, Try.ntmps49
   go_wp2_with (first | ((with_reducible refine gate_callee (f := 47) rfl ?_); refine goesL_ (some 6) rfl rfl Try.func47 (by kernel_rfl) rfl #[.int .i64 a0] rfl (by (try simp only [List.map_toArray, List.map_cons, List.map_nil]); first | done | rfl | (simp only [List.length_drop, List.length_take]; rfl)) ?_; (with_reducible refine (nodeset_Valid.calls a0 true _ A3.out).mono ?_); rintro e w' ⟨rfl, ⟨nd, rfl⟩⟩; refine ⟨_, rfl, ?_⟩))
   go_ret
   exact ⟨by first | rfl | (simp; done) | (simp [*]; done) | (refine congrArg (Value.int .i64) ?_; unfold wrap64; omega), by repeat (first | exact Drawn0.refl _ | apply Drawn0.step)⟩
 ·
  replace c4 := Bool.eq_false_iff.mpr c4; subst c4; have H1 : (some false) = some r := by rw [if_neg (show ¬ (false = true) by decide)] at H; exact H
  clear H; have H := H1; clear H1; obtain rfl := Option.some.inj H
  go_enter Try.func49, Try.ntmps49
  go_wp2_with (first | ((with_reducible refine gate_callee (f := 47) rfl ?_); refine goesL_ (some 6) rfl rfl Try.func47 (by kernel_rfl) rfl #[.int .i64 a0] rfl (by (try simp only [List.map_toArray, List.map_cons, List.map_nil]); first | done | rfl | (simp only [List.length_drop, List.length_take]; rfl)) ?_; (with_reducible refine (nodeset_Valid.calls a0 false _ A3.out).mono ?_); rintro e w' ⟨rfl, ⟨nd, rfl⟩⟩; refine ⟨_, rfl, ?_⟩))
  go_ret
  exact ⟨by first | rfl | (simp; done) | (simp [*]; done) | (refine congrArg (Value.int .i64) ?_; unfold wrap64; omega), by repeat (first | exact Drawn0.refl _ | apply Drawn0.step)⟩
/-! ### configuration_Declared: function 82 -/
def configuration_Declared.l0 : Nat → Int → List (S54) → Int → Int → Option (Int)
  | 0, _, _, _, _ => none
  | k + 1, x3, x7, x8, x9 => if x9 < x8 then (if 0 ≤ x9 then (if x9 < (x7.length : Int) then (if (rd_T54 x7 x9).f0 = true then (if x9 < 10 then (configuration_Declared.l0 k (Go.bits .or .i64 x3 (shl .i64 1 x9)) x7 x8 (wrap64 (x9 + 1))) else (configuration_Declared.l0 k x3 x7 x8 (wrap64 (x9 + 1)))) else (configuration_Declared.l0 k x3 x7 x8 (wrap64 (x9 + 1)))) else (none)) else (none)) else (some x3)
def configuration_Declared.f (k : Nat) (l0_0 : List (S54)) : Option (Int) := configuration_Declared.l0 k 0 l0_0 (l0_0.length : Int) 0
theorem configuration_Declared.mono_l : ∀ k, (∀ y0 y1 y2 y3, LeO (configuration_Declared.l0 k y0 y1 y2 y3) (configuration_Declared.l0 (k + 1) y0 y1 y2 y3))
  | 0 => fun _ _ _ _ r h => by simp [configuration_Declared.l0] at h
  | k + 1 => by
    have ih0 := configuration_Declared.mono_l k
    · intro y0 y1 y2 y3
      unfold configuration_Declared.l0
      repeat' first
      | (with_reducible exact ih0 _ _ _ _)
      | (with_reducible exact LeO.refl _)
      | (with_reducible exact LeO.none _)
      | (with_reducible refine LeO.ite ?_ ?_)
      | (with_reducible refine LeO.bind ?_ (fun _ => ?_))
      | exact ih0 _ _ _ _
      | exact LeO.none _
      | refine LeO.ite ?_ ?_
      | refine LeO.bind ?_ (fun _ => ?_)
theorem configuration_Declared.mono : ∀ a0 k, LeO (configuration_Declared.f k a0) (configuration_Declared.f (k + 1) a0) := by
  intro a0 k
  have ih0 := configuration_Declared.mono_l k
  unfold configuration_Declared.f
  repeat' first
      | (with_reducible exact ih0 _ _ _ _)
      | (with_reducible exact LeO.refl _)
      | (with_reducible exact LeO.none _)
      | (with_reducible refine LeO.ite ?_ ?_)
      | (with_reducible refine LeO.bind ?_ (fun _ => ?_))
      | exact ih0 _ _ _ _
      | exact LeO.none _
      | refine LeO.ite ?_ ?_
      | refine LeO.bind ?_ (fun _ => ?_)
set_option maxHeartbeats 8000000 in
set_option maxRecDepth 100000 in
theorem configuration_Declared.calls (k : Nat) (A0_0 : Option Addr) (c0_0 : Nat) (l0_0 : List (S54)) (r : Int) (w : World) (hr0_0 : Kd.C k54 w A0_0 l0_0.length l0_0) (hc0_0 : l0_0.length ≤ c0_0) (h : configuration_Declared.f k l0_0 = some r) :
    Calls Try.prog 82 #[.agg #[.slice A0_0 l0_0.length c0_0]] w fun e w' => e = .returned (.int .i64 r) ∧ Below w.heap.size w w' := by
 have hu27 := Try.underlying27; have hu54 := Try.underlying54; have HR0_0 := Aside0.mk hr0_0; have HC0_0 := Aside0.mk hc0_0; clear hr0_0 hc0_0; have HB := Aside0.mk (Below.refl w.heap.size w); have H : (configuration_Declared.l0 k 0 l0_0 (l0_0.length : Int) 0) = some r := h; clear h; have H' := Aside0.mk H; clear H
 go_enter Try.func82, Try.ntmps82
 go_wp2_with (first | ((with_reducible refine gate_dst (N := 1) rfl ?_); refine box_event ?hg (N := 1) ?hd (cs := #[.slice A0_0 l0_0.length c0_0]) (t := 27) ?hr ?_; (case hd => rfl); (case hg => rfl); (case hr => first | (go_simp; done) | (go_simp; rfl)); intro gb106 hg w2 hbox hb; have BK106 := Aside0.mk (hbox); have GW106 := Aside0.mk ((by rw [hg]; exact (below_size HB.out) : w.heap.size ≤ gb106)); have GE106 := Aside0.mk ((by rw [hg]; exact (below_size HB.out) : w.heap.size ≤ gb106)); replace HB := Aside0.mk (below_step HB.out hb); clear hb hbox hg; obtain ⟨hcz3_0, hfz3_0⟩ := blkC1 BK106.out))
 go_loopg [3, 9] k (fun kq v3 v9 w' => ∃ (x3_1 : Int) (x9_1 : Int), v3 = .int .i64 x3_1 ∧ v9 = .int .i64 x9_1 ∧ Aside0 (configuration_Declared.l0 kq x3_1 l0_0 (l0_0.length : Int) x9_1 = some r) ∧ Aside0 (kq ≤ k) ∧ Aside0 (Below w.heap.size w w'))
 case atStart => exact ⟨(0), (0), (by first | rfl | (simp; done) | (simp [*]; done) | (refine congrArg (Value.int .i64) ?_; unfold wrap64; omega)), (by first | rfl | (simp; done) | (simp [*]; done) | (refine congrArg (Value.int .i64) ?_; unfold wrap64; omega)), H', ⟨Nat.le_refl _⟩, ⟨by exact HB.out⟩⟩
 case round =>
  clear H'; (try clear p2); (try clear hcz3_0); (try clear hfz3_0); obtain ⟨x3_1, x9_1, rfl, rfl, HA, HK1, HB⟩ := hrel
  cases gk with
  | zero => exact absurd HA.out (by simp [configuration_Declared.l0])
  | succ k1 =>
   have H := HA.out; clear HA; simp only [configuration_Declared.l0] at H
   by_cases c4 : x9_1 < (l0_0.length : Int)
   ·
    rw [if_pos c4] at H; have c4b0 : decide (x9_1 < (l0_0.length : Int)) = true := decide_eq_true c4; clear c4
    by_cases c5 : 0 ≤ x9_1
    ·
     rw [if_pos c5] at H; have c5b0 : decide (0 ≤ x9_1) = true := decide_eq_true c5; clear c5
     by_cases c6 : x9_1 < (l0_0.length : Int)
     ·
      rw [if_pos c6] at H; have c6b0 : decide (x9_1 < (l0_0.length : Int)) = true := decide_eq_true c6; clear c6; obtain ⟨bq7, hbq7⟩ : ∃ b_ : Bool, b_ = ((rd_T54 l0_0 x9_1).f0) := ⟨_, rfl⟩; replace H : (if bq7 = true then (if x9_1 < 10 then (configuration_Declared.l0 k1 (Go.bits .or .i64 x3_1 (shl .i64 1 x9_1)) l0_0 (l0_0.length : Int) (wrap64 (x9_1 + 1))) else (configuration_Declared.l0 k1 x3_1 l0_0 (l0_0.length : Int) (wrap64 (x9_1 + 1)))) else (configuration_Declared.l0 k1 x3_1 l0_0 (l0_0.length : Int) (wrap64 (x9_1 + 1)))) = some r := by rw [← hbq7] at H; exact H
      have Nbq7 := Aside0.mk hbq7; clear hbq7
      by_cases c8 : bq7 = true
      ·
       subst c8; have H1 : (if x9_1 < 10 then (configuration_Declared.l0 k1 (Go.bits .or .i64 x3_1 (shl .i64 1 x9_1)) l0_0 (l0_0.length : Int) (wrap64 (x9_1 + 1))) else (configuration_Declared.l0 k1 x3_1 l0_0 (l0_0.length : Int) (wrap64 (x9_1 + 1)))) = some r := by rw [if_pos rfl] at H; exact H
       clear H; have H := H1; clear H1
       by_cases c9 : x9_1 < 10
       ·
        rw [if_pos c9] at H; have c9b0 : decide (x9_1 < 10) = true := decide_eq_true c9; clear c9; have c10b0 := eq_true (of_decide_eq_true (by first | (with_reducible assumption) | assumption) : 0 ≤ x9_1); obtain ⟨ji11, hji11⟩ : ∃ j_ : Int, (shl .i64 1 x9_1) = j_ := ⟨_, rfl⟩; replace H : (configuration_Declared.l0 k1 (Go.bits .or .i64 x3_1 (ji11)) l0_0 (l0_0.length : Int) (wrap64 (x9_1 + 1))) = some r := by first | (rw [hji11] at H; exact H) | (simp only [hji11] at H ⊢; exact H)
        have hji11_ : (IntKind.i64.wrap (1 * 2 ^ min x9_1.toNat 64)) = ji11 := hji11; have hji11z : x9_1 ≤ 64 → (IntKind.i64.wrap (1 * 2 ^ x9_1.toNat)) = ji11 := shl_small hji11; have hji11u : (IntKind.i64.wrap (2 ^ min x9_1.toNat 64)) = ji11 := by have h_ := hji11_; rw [Int.one_mul] at h_; exact h_
        have hji11v : x9_1 ≤ 64 → (IntKind.i64.wrap (2 ^ x9_1.toNat)) = ji11 := fun hle_ => by have h_ := hji11z hle_; rw [Int.one_mul] at h_; exact h_
        have hji11y : (wrap64 (1 * 2 ^ min x9_1.toNat 64)) = ji11 := (i64_w _).symm.trans hji11_; have hji11x : x9_1 ≤ 64 → (wrap64 (1 * 2 ^ x9_1.toNat)) = ji11 := fun h_ => (i64_w _).symm.trans (hji11z h_); have H' := Aside0.mk H; clear H; have p107 : 0 ≤ (x9_1 : Int) := of_decide_eq_true (by first | (with_reducible assumption) | assumption); have q107 : x9_1 < (l0_0.length : Int) := of_decide_eq_true (by first | (with_reducible assumption) | assumption); obtain ⟨ad107, A107_2, c107_2, A107_3, c107_3, e107, hx107_0, hx107_1, hx107_2, hx107_3, hl107_2, hi107_2, hl107_3, hi107_3⟩ := at_T54 HR0_0.out x9_1 p107 q107; (try rw [← Nbq7.out] at hx107_0)
        cases e107
        replace hx107_0 := (HB.out.cell (World.block_lt_of_cell? w _ hx107_0)).trans hx107_0; replace hx107_1 := (HB.out.cell (World.block_lt_of_cell? w _ hx107_1)).trans hx107_1; replace hx107_2 := (HB.out.cell (World.block_lt_of_cell? w _ hx107_2)).trans hx107_2; replace hx107_3 := (HB.out.cell (World.block_lt_of_cell? w _ hx107_3)).trans hx107_3; have HR107_2 := Aside0.mk hi107_2; have HC107_2 := Aside0.mk hl107_2; clear hi107_2 hl107_2; have HR107_3 := Aside0.mk hi107_3; have HC107_3 := Aside0.mk hl107_3; clear hi107_3 hl107_3; replace p107 := eq_true p107; replace q107 := eq_true q107
        go_wp2_with (first | ((with_reducible refine gate_dst (N := 5) rfl ?_); refine box_event ?hg (N := 5) ?hd (cs := #[.bool false, .int .i64 0, .slice none 0 0, .slice none 0 0]) (t := 54) ?hr ?_; (case hd => rfl); (case hg => rfl); (case hr => first | (go_simp; done) | (go_simp; rfl)); intro gb108 hg w12 hbox hb; have BK108 := Aside0.mk (hbox); have GW108 := Aside0.mk ((by rw [hg]; exact (below_size HB.out) : w.heap.size ≤ gb108)); have GE108 := Aside0.mk ((by rw [hg]; exact (below_size HB.out) : w.heap.size ≤ gb108)); replace HB := Aside0.mk (below_step HB.out hb); clear hb hbox hg; obtain ⟨hcz13_0, hcz13_1, hcz13_2, hcz13_3, hfz13_0, hfz13_1, hfz13_2, hfz13_3⟩ := blkC4 BK108.out))
        go_roundg k1
        case measure => have := HK1.out; omega
        case rel => exact ⟨(Go.bits .or .i64 x3_1 (ji11)), (wrap64 (x9_1 + 1)), (by first | rfl | (simp; done) | (simp only [← hji11] <;> (first | rfl | simp)) | (simp [*]; done)), (by first | rfl | (simp; done) | (simp [*]; done) | (refine congrArg (Value.int .i64) ?_; unfold wrap64; omega)), H', ⟨by have := HK1.out; omega⟩, ⟨by repeat (first | (with_reducible first | exact HB.out | apply below_alloc | apply pw_below_drewN | apply below_drew1 | refine below_set ?_ GE108.out) | exact HB.out)⟩⟩
       ·
        rw [if_neg c9] at H; have c9b0 : decide (x9_1 < 10) = false := decide_eq_false c9; clear c9; have H' := Aside0.mk H; clear H; have p107 : 0 ≤ (x9_1 : Int) := of_decide_eq_true (by first | (with_reducible assumption) | assumption); have q107 : x9_1 < (l0_0.length : Int) := of_decide_eq_true (by first | (with_reducible assumption) | assumption); obtain ⟨ad107, A107_2, c107_2, A107_3, c107_3, e107, hx107_0, hx107_1, hx107_2, hx107_3, hl107_2, hi107_2, hl107_3, hi107_3⟩ := at_T54 HR0_0.out x9_1 p107 q107; (try rw [← Nbq7.out] at hx107_0)
        cases e107
        replace hx107_0 := (HB.out.cell (World.block_lt_of_cell? w _ hx107_0)).trans hx107_0; replace hx107_1 := (HB.out.cell (World.block_lt_of_cell? w _ hx107_1)).trans hx107_1; replace hx107_2 := (HB.out.cell (World.block_lt_of_cell? w _ hx107_2)).trans hx107_2; replace hx107_3 := (HB.out.cell (World.block_lt_of_cell? w _ hx107_3)).trans hx107_3; have HR107_2 := Aside0.mk hi107_2; have HC107_2 := Aside0.mk hl107_2; clear hi107_2 hl107_2; have HR107_3 := Aside0.mk hi107_3; have HC107_3 := Aside0.mk hl107_3; clear hi107_3 hl107_3; replace p107 := eq_true p107; replace q107 := eq_true q107
        go_wp2_with (first | ((with_reducible refine gate_dst (N := 5) rfl ?_); refine box_event ?hg (N := 5) ?hd (cs := #[.bool false, .int .i64 0, .slice none 0 0, .slice none 0 0]) (t := 54) ?hr ?_; (case hd => rfl); (case hg => rfl); (case hr => first | (go_simp; done) | (go_simp; rfl)); intro gb108 hg w14 hbox hb; have BK108 := Aside0.mk (hbox); have GW108 := Aside0.mk ((by rw [hg]; exact (below_size HB.out) : w.heap.size ≤ gb108)); have GE108 := Aside0.mk ((by rw [hg]; exact (below_size HB.out) : w.heap.size ≤ gb108)); replace HB := Aside0.mk (below_step HB.out hb); clear hb hbox hg; obtain ⟨hcz15_0, hcz15_1, hcz15_2, hcz15_3, hfz15_0, hfz15_1, hfz15_2, hfz15_3⟩ := blkC4 BK108.out))
        go_roundg k1
        case measure => have := HK1.out; omega
        case rel => exact ⟨(x3_1), (wrap64 (x9_1 + 1)), (by first | rfl | (simp; done) | (simp [*]; done) | (refine congrArg (Value.int .i64) ?_; unfold wrap64; omega)), (by first | rfl | (simp; done) | (simp [*]; done) | (refine congrArg (Value.int .i64) ?_; unfold wrap64; omega)), H', ⟨by have := HK1.out; omega⟩, ⟨by repeat (first | (with_reducible first | exact HB.out | apply below_alloc | apply pw_below_drewN | apply below_drew1 | refine below_set ?_ GE108.out) | exact HB.out)⟩⟩
      ·
       replace c8 := Bool.eq_false_iff.mpr c8; subst c8; have H1 : (configuration_Declared.l0 k1 x3_1 l0_0 (l0_0.length : Int) (wrap64 (x9_1 + 1))) = some r := by rw [if_neg (show ¬ (false = true) by decide)] at H; exact H
       clear H; have H := H1; clear H1; have H' := Aside0.mk H; clear H; have p107 : 0 ≤ (x9_1 : Int) := of_decide_eq_true (by first | (with_reducible assumption) | assumption); have q107 : x9_1 < (l0_0.length : Int) := of_decide_eq_true (by first | (with_reducible assumption) | assumption); obtain ⟨ad107, A107_2, c107_2, A107_3, c107_3, e107, hx107_0, hx107_1, hx107_2, hx107_3, hl107_2, hi107_2, hl107_3, hi107_3⟩ := at_T54 HR0_0.out x9_1 p107 q107; (try rw [← Nbq7.out] at hx107_0)
       cases e107
       replace hx107_0 := (HB.out.cell (World.block_lt_of_cell? w _ hx107_0)).trans hx107_0; replace hx107_1 := (HB.out.cell (World.block_lt_of_cell? w _ hx107_1)).trans hx107_1; replace hx107_2 := (HB.out.cell (World.block_lt_of_cell? w _ hx107_2)).trans hx107_2; replace hx107_3 := (HB.out.cell (World.block_lt_of_cell? w _ hx107_3)).trans hx107_3; have HR107_2 := Aside0.mk hi107_2; have HC107_2 := Aside0.mk hl107_2; clear hi107_2 hl107_2; have HR107_3 := Aside0.mk hi107_3; have HC107_3 := Aside0.mk hl107_3; clear hi107_3 hl107_3; replace p107 := eq_true p107; replace q107 := eq_true q107
       go_wp2_with (first | ((with_reducible refine gate_dst (N := 5) rfl ?_); refine box_event ?hg (N := 5) ?hd (cs := #[.bool false, .int .i64 0, .slice none 0 0, .slice none 0 0]) (t := 54) ?hr ?_; (case hd => rfl); (case hg => rfl); (case hr => first | (go_simp; done) | (go_simp; rfl)); intro gb108 hg w16 hbox hb; have BK108 := Aside0.mk (hbox); have GW108 := Aside0.mk ((by rw [hg]; exact (below_size HB.out) : w.heap.size ≤ gb108)); have GE108 := Aside0.mk ((by rw [hg]; exact (below_size HB.out) : w.heap.size ≤ gb108)); replace HB := Aside0.mk (below_step HB.out hb); clear hb hbox hg; obtain ⟨hcz17_0, hcz17_1, hcz17_2, hcz17_3, hfz17_0, hfz17_1, hfz17_2, hfz17_3⟩ := blkC4 BK108.out))
       go_roundg k1
       case measure => have := HK1.out; omega
       case rel => exact ⟨(x3_1), (wrap64 (x9_1 + 1)), (by first | rfl | (simp; done) | (simp [*]; done) | (refine congrArg (Value.int .i64) ?_; unfold wrap64; omega)), (by first | rfl | (simp; done) | (simp [*]; done) | (refine congrArg (Value.int .i64) ?_; unfold wrap64; omega)), H', ⟨by have := HK1.out; omega⟩, ⟨by repeat (first | (with_reducible first | exact HB.out | apply below_alloc | apply pw_below_drewN | apply below_drew1 | refine below_set ?_ GE108.out) | exact HB.out)⟩⟩
     ·
      rw [if_neg c6] at H; exact absurd H (by simp)
    ·
     rw [if_neg c5] at H; exact absurd H (by simp)
   ·
    rw [if_neg c4] at H; have c4b0 : decide (x9_1 < (l0_0.length : Int)) = false := decide_eq_false c4; clear c4; obtain rfl := Option.some.inj H
    go_wp2
    go_ret
    exact ⟨by first | rfl | (simp [errW_none, errW_some] <;> rfl) | (simp [*, errW_none, errW_some] <;> rfl), by exact HB.out⟩
/-! ### threshold_Satisfied: function 83 -/
mutual
def threshold_Satisfied.l0 : Nat → Int → Int → List Int → Int → Int → Int → List Int → List (S48) → Option (Bool)
  | 0, _, _, _, _, _, _, _, _ => none
  | k + 1, x1, x5, x14, x15, x16, x110000, x110001, x110002 => if x16 < x15 then (if 0 ≤ x16 then (if x16 < (x14.length : Int) then ((nodeset_Has.f x1 (rd x14 x16)).bind fun t112 => (if t112 = true then (threshold_Satisfied.l0 k x1 (wrap64 (x5 + 1)) x14 x15 (wrap64 (x16 + 1)) x110000 x110001 x110002) else (threshold_Satisfied.l0 k x1 x5 x14 x15 (wrap64 (x16 + 1)) x110000 x110001 x110002))) else (none)) else (none)) else (threshold_Satisfied.l1 k x1 x5 x110002 (x110002.length : Int) 0 x110000 x110001 x110002)
def threshold_Satisfied.l1 : Nat → Int → Int → List (S48) → Int → Int → Int → List Int → List (S48) → Option (Bool)
  | 0, _, _, _, _, _, _, _, _ => none
  | k + 1, x1, x5, x27, x28, x29, x110000, x110001, x110002 => if x29 < x28 then (if 0 ≤ x29 then (if x29 < (x27.length : Int) then ((threshold_Satisfied.f k ((rd_T48 x27 x29).f0) ((rd_T48 x27 x29).f1) ((rd_T48 x27 x29).f2) x1).bind fun t115 => (if t115 = true then (threshold_Satisfied.l1 k x1 (wrap64 (x5 + 1)) x27 x28 (wrap64 (x29 + 1)) x110000 x110001 x110002) else (threshold_Satisfied.l1 k x1 x5 x27 x28 (wrap64 (x29 + 1)) x110000 x110001 x110002))) else (none)) else (none)) else (some (decide (x5 ≥ x110000)))
def threshold_Satisfied.f : Nat → Int → List Int → List (S48) → Int → Option (Bool)
  | 0, _, _, _, _ => none
  | k + 1, a0_0, l0_1, l0_2, a1 => (nodeset_Valid.f a1).bind fun t110 => (if t110 = true then (threshold_Satisfied.l0 k a1 0 l0_1 (l0_1.length : Int) 0 a0_0 l0_1 l0_2) else (some false))
end
theorem threshold_Satisfied.mono_l : ∀ k, (∀ y0 y1 y2 y3, LeO (threshold_Satisfied.f k y0 y1 y2 y3) (threshold_Satisfied.f (k + 1) y0 y1 y2 y3)) ∧ (∀ y0 y1 y2 y3 y4 y5 y6 y7, LeO (threshold_Satisfied.l0 k y0 y1 y2 y3 y4 y5 y6 y7) (threshold_Satisfied.l0 (k + 1) y0 y1 y2 y3 y4 y5 y6 y7)) ∧ (∀ y0 y1 y2 y3 y4 y5 y6 y7, LeO (threshold_Satisfied.l1 k y0 y1 y2 y3 y4 y5 y6 y7) (threshold_Satisfied.l1 (k + 1) y0 y1 y2 y3 y4 y5 y6 y7))
  | 0 => ⟨fun _ _ _ _ r h => by simp [threshold_Satisfied.f] at h, fun _ _ _ _ _ _ _ _ r h => by simp [threshold_Satisfied.l0] at h, fun _ _ _ _ _ _ _ _ r h => by simp [threshold_Satisfied.l1] at h⟩
  | k + 1 => by
    obtain ⟨ih0, ih1, ih2⟩ := threshold_Satisfied.mono_l k
    refine ⟨?_, ?_, ?_⟩
    · intro y0 y1 y2 y3
      unfold threshold_Satisfied.f
      repeat' first
      | (with_reducible exact ih0 _ _ _ _)
      | (with_reducible exact ih1 _ _ _ _ _ _ _ _)
      | (with_reducible exact ih2 _ _ _ _ _ _ _ _)
      | (with_reducible exact LeO.refl _)
      | (with_reducible exact LeO.none _)
      | (with_reducible refine LeO.ite ?_ ?_)
      | (with_reducible refine LeO.bind ?_ (fun _ => ?_))
      | exact ih0 _ _ _ _
      | exact ih1 _ _ _ _ _ _ _ _
      | exact ih2 _ _ _ _ _ _ _ _
      | exact LeO.none _
      | refine LeO.ite ?_ ?_
      | refine LeO.bind ?_ (fun _ => ?_)
    · intro y0 y1 y2 y3 y4 y5 y6 y7
      unfold threshold_Satisfied.l0
      repeat' first
      | (with_reducible exact ih0 _ _ _ _)
      | (with_reducible exact ih1 _ _ _ _ _ _ _ _)
      | (with_reducible exact ih2 _ _ _ _ _ _ _ _)
      | (with_reducible exact LeO.refl _)
      | (with_reducible exact LeO.none _)
      | (with_reducible refine LeO.ite ?_ ?_)
      | (with_reducible refine LeO.bind ?_ (fun _ => ?_))
      | exact ih0 _ _ _ _
      | exact ih1 _ _ _ _ _ _ _ _
      | exact ih2 _ _ _ _ _ _ _ _
      | exact LeO.none _
      | refine LeO.ite ?_ ?_
      | refine LeO.bind ?_ (fun _ => ?_)
    · intro y0 y1 y2 y3 y4 y5 y6 y7
      unfold threshold_Satisfied.l1
      repeat' first
      | (with_reducible exact ih0 _ _ _ _)
      | (with_reducible exact ih1 _ _ _ _ _ _ _ _)
      | (with_reducible exact ih2 _ _ _ _ _ _ _ _)
      | (with_reducible exact LeO.refl _)
      | (with_reducible exact LeO.none _)
      | (with_reducible refine LeO.ite ?_ ?_)
      | (with_reducible refine LeO.bind ?_ (fun _ => ?_))
      | exact ih0 _ _ _ _
      | exact ih1 _ _ _ _ _ _ _ _
      | exact ih2 _ _ _ _ _ _ _ _
      | exact LeO.none _
      | refine LeO.ite ?_ ?_
      | refine LeO.bind ?_ (fun _ => ?_)
theorem threshold_Satisfied.mono : ∀ a0 a1 a2 a3 k, LeO (threshold_Satisfied.f k a0 a1 a2 a3) (threshold_Satisfied.f (k + 1) a0 a1 a2 a3) := by
  intro a0 a1 a2 a3 k
  obtain ⟨ih0, ih1, ih2⟩ := threshold_Satisfied.mono_l k
  exact ih0 a0 a1 a2 a3
set_option maxHeartbeats 8000000 in
set_option maxRecDepth 100000 in
theorem threshold_Satisfied.calls (k : Nat) : ∀ (a0_0 : Int) (A0_1 : Option Addr) (c0_1 : Nat) (l0_1 : List Int) (A0_2 : Option Addr) (c0_2 : Nat) (l0_2 : List (S48)) (a1 : Int) (r : Bool) (w : World) (hr0_1 : Kd.C (Kd.int .i64) w A0_1 l0_1.length l0_1) (hc0_1 : l0_1.length ≤ c0_1) (hr0_2 : Kd.C k48 w A0_2 l0_2.length l0_2) (hc0_2 : l0_2.length ≤ c0_2) (h : threshold_Satisfied.f k a0_0 l0_1 l0_2 a1 = some r),
    Calls Try.prog 83 #[.agg #[.int .i64 a0_0, .slice A0_1 l0_1.length c0_1, .slice A0_2 l0_2.length c0_2], .int .i64 a1] w fun e w' => e = .returned (.bool r) ∧ Below w.heap.size w w' := by
 induction k using Nat.strongRecOn with
 | _ k ih =>
 intro a0_0 A0_1 c0_1 l0_1 A0_2 c0_2 l0_2 a1 r w hr0_1 hc0_1 hr0_2 hc0_2 h
 cases k with
 | zero => exact absurd h (by simp [threshold_Satisfied.f])
 | succ k =>
 simp only [threshold_Satisfied.f] at h; have hu48 := Try.underlying48; have HR0_1 := Aside0.mk hr0_1; have HC0_1 := Aside0.mk hc0_1; clear hr0_1 hc0_1; have HR0_2 := Aside0.mk hr0_2; have HC0_2 := Aside0.mk hc0_2; clear hr0_2 hc0_2; have HB := Aside0.mk (Below.refl w.heap.size w); have H : ((nodeset_Valid.f a1).bind fun t110 => (if t110 = true then (threshold_Satisfied.l0 k a1 0 l0_1 (l0_1.length : Int) 0 a0_0 l0_1 l0_2) else (some false))) = some r := h; clear h; replace H := Option.bind_eq_some_iff.mp H; obtain ⟨t110, A30, H⟩ := H; replace H : (if t110 = true then (threshold_Satisfied.l0 k a1 0 l0_1 (l0_1.length : Int) 0 a0_0 l0_1 l0_2) else (some false)) = some r := H; have A3 := Aside0.mk A30; clear A30
 by_cases c4 : t110 = true
 ·
  subst c4; have H1 : (threshold_Satisfied.l0 k a1 0 l0_1 (l0_1.length : Int) 0 a0_0 l0_1 l0_2) = some r := by rw [if_pos rfl] at H; exact H
  clear H; have H := H1; clear H1; have H' := Aside0.mk H; clear H
  go_enter Try.func83, Try.ntmps83
  go_wp2_with (first | ((with_reducible refine gate_dst (N := 2) rfl ?_); refine box_event ?hg (N := 2) ?hd (cs := #[.int .i64 a0_0, .slice A0_1 l0_1.length c0_1, .slice A0_2 l0_2.length c0_2]) (t := 48) ?hr ?_; (case hd => rfl); (case hg => rfl); (case hr => first | (go_simp; done) | (go_simp; rfl)); intro gb109 hg w5 hbox hb; have BK109 := Aside0.mk (hbox); have GW109 := Aside0.mk ((by rw [hg]; exact (below_size HB.out) : w.heap.size ≤ gb109)); have GE109 := Aside0.mk ((by rw [hg]; exact (below_size HB.out) : w.heap.size ≤ gb109)); replace HB := Aside0.mk (below_step HB.out hb); clear hb hbox hg) | ((with_reducible refine gate_callee (f := 47) rfl ?_); refine goesL_ (some 11) rfl rfl Try.func47 (by kernel_rfl) rfl #[.int .i64 a1] rfl (by (try simp only [List.map_toArray, List.map_cons, List.map_nil]); first | done | rfl | (simp only [List.length_drop, List.length_take]; rfl)) ?_; (with_reducible refine (nodeset_Valid.calls a1 true _ A3.out).mono ?_); rintro e w' ⟨rfl, ⟨nd, rfl⟩⟩; refine ⟨_, rfl, ?_⟩; have hcz6_0 : w5.cell? ⟨gb109, 0, none⟩ = some (.int .i64 a0_0) := (blk_cell BK109.out 0).trans rfl; have hcz6_1 : w5.cell? ⟨gb109, 1, none⟩ = some (.slice A0_1 l0_1.length c0_1) := (blk_cell BK109.out 1).trans rfl; have hcz6_2 : w5.cell? ⟨gb109, 2, none⟩ = some (.slice A0_2 l0_2.length c0_2) := (blk_cell BK109.out 2).trans rfl; have hfz6_0 := blk_frozen BK109.out 0; have hfz6_1 := blk_frozen BK109.out 1; have hfz6_2 := blk_frozen BK109.out 2))
  go_loopg [5, 16] k (fun kq v5 v16 w' => ∃ (x5_1 : Int) (x16_1 : Int), v5 = .int .i64 x5_1 ∧ v16 = .int .i64 x16_1 ∧ Aside0 (threshold_Satisfied.l0 kq a1 x5_1 l0_1 (l0_1.length : Int) x16_1 a0_0 l0_1 l0_2 = some r) ∧ Aside0 (kq ≤ k) ∧ Aside0 (w'.heap[gb109]? = some (.cells #[.int .i64 a0_0, (.slice A0_1 l0_1.length c0_1), (.slice A0_2 l0_2.length c0_2)] 48 (0, 0))) ∧ Aside0 (Below w.heap.size w w'))
  case atStart => exact ⟨(0), (0), (by first | rfl | (simp; done) | (simp [*]; done) | (refine congrArg (Value.int .i64) ?_; unfold wrap64; omega)), (by first | rfl | (simp; done) | (simp [*]; done) | (refine congrArg (Value.int .i64) ?_; unfold wrap64; omega)), H', ⟨Nat.le_refl _⟩, ⟨by (with_reducible repeat (first | refine blk_drewN ?_ _ | refine blk_drew ?_ | refine blk_alloc ?_ _)); exact BK109.out⟩, ⟨by repeat (first | (with_reducible first | exact HB.out | apply below_alloc | apply pw_below_drewN | apply below_drew1 | refine below_set ?_ GE109.out) | exact HB.out)⟩⟩
  case round =>
   clear H'; (try clear p2); (try clear c4); (try clear p6); (try clear hcz6_0); (try clear hcz6_1); (try clear hcz6_2); (try clear hfz6_0); (try clear hfz6_1); (try clear hfz6_2); obtain ⟨x5_1, x16_1, rfl, rfl, HA, HK1, BK109, HB⟩ := hrel
   cases gk with
   | zero => exact absurd HA.out (by simp [threshold_Satisfied.l0])
   | succ k1 =>
    have H := HA.out; clear HA; simp only [threshold_Satisfied.l0] at H
    by_cases c7 : x16_1 < (l0_1.length : Int)
    ·
     rw [if_pos c7] at H; have c7b0 : decide (x16_1 < (l0_1.length : Int)) = true := decide_eq_true c7; clear c7
     by_cases c8 : 0 ≤ x16_1
     ·
      rw [if_pos c8] at H; have c8b0 : decide (0 ≤ x16_1) = true := decide_eq_true c8; clear c8
      by_cases c9 : x16_1 < (l0_1.length : Int)
      ·
       rw [if_pos c9] at H; have c9b0 : decide (x16_1 < (l0_1.length : Int)) = true := decide_eq_true c9; clear c9; replace H := Option.bind_eq_some_iff.mp H; obtain ⟨t112, A100, H⟩ := H; replace H : (if t112 = true then (threshold_Satisfied.l0 k1 a1 (wrap64 (x5_1 + 1)) l0_1 (l0_1.length : Int) (wrap64 (x16_1 + 1)) a0_0 l0_1 l0_2) else (threshold_Satisfied.l0 k1 a1 x5_1 l0_1 (l0_1.length : Int) (wrap64 (x16_1 + 1)) a0_0 l0_1 l0_2)) = some r := H; have A10 := Aside0.mk A100; clear A100
       by_cases c11 : t112 = true
       ·
        subst c11; have H1 : (threshold_Satisfied.l0 k1 a1 (wrap64 (x5_1 + 1)) l0_1 (l0_1.length : Int) (wrap64 (x16_1 + 1)) a0_0 l0_1 l0_2) = some r := by rw [if_pos rfl] at H; exact H
        clear H; have H := H1; clear H1; have H' := Aside0.mk H; clear H; have p111 : 0 ≤ (x16_1 : Int) := of_decide_eq_true (by first | (with_reducible assumption) | assumption); have q111 : x16_1 < (l0_1.length : Int) := of_decide_eq_true (by first | (with_reducible assumption) | assumption); obtain ⟨ad111, e111, hx111_0⟩ := Kd.at_int HR0_1.out x16_1 p111 q111
        cases e111
        replace hx111_0 := (HB.out.cell (World.block_lt_of_cell? w _ hx111_0)).trans hx111_0; replace p111 := eq_true p111; replace q111 := eq_true q111
        go_wp2_with (first | ((with_reducible refine gate_callee (f := 49) rfl ?_); refine goesL_ (some 22) rfl rfl Try.func49 (by kernel_rfl) rfl #[.int .i64 a1, .int .i64 (rd l0_1 x16_1)] rfl (by (try simp only [List.map_toArray, List.map_cons, List.map_nil]); first | done | rfl | (simp only [List.length_drop, List.length_take]; rfl)) ?_; (with_reducible refine (nodeset_Has.calls a1 (rd l0_1 x16_1) true _ A10.out).mono ?_); rintro e w' ⟨rfl, ⟨nd, rfl⟩⟩; refine ⟨_, rfl, ?_⟩))
        go_roundg k1
        case measure => have := HK1.out; omega
        case rel => exact ⟨(wrap64 (x5_1 + 1)), (wrap64 (x16_1 + 1)), (by first | rfl | (simp; done) | (simp [*]; done) | (refine congrArg (Value.int .i64) ?_; unfold wrap64; omega)), (by first | rfl | (simp; done) | (simp [*]; done) | (refine congrArg (Value.int .i64) ?_; unfold wrap64; omega)), H', ⟨by have := HK1.out; omega⟩, ⟨by (with_reducible repeat (first | refine blk_drewN ?_ _ | refine blk_drew ?_ | refine blk_alloc ?_ _)); exact BK109.out⟩, ⟨by repeat (first | (with_reducible first | exact HB.out | apply below_alloc | apply pw_below_drewN | apply below_drew1 | refine below_set ?_ GE109.out) | exact HB.out)⟩⟩
       ·
        replace c11 := Bool.eq_false_iff.mpr c11; subst c11; have H1 : (threshold_Satisfied.l0 k1 a1 x5_1 l0_1 (l0_1.length : Int) (wrap64 (x16_1 + 1)) a0_0 l0_1 l0_2) = some r := by rw [if_neg (show ¬ (false = true) by decide)] at H; exact H
        clear H; have H := H1; clear H1; have H' := Aside0.mk H; clear H; have p111 : 0 ≤ (x16_1 : Int) := of_decide_eq_true (by first | (with_reducible assumption) | assumption); have q111 : x16_1 < (l0_1.length : Int) := of_decide_eq_true (by first | (with_reducible assumption) | assumption); obtain ⟨ad111, e111, hx111_0⟩ := Kd.at_int HR0_1.out x16_1 p111 q111
        cases e111
        replace hx111_0 := (HB.out.cell (World.block_lt_of_cell? w _ hx111_0)).trans hx111_0; replace p111 := eq_true p111; replace q111 := eq_true q111
        go_wp2_with (first | ((with_reducible refine gate_callee (f := 49) rfl ?_); refine goesL_ (some 22) rfl rfl Try.func49 (by kernel_rfl) rfl #[.int .i64 a1, .int .i64 (rd l0_1 x16_1)] rfl (by (try simp only [List.map_toArray, List.map_cons, List.map_nil]); first | done | rfl | (simp only [List.length_drop, List.length_take]; rfl)) ?_; (with_reducible refine (nodeset_Has.calls a1 (rd l0_1 x16_1) false _ A10.out).mono ?_); rintro e w' ⟨rfl, ⟨nd, rfl⟩⟩; refine ⟨_, rfl, ?_⟩))
        go_roundg k1
        case measure => have := HK1.out; omega
        case rel => exact ⟨(x5_1), (wrap64 (x16_1 + 1)), (by first | rfl | (simp; done) | (simp [*]; done) | (refine congrArg (Value.int .i64) ?_; unfold wrap64; omega)), (by first | rfl | (simp; done) | (simp [*]; done) | (refine congrArg (Value.int .i64) ?_; unfold wrap64; omega)), H', ⟨by have := HK1.out; omega⟩, ⟨by (with_reducible repeat (first | refine blk_drewN ?_ _ | refine blk_drew ?_ | refine blk_alloc ?_ _)); exact BK109.out⟩, ⟨by repeat (first | (with_reducible first | exact HB.out | apply below_alloc | apply pw_below_drewN | apply below_drew1 | refine below_set ?_ GE109.out) | exact HB.out)⟩⟩
      ·
       rw [if_neg c9] at H; exact absurd H (by simp)
     ·
      rw [if_neg c8] at H; exact absurd H (by simp)
    ·
     rw [if_neg c7] at H; have c7b0 : decide (x16_1 < (l0_1.length : Int)) = false := decide_eq_false c7; clear c7; have H' := Aside0.mk H; clear H; obtain ⟨hcz12_0, hcz12_1, hcz12_2, hfz12_0, hfz12_1, hfz12_2⟩ := blkC3 BK109.out
     go_wp2
     go_loopg [5, 29] k1 (fun kq v5 v29 w' => ∃ (x5_2 : Int) (x29_2 : Int), v5 = .int .i64 x5_2 ∧ v29 = .int .i64 x29_2 ∧ Aside0 (threshold_Satisfied.l1 kq a1 x5_2 l0_2 (l0_2.length : Int) x29_2 a0_0 l0_1 l0_2 = some r) ∧ Aside0 (kq ≤ k1) ∧ Aside0 (w'.heap[gb109]? = some (.cells #[.int .i64 a0_0, (.slice A0_1 l0_1.length c0_1), (.slice A0_2 l0_2.length c0_2)] 48 (0, 0))) ∧ Aside0 (Below w.heap.size w w'))
     case atStart => exact ⟨(x5_1), (0), (by first | rfl | (simp; done) | (simp [*]; done) | (refine congrArg (Value.int .i64) ?_; unfold wrap64; omega)), (by first | rfl | (simp; done) | (simp [*]; done) | (refine congrArg (Value.int .i64) ?_; unfold wrap64; omega)), H', ⟨Nat.le_refl _⟩, ⟨by exact BK109.out⟩, ⟨by exact HB.out⟩⟩
     case round =>
      clear H'; (try clear c1); (try clear p1); (try clear q1); (try clear hx1); (try clear p2); (try clear c4); (try clear p6); (try clear c7); (try clear c7b0); (try clear c8); (try clear c8b0); (try clear c9); (try clear c9b0); (try clear c11); (try clear p11); (try clear q11); (try clear hx11); (try clear hcz12_0); (try clear hcz12_1); (try clear hcz12_2); (try clear hcz6_0); (try clear hcz6_1); (try clear hcz6_2); (try clear hfz12_0); (try clear hfz12_1); (try clear hfz12_2); (try clear hfz6_0); (try clear hfz6_1); (try clear hfz6_2); (try clear hx111_0); (try clear p111); (try clear p2); (try clear p6); (try clear q111); obtain ⟨x5_2, x29_2, rfl, rfl, HA, HK2, BK109, HB⟩ := hrel
      cases gk with
      | zero => exact absurd HA.out (by simp [threshold_Satisfied.l1])
      | succ k2 =>
       have H := HA.out; clear HA; simp only [threshold_Satisfied.l1] at H
       by_cases c13 : x29_2 < (l0_2.length : Int)
       ·
        rw [if_pos c13] at H; have c13b0 : decide (x29_2 < (l0_2.length : Int)) = true := decide_eq_true c13; clear c13
        by_cases c14 : 0 ≤ x29_2
        ·
         rw [if_pos c14] at H; have c14b0 : decide (0 ≤ x29_2) = true := decide_eq_true c14; clear c14
         by_cases c15 : x29_2 < (l0_2.length : Int)
         ·
          rw [if_pos c15] at H; have c15b0 : decide (x29_2 < (l0_2.length : Int)) = true := decide_eq_true c15; clear c15; replace H := Option.bind_eq_some_iff.mp H; obtain ⟨t115, A160, H⟩ := H; replace H : (if t115 = true then (threshold_Satisfied.l1 k2 a1 (wrap64 (x5_2 + 1)) l0_2 (l0_2.length : Int) (wrap64 (x29_2 + 1)) a0_0 l0_1 l0_2) else (threshold_Satisfied.l1 k2 a1 x5_2 l0_2 (l0_2.length : Int) (wrap64 (x29_2 + 1)) a0_0 l0_1 l0_2)) = some r := H; have A16 := Aside0.mk A160; clear A160
          by_cases c17 : t115 = true
          ·
           subst c17; have H1 : (threshold_Satisfied.l1 k2 a1 (wrap64 (x5_2 + 1)) l0_2 (l0_2.length : Int) (wrap64 (x29_2 + 1)) a0_0 l0_1 l0_2) = some r := by rw [if_pos rfl] at H; exact H
           clear H; have H := H1; clear H1; have H' := Aside0.mk H; clear H; have p113 : 0 ≤ (x29_2 : Int) := of_decide_eq_true (by first | (with_reducible assumption) | assumption); have q113 : x29_2 < (l0_2.length : Int) := of_decide_eq_true (by first | (with_reducible assumption) | assumption); obtain ⟨ad113, A113_1, c113_1, A113_2, c113_2, e113, hx113_0, hx113_1, hx113_2, hl113_1, hi113_1, hl113_2, hi113_2⟩ := at_T48 HR0_2.out x29_2 p113 q113
           cases e113
           replace hx113_0 := (HB.out.cell (World.block_lt_of_cell? w _ hx113_0)).trans hx113_0; replace hx113_1 := (HB.out.cell (World.block_lt_of_cell? w _ hx113_1)).trans hx113_1; replace hx113_2 := (HB.out.cell (World.block_lt_of_cell? w _ hx113_2)).trans hx113_2; have HR113_1 := Aside0.mk hi113_1; have HC113_1 := Aside0.mk hl113_1; clear hi113_1 hl113_1; have HR113_2 := Aside0.mk hi113_2; have HC113_2 := Aside0.mk hl113_2; clear hi113_2 hl113_2; replace p113 := eq_true p113; replace q113 := eq_true q113
           go_wp2_with (first | ((with_reducible refine gate_dst (N := 9) rfl ?_); refine box_event ?hg (N := 9) ?hd (cs := #[.int .i64 0, .slice none 0 0, .slice none 0 0]) (t := 48) ?hr ?_; (case hd => rfl); (case hg => rfl); (case hr => first | (go_simp; done) | (go_simp; rfl)); intro gb114 hg w18 hbox hb; have BK114 := Aside0.mk (hbox); have GW114 := Aside0.mk ((by rw [hg]; exact (below_size HB.out) : w.heap.size ≤ gb114)); have GE114 := Aside0.mk ((by rw [hg]; exact (below_size HB.out) : w.heap.size ≤ gb114)); replace HB := Aside0.mk (below_step HB.out hb); have NB109_114 := Aside0.mk ((by rw [hg]; exact Nat.ne_of_lt (blk_lt BK109.out) : gb109 ≠ gb114)); have NB114_109 := Aside0.mk ((by rw [hg]; exact Nat.ne_of_gt (blk_lt BK109.out) : gb114 ≠ gb109)); replace BK109 := Aside0.mk (blk_below BK109.out hb); clear hb hbox hg; have hnb19 := NB114_109.out; have hnc19 := NB109_114.out; obtain ⟨hcz20_0, hcz20_1, hcz20_2, hfz20_0, hfz20_1, hfz20_2⟩ := blkC3 BK114.out) | ((with_reducible refine gate_callee (f := 83) rfl ?_); refine goesL_ (some 35) rfl rfl Try.func83 (by kernel_rfl) rfl #[.agg #[.int .i64 ((rd_T48 l0_2 x29_2).f0), .slice A113_1 ((rd_T48 l0_2 x29_2).f1).length c113_1, .slice A113_2 ((rd_T48 l0_2 x29_2).f2).length c113_2], .int .i64 a1] rfl (by (try simp only [List.map_toArray, List.map_cons, List.map_nil]); first | done | rfl | (simp only [List.length_drop, List.length_take]; rfl)) ?_; (with_reducible refine (ih k2 (by have := HK1.out; have := HK2.out; omega) ((rd_T48 l0_2 x29_2).f0) _ _ ((rd_T48 l0_2 x29_2).f1) _ _ ((rd_T48 l0_2 x29_2).f2) a1 true _ ?side1 ?side2 ?side3 ?side4 A16.out).mono ?_); (case side1 => exact Kd.C_below HR113_1.out (by repeat (first | (with_reducible first | exact HB.out | apply below_alloc | apply pw_below_drewN | apply below_drew1 | refine below_set ?_ GE109.out | refine below_set ?_ GE114.out) | exact HB.out))); (case side2 => exact HC113_1.out); (case side3 => exact Kd.C_below HR113_2.out (by repeat (first | (with_reducible first | exact HB.out | apply below_alloc | apply pw_below_drewN | apply below_drew1 | refine below_set ?_ GE109.out | refine below_set ?_ GE114.out) | exact HB.out))); (case side4 => exact HC113_2.out); rintro e w21 ⟨rfl, hb⟩; refine ⟨_, rfl, ?_⟩; replace BK109 := Aside0.mk (blk_below (g := gb109) (o := .cells #[.int .i64 a0_0, .slice A0_1 l0_1.length c0_1, .slice (some ad113) l0_2.length c0_2] 48 (0, 0)) (by (with_reducible repeat (first | refine blk_drewN ?_ _ | refine blk_drew ?_ | refine blk_alloc ?_ _)); refine blk_far ?_ NB109_114.out _; (with_reducible repeat (first | refine blk_drewN ?_ _ | refine blk_drew ?_ | refine blk_alloc ?_ _)); refine blk_far ?_ NB109_114.out _; (with_reducible repeat (first | refine blk_drewN ?_ _ | refine blk_drew ?_ | refine blk_alloc ?_ _)); refine blk_far ?_ NB109_114.out _; (with_reducible repeat (first | refine blk_drewN ?_ _ | refine blk_drew ?_ | refine blk_alloc ?_ _)); exact BK109.out) hb); replace BK114 := Aside0.mk (blk_below (g := gb114) (o := .cells #[.int .i64 ((rd_T48 l0_2 x29_2).f0), .slice A113_1 ((rd_T48 l0_2 x29_2).f1).length c113_1, .slice A113_2 ((rd_T48 l0_2 x29_2).f2).length c113_2] 48 (0, 0)) (by (with_reducible repeat (first | refine blk_drewN ?_ _ | refine blk_drew ?_ | refine blk_alloc ?_ _)); refine blk_put (cs := #[.int .i64 ((rd_T48 l0_2 x29_2).f0), .slice A113_1 ((rd_T48 l0_2 x29_2).f1).length c113_1, .slice none 0 0]) ?_ 2 _ rfl; (with_reducible repeat (first | refine blk_drewN ?_ _ | refine blk_drew ?_ | refine blk_alloc ?_ _)); refine blk_put (cs := #[.int .i64 ((rd_T48 l0_2 x29_2).f0), .slice none 0 0, .slice none 0 0]) ?_ 1 _ rfl; (with_reducible repeat (first | refine blk_drewN ?_ _ | refine blk_drew ?_ | refine blk_alloc ?_ _)); refine blk_put (cs := #[.int .i64 0, .slice none 0 0, .slice none 0 0]) ?_ 0 _ rfl; (with_reducible repeat (first | refine blk_drewN ?_ _ | refine blk_drew ?_ | refine blk_alloc ?_ _)); exact BK114.out) hb); replace HB := Aside0.mk (below_step (by repeat (first | (with_reducible first | exact HB.out | apply below_alloc | apply pw_below_drewN | apply below_drew1 | refine below_set ?_ GE109.out | refine below_set ?_ GE114.out) | exact HB.out)) hb); (try clear hb); (try clear hb2); (try clear hk); (try clear hi)))
           go_roundg k2
           case measure => have := HK1.out; have := HK2.out; omega
           case rel => exact ⟨(wrap64 (x5_2 + 1)), (wrap64 (x29_2 + 1)), (by first | rfl | (simp; done) | (simp [*]; done) | (refine congrArg (Value.int .i64) ?_; unfold wrap64; omega)), (by first | rfl | (simp; done) | (simp [*]; done) | (refine congrArg (Value.int .i64) ?_; unfold wrap64; omega)), H', ⟨by have := HK1.out; have := HK2.out; omega⟩, ⟨by exact BK109.out⟩, ⟨by exact HB.out⟩⟩
          ·
           replace c17 := Bool.eq_false_iff.mpr c17; subst c17; have H1 : (threshold_Satisfied.l1 k2 a1 x5_2 l0_2 (l0_2.length : Int) (wrap64 (x29_2 + 1)) a0_0 l0_1 l0_2) = some r := by rw [if_neg (show ¬ (false = true) by decide)] at H; exact H
           clear H; have H := H1; clear H1; have H' := Aside0.mk H; clear H; have p113 : 0 ≤ (x29_2 : Int) := of_decide_eq_true (by first | (with_reducible assumption) | assumption); have q113 : x29_2 < (l0_2.length : Int) := of_decide_eq_true (by first | (with_reducible assumption) | assumption); obtain ⟨ad113, A113_1, c113_1, A113_2, c113_2, e113, hx113_0, hx113_1, hx113_2, hl113_1, hi113_1, hl113_2, hi113_2⟩ := at_T48 HR0_2.out x29_2 p113 q113
           cases e113
           replace hx113_0 := (HB.out.cell (World.block_lt_of_cell? w _ hx113_0)).trans hx113_0; replace hx113_1 := (HB.out.cell (World.block_lt_of_cell? w _ hx113_1)).trans hx113_1; replace hx113_2 := (HB.out.cell (World.block_lt_of_cell? w _ hx113_2)).trans hx113_2; have HR113_1 := Aside0.mk hi113_1; have HC113_1 := Aside0.mk hl113_1; clear hi113_1 hl113_1; have HR113_2 := Aside0.mk hi113_2; have HC113_2 := Aside0.mk hl113_2; clear hi113_2 hl113_2; replace p113 := eq_true p113; replace q113 := eq_true q113
           go_wp2_with (first | ((with_reducible refine gate_dst (N := 9) rfl ?_); refine box_event ?hg (N := 9) ?hd (cs := #[.int .i64 0, .slice none 0 0, .slice none 0 0]) (t := 48) ?hr ?_; (case hd => rfl); (case hg => rfl); (case hr => first | (go_simp; done) | (go_simp; rfl)); intro gb114 hg w22 hbox hb; have BK114 := Aside0.mk (hbox); have GW114 := Aside0.mk ((by rw [hg]; exact (below_size HB.out) : w.heap.size ≤ gb114)); have GE114 := Aside0.mk ((by rw [hg]; exact (below_size HB.out) : w.heap.size ≤ gb114)); replace HB := Aside0.mk (below_step HB.out hb); have NB109_114 := Aside0.mk ((by rw [hg]; exact Nat.ne_of_lt (blk_lt BK109.out) : gb109 ≠ gb114)); have NB114_109 := Aside0.mk ((by rw [hg]; exact Nat.ne_of_gt (blk_lt BK109.out) : gb114 ≠ gb109)); replace BK109 := Aside0.mk (blk_below BK109.out hb); clear hb hbox hg; have hnb23 := NB114_109.out; have hnc23 := NB109_114.out; obtain ⟨hcz24_0, hcz24_1, hcz24_2, hfz24_0, hfz24_1, hfz24_2⟩ := blkC3 BK114.out) | ((with_reducible refine gate_callee (f := 83) rfl ?_); refine goesL_ (some 35) rfl rfl Try.func83 (by kernel_rfl) rfl #[.agg #[.int .i64 ((rd_T48 l0_2 x29_2).f0), .slice A113_1 ((rd_T48 l0_2 x29_2).f1).length c113_1, .slice A113_2 ((rd_T48 l0_2 x29_2).f2).length c113_2], .int .i64 a1] rfl (by (try simp only [List.map_toArray, List.map_cons, List.map_nil]); first | done | rfl | (simp only [List.length_drop, List.length_take]; rfl)) ?_; (with_reducible refine (ih k2 (by have := HK1.out; have := HK2.out; omega) ((rd_T48 l0_2 x29_2).f0) _ _ ((rd_T48 l0_2 x29_2).f1) _ _ ((rd_T48 l0_2 x29_2).f2) a1 false _ ?side1 ?side2 ?side3 ?side4 A16.out).mono ?_); (case side1 => exact Kd.C_below HR113_1.out (by repeat (first | (with_reducible first | exact HB.out | apply below_alloc | apply pw_below_drewN | apply below_drew1 | refine below_set ?_ GE109.out | refine below_set ?_ GE114.out) | exact HB.out))); (case side2 => exact HC113_1.out); (case side3 => exact Kd.C_below HR113_2.out (by repeat (first | (with_reducible first | exact HB.out | apply below_alloc | apply pw_below_drewN | apply below_drew1 | refine below_set ?_ GE109.out | refine below_set ?_ GE114.out) | exact HB.out))); (case side4 => exact HC113_2.out); rintro e w25 ⟨rfl, hb⟩; refine ⟨_, rfl, ?_⟩; replace BK109 := Aside0.mk (blk_below (g := gb109) (o := .cells #[.int .i64 a0_0, .slice A0_1 l0_1.length c0_1, .slice (some ad113) l0_2.length c0_2] 48 (0, 0)) (by (with_reducible repeat (first | refine blk_drewN ?_ _ | refine blk_drew ?_ | refine blk_alloc ?_ _)); refine blk_far ?_ NB109_114.out _; (with_reducible repeat (first | refine blk_drewN ?_ _ | refine blk_drew ?_ | refine blk_alloc ?_ _)); refine blk_far ?_ NB109_114.out _; (with_reducible repeat (first | refine blk_drewN ?_ _ | refine blk_drew ?_ | refine blk_alloc ?_ _)); refine blk_far ?_ NB109_114.out _; (with_reducible repeat (first | refine blk_drewN ?_ _ | refine blk_drew ?_ | refine blk_alloc ?_ _)); exact BK109.out) hb); replace BK114 := Aside0.mk (blk_below (g := gb114) (o := .cells #[.int .i64 ((rd_T48 l0_2 x29_2).f0), .slice A113_1 ((rd_T48 l0_2 x29_2).f1).length c113_1, .slice A113_2 ((rd_T48 l0_2 x29_2).f2).length c113_2] 48 (0, 0)) (by (with_reducible repeat (first | refine blk_drewN ?_ _ | refine blk_drew ?_ | refine blk_alloc ?_ _)); refine blk_put (cs := #[.int .i64 ((rd_T48 l0_2 x29_2).f0), .slice A113_1 ((rd_T48 l0_2 x29_2).f1).length c113_1, .slice none 0 0]) ?_ 2 _ rfl; (with_reducible repeat (first | refine blk_drewN ?_ _ | refine blk_drew ?_ | refine blk_alloc ?_ _)); refine blk_put (cs := #[.int .i64 ((rd_T48 l0_2 x29_2).f0), .slice none 0 0, .slice none 0 0]) ?_ 1 _ rfl; (with_reducible repeat (first | refine blk_drewN ?_ _ | refine blk_drew ?_ | refine blk_alloc ?_ _)); refine blk_put (cs := #[.int .i64 0, .slice none 0 0, .slice none 0 0]) ?_ 0 _ rfl; (with_reducible repeat (first | refine blk_drewN ?_ _ | refine blk_drew ?_ | refine blk_alloc ?_ _)); exact BK114.out) hb); replace HB := Aside0.mk (below_step (by repeat (first | (with_reducible first | exact HB.out | apply below_alloc | apply pw_below_drewN | apply below_drew1 | refine below_set ?_ GE109.out | refine below_set ?_ GE114.out) | exact HB.out)) hb); (try clear hb); (try clear hb2); (try clear hk); (try clear hi)))
           go_roundg k2
           case measure => have := HK1.out; have := HK2.out; omega
           case rel => exact ⟨(x5_2), (wrap64 (x29_2 + 1)), (by first | rfl | (simp; done) | (simp [*]; done) | (refine congrArg (Value.int .i64) ?_; unfold wrap64; omega)), (by first | rfl | (simp; done) | (simp [*]; done) | (refine congrArg (Value.int .i64) ?_; unfold wrap64; omega)), H', ⟨by have := HK1.out; have := HK2.out; omega⟩, ⟨by exact BK109.out⟩, ⟨by exact HB.out⟩⟩
         ·
          rw [if_neg c15] at H; exact absurd H (by simp)
        ·
         rw [if_neg c14] at H; exact absurd H (by simp)
       ·
        rw [if_neg c13] at H; have c13b0 : decide (x29_2 < (l0_2.length : Int)) = false := decide_eq_false c13; clear c13; obtain rfl := Option.some.inj H; obtain ⟨hcz26_0, hcz26_1, hcz26_2, hfz26_0, hfz26_1, hfz26_2⟩ := blkC3 BK109.out
        go_wp2
        go_ret
        exact ⟨by first | rfl | (simp [errW_none, errW_some] <;> rfl) | (simp [*, errW_none, errW_some] <;> rfl), by exact HB.out⟩
 ·
  replace c4 := Bool.eq_false_iff.mpr c4; subst c4; have H1 : (some false) = some r := by rw [if_neg (show ¬ (false = true) by decide)] at H; exact H
  clear H; have H := H1; clear H1; obtain rfl := Option.some.inj H
  go_enter Try.func83, Try.ntmps83
  go_wp2_with (first | ((with_reducible refine gate_dst (N := 2) rfl ?_); refine box_event ?hg (N := 2) ?hd (cs := #[.int .i64 a0_0, .slice A0_1 l0_1.length c0_1, .slice A0_2 l0_2.length c0_2]) (t := 48) ?hr ?_; (case hd => rfl); (case hg => rfl); (case hr => first | (go_simp; done) | (go_simp; rfl)); intro gb109 hg w27 hbox hb; have BK109 := Aside0.mk (hbox); have GW109 := Aside0.mk ((by rw [hg]; exact (below_size HB.out) : w.heap.size ≤ gb109)); have GE109 := Aside0.mk ((by rw [hg]; exact (below_size HB.out) : w.heap.size ≤ gb109)); replace HB := Aside0.mk (below_step HB.out hb); clear hb hbox hg) | ((with_reducible refine gate_callee (f := 47) rfl ?_); refine goesL_ (some 11) rfl rfl Try.func47 (by kernel_rfl) rfl #[.int .i64 a1] rfl (by (try simp only [List.map_toArray, List.map_cons, List.map_nil]); first | done | rfl | (simp only [List.length_drop, List.length_take]; rfl)) ?_; (with_reducible refine (nodeset_Valid.calls a1 false _ A3.out).mono ?_); rintro e w' ⟨rfl, ⟨nd, rfl⟩⟩; refine ⟨_, rfl, ?_⟩))
  go_ret
  exact ⟨by first | rfl | (simp [errW_none, errW_some] <;> rfl) | (simp [*, errW_none, errW_some] <;> rfl), by repeat (first | (with_reducible first | exact HB.out | apply below_alloc | apply pw_below_drewN | apply below_drew1 | refine below_set ?_ GE109.out) | exact HB.out)⟩
end Go.Proofs.Ytmeamdklonmahaa.QFederatedView
