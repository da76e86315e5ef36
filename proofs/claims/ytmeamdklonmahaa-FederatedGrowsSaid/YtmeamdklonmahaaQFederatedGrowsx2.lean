/- Lean functions that answer as the Go functions do which the law reaches, and proofs that the Go code comes to exactly these answers. Conditions: those that each theorem names. -/
import Derived.Test.YtmeamdklonmahaaQFederatedGrowsx0
import Derived.Test.YtmeamdklonmahaaQFederatedGrowsx1
namespace Go.Proofs.Ytmeamdklonmahaa.QFederatedGrows
open Go.RowKit Go.Proofs.YtmeamdklonmahaaW.PrintWords Go.Proofs.YtmeamdklonmahaaW.PrintLast Go.Proofs.YtmeamdklonmahaaW.PrintMore
attribute [local go_sem] max2_int min2_int max_two min_two max_three min_three max_four min_four   -- for this text's walks alone
set_option linter.unusedVariables false
set_option linter.unusedSimpArgs false

/-! ### trustquorummake_trust: function 62 -/
mutual
def trustquorummake_trust.l0 : Nat → Int → Int → List Int → Int → Int → List Int → Int → Int → List Int → Option (Int × List Int × (List (S48)) × Int)
  | 0, _, _, _, _, _, _, _, _, _ => none
  | k + 1, x1, x2, x20, x21, x22, x1000, x1001, x120000, x120001 => if x22 < x21 then (if 0 ≤ x22 then (if x22 < (x20.length : Int) then (if x120001.length < 17592186044416 then (trustquorummake_trust.l0 k x1 x2 x20 x21 (wrap64 (x22 + 1)) x1000 x1001 x120000 (x120001 ++ [rd x20 x22])) else (none)) else (none)) else (none)) else (if x2 > 1 then ((trustquorummake_Tape_Pick.f x1000 x1001 (([0, 0, 1, 1, 2, 3] : List Int))).bind fun bt136 => (trustquorummake_trust.l1 k x1 x2 bt136.1 x1000 bt136.2 x120000 x120001 ([] : List (S48)))) else ((trustquorummake_Tape_Range.f x1000 x1001 1 (wrap64 ((x120001.length : Int)))).bind fun bt157 => (some (bt157.1, x120001, ([] : List (S48)), bt157.2))))
def trustquorummake_trust.l1 : Nat → Int → Int → Int → List Int → Int → Int → List Int → List (S48) → Option (Int × List Int × (List (S48)) × Int)
  | 0, _, _, _, _, _, _, _, _ => none
  | k + 1, x1, x2, x11, x1000, x1001, x120000, x120001, x120002 => if x11 > 0 then ((trustquorummake_trust.f k x1000 x1001 x1 (wrap64 (x2 - 1))).bind fun bt138 => (if x120002.length < 2513169434916 then (trustquorummake_trust.l1 k x1 x2 (wrap64 (x11 - 1)) x1000 bt138.2.2.2 x120000 x120001 (x120002 ++ [(⟨bt138.1, bt138.2.1, bt138.2.2.1⟩ : S48)])) else (none))) else (if (x120002.length : Int) > 0 then ((trustquorummake_Tape_N.f x1000 x1001 3).bind fun bt149 => (if bt149.1 = 0 then ((trustquorummake_Tape_Range.f x1000 bt149.2 1 (wrap64 ((x120002.length : Int)))).bind fun bt151 => (some (bt151.1, ([] : List Int), x120002, bt151.2))) else ((trustquorummake_Tape_Range.f x1000 bt149.2 1 (wrap64 ((x120001.length : Int) + (x120002.length : Int)))).bind fun bt153 => (some (bt153.1, x120001, x120002, bt153.2))))) else ((trustquorummake_Tape_Range.f x1000 x1001 1 (wrap64 ((x120001.length : Int) + (x120002.length : Int)))).bind fun bt155 => (some (bt155.1, x120001, x120002, bt155.2))))
def trustquorummake_trust.f : Nat → List Int → Int → Int → Int → Option (Int × List Int × (List (S48)) × Int)
  | 0, _, _, _, _ => none
  | k + 1, s0_0, s0_1, a1, a2 => (trustquorummake_Tape_Order.f k s0_0 s0_1 a1).bind fun bt120 => ((trustquorummake_Tape_Range.f s0_0 bt120.2 1 (mn a1 5)).bind fun bt124 => (if 0 ≤ bt124.1 then (if bt124.1 ≤ (bt120.1.length : Int) then ((some (bt120.1.take (bt124.1 : Int).toNat : List Int)).bind fun y126 => (trustquorummake_trust.l0 k a1 a2 y126 (y126.length : Int) 0 s0_0 bt124.2 0 ([] : List Int))) else (none)) else (none)))
end
theorem trustquorummake_trust.mono_l : ∀ k, (∀ y0 y1 y2 y3, LeO (trustquorummake_trust.f k y0 y1 y2 y3) (trustquorummake_trust.f (k + 1) y0 y1 y2 y3)) ∧ (∀ y0 y1 y2 y3 y4 y5 y6 y7 y8, LeO (trustquorummake_trust.l0 k y0 y1 y2 y3 y4 y5 y6 y7 y8) (trustquorummake_trust.l0 (k + 1) y0 y1 y2 y3 y4 y5 y6 y7 y8)) ∧ (∀ y0 y1 y2 y3 y4 y5 y6 y7, LeO (trustquorummake_trust.l1 k y0 y1 y2 y3 y4 y5 y6 y7) (trustquorummake_trust.l1 (k + 1) y0 y1 y2 y3 y4 y5 y6 y7))
  | 0 => ⟨fun _ _ _ _ r h => by simp [trustquorummake_trust.f] at h, fun _ _ _ _ _ _ _ _ _ r h => by simp [trustquorummake_trust.l0] at h, fun _ _ _ _ _ _ _ _ r h => by simp [trustquorummake_trust.l1] at h⟩
  | k + 1 => by
    obtain ⟨ih0, ih1, ih2⟩ := trustquorummake_trust.mono_l k
    refine ⟨?_, ?_, ?_⟩
    · intro y0 y1 y2 y3
      unfold trustquorummake_trust.f
      repeat' first
      | (with_reducible exact ih0 _ _ _ _)
      | (with_reducible exact ih1 _ _ _ _ _ _ _ _ _)
      | (with_reducible exact ih2 _ _ _ _ _ _ _ _)
      | (with_reducible exact trustquorummake_Tape_Order.mono _ _ _ _)
      | (with_reducible exact LeO.refl _)
      | (with_reducible exact LeO.none _)
      | (with_reducible refine LeO.ite ?_ ?_)
      | (with_reducible refine LeO.bind ?_ (fun _ => ?_))
      | exact ih0 _ _ _ _
      | exact ih1 _ _ _ _ _ _ _ _ _
      | exact ih2 _ _ _ _ _ _ _ _
      | exact trustquorummake_Tape_Order.mono _ _ _ _
      | exact LeO.none _
      | refine LeO.ite ?_ ?_
      | refine LeO.bind ?_ (fun _ => ?_)
    · intro y0 y1 y2 y3 y4 y5 y6 y7 y8
      unfold trustquorummake_trust.l0
      repeat' first
      | (with_reducible exact ih0 _ _ _ _)
      | (with_reducible exact ih1 _ _ _ _ _ _ _ _ _)
      | (with_reducible exact ih2 _ _ _ _ _ _ _ _)
      | (with_reducible exact trustquorummake_Tape_Order.mono _ _ _ _)
      | (with_reducible exact LeO.refl _)
      | (with_reducible exact LeO.none _)
      | (with_reducible refine LeO.ite ?_ ?_)
      | (with_reducible refine LeO.bind ?_ (fun _ => ?_))
      | exact ih0 _ _ _ _
      | exact ih1 _ _ _ _ _ _ _ _ _
      | exact ih2 _ _ _ _ _ _ _ _
      | exact trustquorummake_Tape_Order.mono _ _ _ _
      | exact LeO.none _
      | refine LeO.ite ?_ ?_
      | refine LeO.bind ?_ (fun _ => ?_)
    · intro y0 y1 y2 y3 y4 y5 y6 y7
      unfold trustquorummake_trust.l1
      repeat' first
      | (with_reducible exact ih0 _ _ _ _)
      | (with_reducible exact ih1 _ _ _ _ _ _ _ _ _)
      | (with_reducible exact ih2 _ _ _ _ _ _ _ _)
      | (with_reducible exact trustquorummake_Tape_Order.mono _ _ _ _)
      | (with_reducible exact LeO.refl _)
      | (with_reducible exact LeO.none _)
      | (with_reducible refine LeO.ite ?_ ?_)
      | (with_reducible refine LeO.bind ?_ (fun _ => ?_))
      | exact ih0 _ _ _ _
      | exact ih1 _ _ _ _ _ _ _ _ _
      | exact ih2 _ _ _ _ _ _ _ _
      | exact trustquorummake_Tape_Order.mono _ _ _ _
      | exact LeO.none _
      | refine LeO.ite ?_ ?_
      | refine LeO.bind ?_ (fun _ => ?_)
theorem trustquorummake_trust.mono : ∀ a0 a1 a2 a3 k, LeO (trustquorummake_trust.f k a0 a1 a2 a3) (trustquorummake_trust.f (k + 1) a0 a1 a2 a3) := by
  intro a0 a1 a2 a3 k
  obtain ⟨ih0, ih1, ih2⟩ := trustquorummake_trust.mono_l k
  exact ih0 a0 a1 a2 a3
def trustquorummake_trust.T12 : Bool × List (List Nat × List Nat) := (true, [([], []), ([0], [0]), ([], []), ([], []), ([], []), ([4], [4]), ([2, 3, 5], [2, 3, 5]), ([6], [6]), ([1, 7, 6], [1, 7]), ([0, 1, 2, 3, 4, 5, 6, 7, 8], []), ([9, 8, 8, 0, 1, 2, 3, 4, 5, 6, 7, 8], [8, 9])])
def trustquorummake_trust.B12 : List Nat := [0, 1, 0, 0, 0, 16, 60, 124, 255, 511, 1023]
theorem trustquorummake_trust.tab12 : rtab .any (opsOf Try.f62 12) = trustquorummake_trust.T12 := by kernel_rfl
theorem trustquorummake_trust.bits12 : waitsOk trustquorummake_trust.T12.2 trustquorummake_trust.B12 = true := by kernel_rfl
set_option maxHeartbeats 8000000 in
set_option maxRecDepth 100000 in
theorem trustquorummake_trust.calls (k : Nat) : ∀ (g : Nat) (s0_0 : List Int) (s0_1 : Int) (a1 : Int) (a2 : Int) (r1 : Int) (r2 : List Int) (r3 : List (S48)) (r4 : Int) (w0 w : World) (hI : IsS78 w0 w g s0_0 s0_1) (hB : Below w0.heap.size w0 w) (h : trustquorummake_trust.f k s0_0 s0_1 a1 a2 = some (r1, r2, r3, r4)),
    Calls Try.prog 62 #[.pointer (some ⟨g, 0, none⟩), .int .i64 a1, .int .i64 a2] w fun e w' => ∃ v1_ v2_ : Value, e = .returned (.agg #[.int .i64 r1, v1_, v2_]) ∧ Kd.R (Kd.int .i64) 3 w' w.heap.size (fun _ => True) v1_ r2 ∧ Kd.R k48 48 w' w.heap.size (fun k_ => some k_ ≠ (v1_ : Value).ownBlock) v2_ r3 ∧ IsS78 w0 w' g s0_0 r4 ∧ Below w0.heap.size w0 w' ∧ KeepBut w w' g none := by
  induction k using Nat.strongRecOn with
  | _ k ih =>
  intro g s0_0 s0_1 a1 a2 r1 r2 r3 r4 w0 w hI hB h
  cases k with
  | zero => exact absurd h (by simp [trustquorummake_trust.f])
  | succ k =>
  simp only [trustquorummake_trust.f] at h
  have hu48 := Try.underlying48
  have HI0 := Aside0.mk hI
  have HK := Aside0.mk (KeepBut.refl w g none)
  have HL := Aside0.mk hB.size
  clear hI
  have HW0 := Aside0.mk hB.size
  have HB := Aside0.mk hB
  clear hB
  have H : ((trustquorummake_Tape_Order.f k s0_0 s0_1 a1).bind fun bt120 => ((trustquorummake_Tape_Range.f s0_0 bt120.2 1 (mn a1 5)).bind fun bt124 => (if 0 ≤ bt124.1 then (if bt124.1 ≤ (bt120.1.length : Int) then ((some (bt120.1.take (bt124.1 : Int).toNat : List Int)).bind fun y126 => (trustquorummake_trust.l0 k a1 a2 y126 (y126.length : Int) 0 s0_0 bt124.2 0 ([] : List Int))) else (none)) else (none)))) = some (r1, r2, r3, r4) := h
  clear h
  replace H := Option.bind_eq_some_iff.mp H
  obtain ⟨⟨t120, t123⟩, A40, H⟩ := H
  replace H : ((trustquorummake_Tape_Range.f s0_0 t123 1 (mn a1 5)).bind fun bt124 => (if 0 ≤ bt124.1 then (if bt124.1 ≤ (t120.length : Int) then ((some (t120.take (bt124.1 : Int).toNat : List Int)).bind fun y126 => (trustquorummake_trust.l0 k a1 a2 y126 (y126.length : Int) 0 s0_0 bt124.2 0 ([] : List Int))) else (none)) else (none))) = some (r1, r2, r3, r4) := H
  have A4 := Aside0.mk A40
  clear A40
  obtain ⟨ji5, hji5⟩ : ∃ j_ : Int, (mn a1 5) = j_ := ⟨_, rfl⟩
  replace H : ((trustquorummake_Tape_Range.f s0_0 t123 1 (ji5)).bind fun bt124 => (if 0 ≤ bt124.1 then (if bt124.1 ≤ (t120.length : Int) then ((some (t120.take (bt124.1 : Int).toNat : List Int)).bind fun y126 => (trustquorummake_trust.l0 k a1 a2 y126 (y126.length : Int) 0 s0_0 bt124.2 0 ([] : List Int))) else (none)) else (none))) = some (r1, r2, r3, r4) := by first | (rw [hji5] at H; exact H) | (simp only [hji5] at H ⊢; exact H)
  (try rw [hji5] at A4)
  (try (have hji5h : ji5 ≤ 5 := by (rw [← hji5]; unfold mn; (repeat' split) <;> omega)))
  (try (have hji5g : ji5 ≤ 64 := by omega))
  have hji5_ : (if 5 < a1 then 5 else a1) = ji5 := hji5
  replace H := Option.bind_eq_some_iff.mp H
  obtain ⟨⟨t124, t125⟩, A60, H⟩ := H
  replace H : (if 0 ≤ t124 then (if t124 ≤ (t120.length : Int) then ((some (t120.take (t124 : Int).toNat : List Int)).bind fun y126 => (trustquorummake_trust.l0 k a1 a2 y126 (y126.length : Int) 0 s0_0 t125 0 ([] : List Int))) else (none)) else (none)) = some (r1, r2, r3, r4) := H
  have A6 := Aside0.mk A60
  clear A60
  by_cases c7 : 0 ≤ t124
  · rw [if_pos c7] at H
    have c7b0 := eq_true c7
    have c7b1 : decide (0 ≤ t124) = true := decide_eq_true c7
    clear c7
    by_cases c8 : t124 ≤ (t120.length : Int)
    · rw [if_pos c8] at H
      have c8b0 := eq_true c8
      have c8b1 : decide (t124 ≤ (t120.length : Int)) = true := decide_eq_true c8
      clear c8
      obtain ⟨y126, hy126⟩ : ∃ y_ : List Int, y_ = (t120.take (t124 : Int).toNat) := ⟨_, rfl⟩
      replace H : (trustquorummake_trust.l0 k a1 a2 y126 (y126.length : Int) 0 s0_0 t125 0 ([] : List Int)) = some (r1, r2, r3, r4) := by first | (rw [hy126]; with_reducible exact H) | (have H2_ := (Option.bind_some _ _).symm.trans H; rw [hy126]; with_reducible exact H2_) | (have H2_ := (Option.bind_some _ _).symm.trans H; with_reducible exact H2_) | with_reducible exact H | (rw [hy126]; exact H) | exact H
      have Ny126 := Aside0.mk hy126
      clear hy126
      have H' := Aside0.mk H
      clear H
      go_enter Try.func62, Try.ntmps62
      go_wp2_with (first | ((with_reducible refine gate_dst (N := 6) rfl ?_); refine box_event ?hg (N := 6) ?hd (cs := #[.int .i64 0, .slice none 0 0, .slice none 0 0]) (t := 48) ?hr ?_; (case hd => rfl); (case hg => rfl); (case hr => first | (go_simp; done) | (go_simp; rfl)); intro gb118 hg w9 hbox hb; have n0_ := Aside0.mk (IsS78.below (by repeat (first | (with_reducible first | exact HI0.out | apply IsS78.alloc | apply IsS78.drewN | apply IsS78.drew | apply IsS78.set_1) | exact HI0.out)) hb); have n1_ := Aside0.mk (KeepBut.trans (by repeat (first | (with_reducible first | exact HK.out | apply KeepBut.set_ | apply keep_drewN | apply keep_drew | apply keep_alloc) | exact HK.out)) (KeepBut.of_below hb g none) (.inl rfl)); have n2_ := Aside0.mk (below_step (by repeat (first | (with_reducible first | exact HB.out | apply below_alloc | apply pw_below_drewN | apply below_drew1 | refine below_set ?_ (IsS78.ge HI0.out)) | exact HB.out)) hb); have n3_ := Aside0.mk (hbox); have n4_ := Aside0.mk ((by rw [hg]; exact (keep_size (w := w) (g := g) (row := none) (by repeat (first | (with_reducible first | exact HK.out | apply KeepBut.set_ | apply keep_drewN | apply keep_drew | apply keep_alloc) | exact HK.out))) : w.heap.size ≤ gb118)); have n5_ := Aside0.mk ((Nat.le_trans HW0.out (by rw [hg]; exact (keep_size (w := w) (g := g) (row := none) (by repeat (first | (with_reducible first | exact HK.out | apply KeepBut.set_ | apply keep_drewN | apply keep_drew | apply keep_alloc) | exact HK.out))) : w.heap.size ≤ gb118) : w0.heap.size ≤ gb118)); have n6_ := Aside0.mk ((by rw [hg]; exact Nat.ne_of_lt (IsS78.lt (show IsS78 w0 _ g s0_0 s0_1 from by repeat (first | (with_reducible first | exact HI0.out | apply IsS78.alloc | apply IsS78.drewN | apply IsS78.drew | apply IsS78.set_1) | exact HI0.out))) : g ≠ gb118)); have n7_ := Aside0.mk ((by rw [hg]; exact Nat.ne_of_gt (IsS78.lt (show IsS78 w0 _ g s0_0 s0_1 from by repeat (first | (with_reducible first | exact HI0.out | apply IsS78.alloc | apply IsS78.drewN | apply IsS78.drew | apply IsS78.set_1) | exact HI0.out))) : gb118 ≠ g)); clear HI0; clear HK; clear HB; have HI0 := n0_; have HK := n1_; have HB := n2_; have BK118 := n3_; have GW118 := n4_; have GE118 := n5_; have NB0_118 := n6_; have NB118_0 := n7_; clear n0_ n1_ n2_ n3_ n4_ n5_ n6_ n7_; clear hb hbox hg) | ((with_reducible refine gate_dst (N := 7) rfl ?_); refine box_event ?hg (N := 7) ?hd (cs := #[.int .i64 0, .slice none 0 0, .slice none 0 0]) (t := 48) ?hr ?_; (case hd => rfl); (case hg => rfl); (case hr => first | (go_simp; done) | (go_simp; rfl)); intro gb119 hg w10 hbox hb; have n0_ := Aside0.mk (IsS78.below (by repeat (first | (with_reducible first | exact HI0.out | apply IsS78.alloc | apply IsS78.drewN | apply IsS78.drew | apply IsS78.set_1 | refine IsS78.far ?_ NB0_118.out _) | exact HI0.out)) hb); have n1_ := Aside0.mk (blk_below (g := gb118) (o := .cells #[.int .i64 0, .slice none 0 0, .slice none 0 0] 48 (0, 0)) (by (with_reducible repeat (first | refine blk_drewN ?_ _ | refine blk_drew ?_ | refine blk_alloc ?_ _)); exact BK118.out) hb); have n2_ := Aside0.mk (KeepBut.trans (by repeat (first | (with_reducible first | exact HK.out | apply KeepBut.set_ | apply keep_drewN | apply keep_drew | apply keep_alloc | refine keep_far ?_ GW118.out _) | exact HK.out)) (KeepBut.of_below hb g none) (.inl rfl)); have n3_ := Aside0.mk (below_step (by repeat (first | (with_reducible first | exact HB.out | apply below_alloc | apply pw_below_drewN | apply below_drew1 | refine below_set ?_ (IsS78.ge HI0.out) | refine below_set ?_ GE118.out) | exact HB.out)) hb); have n4_ := Aside0.mk (hbox); have n5_ := Aside0.mk ((by rw [hg]; exact (keep_size (w := w) (g := g) (row := none) (by repeat (first | (with_reducible first | exact HK.out | apply KeepBut.set_ | apply keep_drewN | apply keep_drew | apply keep_alloc | refine keep_far ?_ GW118.out _) | exact HK.out))) : w.heap.size ≤ gb119)); have n6_ := Aside0.mk ((Nat.le_trans HW0.out (by rw [hg]; exact (keep_size (w := w) (g := g) (row := none) (by repeat (first | (with_reducible first | exact HK.out | apply KeepBut.set_ | apply keep_drewN | apply keep_drew | apply keep_alloc | refine keep_far ?_ GW118.out _) | exact HK.out))) : w.heap.size ≤ gb119) : w0.heap.size ≤ gb119)); have n7_ := Aside0.mk ((by rw [hg]; exact Nat.ne_of_lt (blk_lt (g := gb118) (o := .cells #[.int .i64 0, .slice none 0 0, .slice none 0 0] 48 (0, 0)) (by (with_reducible repeat (first | refine blk_drewN ?_ _ | refine blk_drew ?_ | refine blk_alloc ?_ _)); exact BK118.out)) : gb118 ≠ gb119)); have n8_ := Aside0.mk ((by rw [hg]; exact Nat.ne_of_gt (blk_lt (g := gb118) (o := .cells #[.int .i64 0, .slice none 0 0, .slice none 0 0] 48 (0, 0)) (by (with_reducible repeat (first | refine blk_drewN ?_ _ | refine blk_drew ?_ | refine blk_alloc ?_ _)); exact BK118.out)) : gb119 ≠ gb118)); have n9_ := Aside0.mk ((by rw [hg]; exact Nat.ne_of_lt (IsS78.lt (show IsS78 w0 _ g s0_0 s0_1 from by repeat (first | (with_reducible first | exact HI0.out | apply IsS78.alloc | apply IsS78.drewN | apply IsS78.drew | apply IsS78.set_1 | refine IsS78.far ?_ NB0_118.out _) | exact HI0.out))) : g ≠ gb119)); have n10_ := Aside0.mk ((by rw [hg]; exact Nat.ne_of_gt (IsS78.lt (show IsS78 w0 _ g s0_0 s0_1 from by repeat (first | (with_reducible first | exact HI0.out | apply IsS78.alloc | apply IsS78.drewN | apply IsS78.drew | apply IsS78.set_1 | refine IsS78.far ?_ NB0_118.out _) | exact HI0.out))) : gb119 ≠ g)); clear HI0; clear BK118; clear HK; clear HB; have HI0 := n0_; have BK118 := n1_; have HK := n2_; have HB := n3_; have BK119 := n4_; have GW119 := n5_; have GE119 := n6_; have NB118_119 := n7_; have NB119_118 := n8_; have NB0_119 := n9_; have NB119_0 := n10_; clear n0_ n1_ n2_ n3_ n4_ n5_ n6_ n7_ n8_ n9_ n10_; clear hb hbox hg) | ((with_reducible refine gate_callee (f := 94) rfl ?_); refine goesL_ (some 14) rfl rfl Try.func94 (by kernel_rfl) rfl #[.pointer (some ⟨g, 0, none⟩), .int .i64 a1] rfl (by (try simp only [List.map_toArray, List.map_cons, List.map_nil]); first | done | rfl | (simp only [List.length_drop, List.length_take]; rfl)) ?_; (with_reducible refine (trustquorummake_Tape_Order.calls k g s0_0 s0_1 a1 t120 t123 w0 _ ?side1 ?side2 A4.out).mono ?_); (case side1 => repeat (first | (with_reducible first | exact HI0.out | apply IsS78.alloc | apply IsS78.drewN | apply IsS78.drew | apply IsS78.set_1 | refine IsS78.far ?_ NB0_118.out _ | refine IsS78.far ?_ NB0_119.out _) | exact HI0.out)); (case side2 => repeat (first | (with_reducible first | exact HB.out | apply below_alloc | apply pw_below_drewN | apply below_drew1 | refine below_set ?_ (IsS78.ge HI0.out) | refine below_set ?_ GE118.out | refine below_set ?_ GE119.out) | exact HB.out)); rintro e w11 ⟨v121, rfl, ho0, hi, hb, hk⟩; refine ⟨_, rfl, ?_⟩; have n0_ := Aside0.mk (KeepBut.blk hk (g' := gb118) (o := .cells #[.int .i64 0, .slice none 0 0, .slice none 0 0] 48 (0, 0)) (by (with_reducible repeat (first | refine blk_drewN ?_ _ | refine blk_drew ?_ | refine blk_alloc ?_ _)); exact BK118.out) NB118_0.out (by simp)); have n1_ := Aside0.mk (KeepBut.blk hk (g' := gb119) (o := .cells #[.int .i64 0, .slice none 0 0, .slice none 0 0] 48 (0, 0)) (by (with_reducible repeat (first | refine blk_drewN ?_ _ | refine blk_drew ?_ | refine blk_alloc ?_ _)); exact BK119.out) NB119_0.out (by simp)); have n2_ := Aside0.mk (Kd.R_lower ho0 (keep_size (w := w) (g := g) (row := none) (by repeat (first | (with_reducible first | exact HK.out | apply KeepBut.set_ | apply keep_drewN | apply keep_drew | apply keep_alloc | refine keep_far ?_ GW118.out _ | refine keep_far ?_ GW119.out _) | exact HK.out)))); have n3_ := Aside0.mk (KeepBut.trans (by repeat (first | (with_reducible first | exact HK.out | apply KeepBut.set_ | apply keep_drewN | apply keep_drew | apply keep_alloc | refine keep_far ?_ GW118.out _ | refine keep_far ?_ GW119.out _) | exact HK.out)) hk (.inl rfl)); have n4_ := Aside0.mk (hb); have n5_ := Aside0.mk (hi); clear BK118; clear BK119; clear HK; clear HB; clear HI0; have BK118 := n0_; have BK119 := n1_; have HO122 := n2_; have HK := n3_; have HB := n4_; have HI0 := n5_; clear n0_ n1_ n2_ n3_ n4_ n5_; (try clear hb); (try clear hb2); (try clear hk); (try clear hi); (try clear ho0)) | ((with_reducible refine gate_callee (f := 44) rfl ?_); refine goesL_ (some 19) rfl rfl Try.func44 (by kernel_rfl) rfl #[.pointer (some ⟨g, 0, none⟩), .int .i64 1, .int .i64 ji5] rfl (by (try simp only [List.map_toArray, List.map_cons, List.map_nil]); first | done | (simp only [hji5]; rfl) | rfl | (simp only [List.length_drop, List.length_take]; rfl)) ?_; (with_reducible refine (trustquorummake_Tape_Range.calls g s0_0 t123 1 ji5 t124 t125 w0 _ ?side1 ?side2 A6.out).mono ?_); (case side1 => repeat (first | (with_reducible first | exact HI0.out | apply IsS78.alloc | apply IsS78.drewN | apply IsS78.drew | apply IsS78.set_1 | refine IsS78.far ?_ NB0_118.out _ | refine IsS78.far ?_ NB0_119.out _) | exact HI0.out)); (case side2 => repeat (first | (with_reducible first | exact HB.out | apply below_alloc | apply pw_below_drewN | apply below_drew1 | refine below_set ?_ (IsS78.ge HI0.out) | refine below_set ?_ GE118.out | refine below_set ?_ GE119.out) | exact HB.out)); rintro e w12 ⟨rfl, hi, hb, hk⟩; refine ⟨_, rfl, ?_⟩; have n0_ := Aside0.mk (KeepBut.blk hk (g' := gb118) (o := .cells #[.int .i64 0, .slice none 0 0, .slice none 0 0] 48 (0, 0)) (by (with_reducible repeat (first | refine blk_drewN ?_ _ | refine blk_drew ?_ | refine blk_alloc ?_ _)); exact BK118.out) NB118_0.out (by simp)); have n1_ := Aside0.mk (KeepBut.blk hk (g' := gb119) (o := .cells #[.int .i64 0, .slice none 0 0, .slice none 0 0] 48 (0, 0)) (by (with_reducible repeat (first | refine blk_drewN ?_ _ | refine blk_drew ?_ | refine blk_alloc ?_ _)); exact BK119.out) NB119_0.out (by simp)); have n2_ := Aside0.mk (Kd.R_mono (Kd.R_keep (IsS78.apart (show IsS78 w0 _ g s0_0 t123 from by repeat (first | (with_reducible first | exact HI0.out | apply IsS78.alloc | apply IsS78.drewN | apply IsS78.drew | apply IsS78.set_1 | refine IsS78.far ?_ NB0_118.out _ | refine IsS78.far ?_ NB0_119.out _) | exact HI0.out)) (by (with_reducible repeat (first | apply Kd.R_alloc | apply Kd.R_drewN | apply Kd.R_drew)); exact HO122.out) (by decide)) hk (fun _ h => h.2)) (fun _ h => h.1)); have n3_ := Aside0.mk (KeepBut.trans (by repeat (first | (with_reducible first | exact HK.out | apply KeepBut.set_ | apply keep_drewN | apply keep_drew | apply keep_alloc | refine keep_far ?_ GW118.out _ | refine keep_far ?_ GW119.out _) | exact HK.out)) hk (.inl rfl)); have n4_ := Aside0.mk (hb); have n5_ := Aside0.mk (hi); clear BK118; clear BK119; clear HO122; clear HK; clear HB; clear HI0; have BK118 := n0_; have BK119 := n1_; have HO122 := n2_; have HK := n3_; have HB := n4_; have HI0 := n5_; clear n0_ n1_ n2_ n3_ n4_ n5_; (try clear hb); (try clear hb2); (try clear hk); (try clear hi); obtain ⟨Ao13, co13, eo13⟩ := Kd.R_slice HO122.out; subst eo13; have q14 : (t124 : Int) ≤ ((t120.length : Int) : Int) := of_decide_eq_true (by first | (with_reducible assumption) | assumption); obtain ⟨i014, hi014, _, hsz14, _⟩ := info_parts info3; have hcut14 := cut_to (P := Try.prog) 22 3 .i64 Try.underlying22 hi014 Ao13 t120.length co13 t124 (of_decide_eq_true (by first | (with_reducible assumption) | assumption)) q14 (Kd.R_reads' HO122.out).2.1; have hr14 := Kd.R_take (m := (t124 : Int).toNat) HO122.out (by omega); have hy14 : y126.length = (t124 : Int).toNat := (by rw [Ny126.out, List.length_take]; omega); rw [← Ny126.out] at hr14; rw [← hy14] at hr14 hcut14; clear hy14 hi014 hsz14 HO122; have HO128 := Aside0.mk hr14; clear hr14; replace q14 := eq_true q14))
      go_loopg [22] k (fun kq v22 w' => ∃ (x22_1 : Int) (x120001_1 : List Int) (u120001 : Value), v22 = .int .i64 x22_1 ∧ Aside0 (trustquorummake_trust.l0 kq a1 a2 y126 (y126.length : Int) x22_1 s0_0 t125 0 x120001_1 = some (r1, r2, r3, r4)) ∧ Aside0 (kq ≤ k) ∧ Aside0 (Kd.R (Kd.int .i64) 3 w' w.heap.size (fun k_ => some k_ ≠ (u120001 : Value).ownBlock) (.slice Ao13 y126.length co13) y126) ∧ Aside0 (Kd.R (Kd.int .i64) 3 w' w.heap.size (fun k_ => some k_ ≠ ((.slice Ao13 y126.length co13) : Value).ownBlock) u120001 x120001_1) ∧ Aside0 (w'.heap[gb118]? = some (.cells #[.int .i64 0, (.slice none 0 0), (.slice none 0 0)] 48 (0, 0))) ∧ Aside0 (w'.heap[gb119]? = some (.cells #[.int .i64 0, u120001, (.slice none 0 0)] 48 (0, 0))) ∧ Aside0 (IsS78 w0 w' g s0_0 t125) ∧ Aside0 (KeepBut w w' g none) ∧ Aside0 (Below w0.heap.size w0 w'))
      case atStart => exact ⟨(0), (([] : List Int)), (.slice none 0 0), (by first | rfl | (simp; done) | (simp [*]; done) | (refine congrArg (Value.int .i64) ?_; unfold wrap64; omega)), H', ⟨Nat.le_refl _⟩, ⟨by (with_reducible repeat (first | apply Kd.R_alloc | apply Kd.R_drewN | apply Kd.R_drew)); exact Kd.R_mono HO128.out (fun _ hk => (by simp [Value.ownBlock]))⟩, ⟨by first | exact Kd.R_nil _ _ _ _ _ | exact Kd.N_nil _ _ _ _ _ | exact Kd.V_nil _ _ _ _ _ | exact Kd.Q_nil _ _ _ _ _ | exact Kd.S_nil _ _ _ _ _⟩, ⟨by (with_reducible repeat (first | refine blk_drewN ?_ _ | refine blk_drew ?_ | refine blk_alloc ?_ _)); exact BK118.out⟩, ⟨by (with_reducible repeat (first | refine blk_drewN ?_ _ | refine blk_drew ?_ | refine blk_alloc ?_ _)); exact BK119.out⟩, ⟨by repeat (first | (with_reducible first | exact HI0.out | apply IsS78.alloc | apply IsS78.drewN | apply IsS78.drew | apply IsS78.set_1 | refine IsS78.far ?_ NB0_118.out _ | refine IsS78.far ?_ NB0_119.out _) | exact HI0.out)⟩, ⟨by repeat (first | (with_reducible first | exact HK.out | apply KeepBut.set_ | apply keep_drewN | apply keep_drew | apply keep_alloc | refine keep_far ?_ GW118.out _ | refine keep_far ?_ GW119.out _) | exact HK.out)⟩, ⟨by repeat (first | (with_reducible first | exact HB.out | apply below_alloc | apply pw_below_drewN | apply below_drew1 | refine below_set ?_ (IsS78.ge HI0.out) | refine below_set ?_ GE118.out | refine below_set ?_ GE119.out) | exact HB.out)⟩⟩
      case round =>
        clear H'
        try clear q1
        try clear p2
        try clear c4
        try clear c6
        try clear p6
        try clear c7
        try clear c7b0
        try clear c7b1
        try clear c8
        try clear c8b0
        try clear c8b1
        try clear c9
        try clear q14
        try clear q14
        obtain ⟨x22_1, x120001_1, u120001, rfl, HA, HK1, HO_20, HO_120001, BK118, BK119, HI0, HK, HB⟩ := hrel
        cases gk with
        | zero => exact absurd HA.out (by simp [trustquorummake_trust.l0])
        | succ k1 =>
          have H := HA.out
          clear HA
          simp only [trustquorummake_trust.l0] at H
          by_cases c15 : x22_1 < (y126.length : Int)
          · rw [if_pos c15] at H
            have c15b0 : decide (x22_1 < (y126.length : Int)) = true := decide_eq_true c15
            clear c15
            by_cases c16 : 0 ≤ x22_1
            · rw [if_pos c16] at H
              have c16b0 : decide (0 ≤ x22_1) = true := decide_eq_true c16
              clear c16
              by_cases c17 : x22_1 < (y126.length : Int)
              · rw [if_pos c17] at H
                have c17b0 : decide (x22_1 < (y126.length : Int)) = true := decide_eq_true c17
                clear c17
                by_cases c18 : x120001_1.length < 17592186044416
                · rw [if_pos c18] at H
                  have LMc18 := Aside0.mk c18
                  clear c18
                  obtain ⟨y130, hy130⟩ : ∃ y_ : List Int, y_ = (x120001_1 ++ [rd y126 x22_1]) := ⟨_, rfl⟩
                  replace H : (trustquorummake_trust.l0 k1 a1 a2 y126 (y126.length : Int) (wrap64 (x22_1 + 1)) s0_0 t125 0 y130) = some (r1, r2, r3, r4) := by first | (rw [hy130]; with_reducible exact H) | (have H2_ := (Option.bind_some _ _).symm.trans H; rw [hy130]; with_reducible exact H2_) | (have H2_ := (Option.bind_some _ _).symm.trans H; with_reducible exact H2_) | with_reducible exact H | (rw [hy130]; exact H) | exact H
                  have Ny130 := Aside0.mk hy130
                  clear hy130
                  have H' := Aside0.mk H
                  clear H
                  have p129 : 0 ≤ (x22_1 : Int) := of_decide_eq_true (by first | (with_reducible assumption) | assumption)
                  have q129 : x22_1 < (y126.length : Int) := of_decide_eq_true (by first | (with_reducible assumption) | assumption)
                  obtain ⟨ad129, e129, hx129_0⟩ := Kd.at_int (Kd.R_reads' HO_20.out).2.2 x22_1 p129 q129
                  cases e129
                  replace p129 := eq_true p129
                  replace q129 := eq_true q129
                  have hnb19 := NB119_118.out
                  have hnc19 := NB118_119.out
                  have hnb20 := NB119_0.out
                  have hnc20 := NB0_119.out
                  have hcz21_0 : wr.cell? ⟨gb119, 0, none⟩ = some (.int .i64 0) := (blk_cell BK119.out 0).trans rfl
                  have hcz21_1 : wr.cell? ⟨gb119, 1, none⟩ = some (u120001) := (blk_cell BK119.out 1).trans rfl
                  have hcz21_2 : wr.cell? ⟨gb119, 2, none⟩ = some (.slice none 0 0) := (blk_cell BK119.out 2).trans rfl
                  have hfz21_0 := blk_frozen BK119.out 0
                  have hfz21_1 := blk_frozen BK119.out 1
                  have hfz21_2 := blk_frozen BK119.out 2
                  go_wp2_with (first | ((with_reducible refine gate_builtin (b := .append) (xs := #[.tmp 27, .tmp 29]) rfl ?_); at_builtin; refine Kd.R_append (Kd.int .i64) w.heap.size rfl (.tmp 27) (.tmp 29) 22 3 (.int .i64 0) 8 rfl Try.underlying22 info3 rfl (by decide) (by omega) u120001 x120001_1 (rd y126 x22_1) [.int .i64 (rd y126 x22_1)] (fun k_ => some k_ ≠ (.slice (some ad129) y126.length co13 : Value).ownBlock) (fun _ => False) rfl rfl ?aP (fun _ hk => hk.elim) ?aF ?aO (Below.refl _ _) ?aS ?aL ?_; (case aP => exact rfl); (case aF => exact (fun k_ hk => Kd.fresh' (Kd.R_lt (by (with_reducible repeat (first | apply Kd.R_alloc | apply Kd.R_drewN | apply Kd.R_drew)); exact HO_20.out)) k_ hk)); (case aO => exact (by (with_reducible repeat (first | apply Kd.R_alloc | apply Kd.R_drewN | apply Kd.R_drew)); exact HO_120001.out)); (case aS => exact (keep_size (w := w) (g := g) (row := none) (by repeat (first | (with_reducible first | exact HK.out | apply KeepBut.set_ | apply keep_drewN | apply keep_drew | apply keep_alloc | refine keep_far ?_ GW118.out _ | refine keep_far ?_ GW119.out _) | exact HK.out)))); (case aL => have := LMc18.out; omega); intro v131 w22 ho hb hg hat; rw [← Ny130.out] at ho; have n0_ := Aside0.mk (Kd.R_after (ok := (fun _ => True)) (by (with_reducible repeat (first | apply Kd.R_alloc | apply Kd.R_drewN | apply Kd.R_drew)); exact Kd.R_mono HO_20.out (fun _ hk => ⟨trivial, hk⟩)) hg hat); have n1_ := Aside0.mk (blk_grown (g := gb118) (o := .cells #[.int .i64 0, .slice none 0 0, .slice none 0 0] 48 (0, 0)) (by (with_reducible repeat (first | refine blk_drewN ?_ _ | refine blk_drew ?_ | refine blk_alloc ?_ _)); exact BK118.out) hg (Kd.R_ne HO_120001.out BK118.out (by decide))); have n2_ := Aside0.mk (blk_grown (g := gb119) (o := .cells #[.int .i64 0, u120001, .slice none 0 0] 48 (0, 0)) (by (with_reducible repeat (first | refine blk_drewN ?_ _ | refine blk_drew ?_ | refine blk_alloc ?_ _)); exact BK119.out) hg (Kd.R_ne HO_120001.out BK119.out (by decide))); have n3_ := Aside0.mk (IsS78.grown (by repeat (first | (with_reducible first | exact HI0.out | apply IsS78.alloc | apply IsS78.drewN | apply IsS78.drew | apply IsS78.set_1 | refine IsS78.far ?_ NB0_118.out _ | refine IsS78.far ?_ NB0_119.out _) | exact HI0.out)) hg (IsS78.own_ne HI0.out HO_120001.out (by decide))); have n4_ := Aside0.mk (below_weaken (by repeat (first | (with_reducible first | exact HB.out | apply below_alloc | apply pw_below_drewN | apply below_drew1 | refine below_set ?_ (IsS78.ge HI0.out) | refine below_set ?_ GE118.out | refine below_set ?_ GE119.out) | exact HB.out)) HL.out hb); have n5_ := Aside0.mk (KeepBut.trans (by repeat (first | (with_reducible first | exact HK.out | apply KeepBut.set_ | apply keep_drewN | apply keep_drew | apply keep_alloc | refine keep_far ?_ GW118.out _ | refine keep_far ?_ GW119.out _) | exact HK.out)) (KeepBut.of_grown hg g) (Kd.R_base2 HO_120001.out)); have n6_ := Aside0.mk (ho); clear HO_20; clear BK118; clear BK119; clear HI0; clear HB; clear HK; clear HO_120001; have HO_20 := n0_; have BK118 := n1_; have BK119 := n2_; have HI0 := n3_; have HB := n4_; have HK := n5_; have HO132 := n6_; clear n0_ n1_ n2_ n3_ n4_ n5_ n6_; clear ho hb hg hat; obtain ⟨Ao23, co23, eo23⟩ := Kd.R_slice HO132.out; subst eo23; have hcz24_0 : w22.cell? ⟨gb119, 0, none⟩ = some (.int .i64 0) := (blk_cell BK119.out 0).trans rfl; have hcz24_1 : w22.cell? ⟨gb119, 1, none⟩ = some (u120001) := (blk_cell BK119.out 1).trans rfl; have hcz24_2 : w22.cell? ⟨gb119, 2, none⟩ = some (.slice none 0 0) := (blk_cell BK119.out 2).trans rfl; have hfz24_0 := blk_frozen BK119.out 0; have hfz24_1 := blk_frozen BK119.out 1; have hfz24_2 := blk_frozen BK119.out 2))
                  go_roundg k1
                  case measure => have := HK1.out; omega
                  case rel => exact ⟨(wrap64 (x22_1 + 1)), (y130), (.slice Ao23 y130.length co23), (by first | rfl | (simp; done) | (simp [*]; done) | (refine congrArg (Value.int .i64) ?_; unfold wrap64; omega)), H', ⟨by have := HK1.out; omega⟩, ⟨by (with_reducible repeat (first | apply Kd.R_alloc | apply Kd.R_drewN | apply Kd.R_drew)); exact Kd.R_mono (Kd.R_far (p := ⟨gb119, 1, none⟩) (Kd.R_types HO_20.out BK119.out (by decide)) (fun _ hk => hk.2) (.slice Ao23 y130.length co23)) (fun _ hk => hk.1.2)⟩, ⟨by (with_reducible repeat (first | apply Kd.R_alloc | apply Kd.R_drewN | apply Kd.R_drew)); exact Kd.R_mono (Kd.R_far (p := ⟨gb119, 1, none⟩) (Kd.R_types HO132.out BK119.out (by decide)) (fun _ hk => hk.2) (.slice Ao23 y130.length co23)) (fun _ hk => hk.1)⟩, ⟨by (with_reducible repeat (first | refine blk_drewN ?_ _ | refine blk_drew ?_ | refine blk_alloc ?_ _)); refine blk_far ?_ NB118_119.out _; (with_reducible repeat (first | refine blk_drewN ?_ _ | refine blk_drew ?_ | refine blk_alloc ?_ _)); exact BK118.out⟩, ⟨by (with_reducible repeat (first | refine blk_drewN ?_ _ | refine blk_drew ?_ | refine blk_alloc ?_ _)); refine blk_put (cs := #[.int .i64 0, u120001, .slice none 0 0]) ?_ 1 _ rfl; (with_reducible repeat (first | refine blk_drewN ?_ _ | refine blk_drew ?_ | refine blk_alloc ?_ _)); exact BK119.out⟩, ⟨by repeat (first | (with_reducible first | exact HI0.out | apply IsS78.alloc | apply IsS78.drewN | apply IsS78.drew | apply IsS78.set_1 | refine IsS78.far ?_ NB0_118.out _ | refine IsS78.far ?_ NB0_119.out _) | exact HI0.out)⟩, ⟨by repeat (first | (with_reducible first | exact HK.out | apply KeepBut.set_ | apply keep_drewN | apply keep_drew | apply keep_alloc | refine keep_far ?_ GW118.out _ | refine keep_far ?_ GW119.out _) | exact HK.out)⟩, ⟨by repeat (first | (with_reducible first | exact HB.out | apply below_alloc | apply pw_below_drewN | apply below_drew1 | refine below_set ?_ (IsS78.ge HI0.out) | refine below_set ?_ GE118.out | refine below_set ?_ GE119.out) | exact HB.out)⟩⟩
                · rw [if_neg c18] at H
                  exact absurd H (by simp)
              · rw [if_neg c17] at H
                exact absurd H (by simp)
            · rw [if_neg c16] at H
              exact absurd H (by simp)
          · rw [if_neg c15] at H
            have c15b0 : decide (x22_1 < (y126.length : Int)) = false := decide_eq_false c15
            clear c15
            by_cases c25 : a2 > 1
            · rw [if_pos c25] at H
              have c25b0 : decide (1 < a2) = true := decide_eq_true c25
              clear c25
              obtain ⟨y133, hy133⟩ : ∃ y_ : List Int, y_ = (([0, 0, 1, 1, 2, 3] : List Int)) := ⟨_, rfl⟩
              replace H : ((trustquorummake_Tape_Pick.f s0_0 t125 y133).bind fun bt136 => (trustquorummake_trust.l1 k1 a1 a2 bt136.1 s0_0 bt136.2 0 x120001_1 ([] : List (S48)))) = some (r1, r2, r3, r4) := by first | (rw [hy133]; with_reducible exact H) | (have H2_ := (Option.bind_some _ _).symm.trans H; rw [hy133]; with_reducible exact H2_) | (have H2_ := (Option.bind_some _ _).symm.trans H; with_reducible exact H2_) | with_reducible exact H | (rw [hy133]; exact H) | exact H
              have Ny133 := Aside0.mk hy133
              clear hy133
              replace H := Option.bind_eq_some_iff.mp H
              obtain ⟨⟨t136, t137⟩, A260, H⟩ := H
              replace H : (trustquorummake_trust.l1 k1 a1 a2 t136 s0_0 t137 0 x120001_1 ([] : List (S48))) = some (r1, r2, r3, r4) := H
              have A26 := Aside0.mk A260
              clear A260
              have H' := Aside0.mk H
              clear H
              go_wp2_with (first | ((with_reducible refine gate_dst (N := 36) rfl ?_); refine Kd.R_lit (Kd.int .i64) _ 3 ?hg (N := 36) ?hd (xs := ([0, 0, 1, 1, 2, 3] : List Int)) (inner := [.int .i64 0, .int .i64 0, .int .i64 1, .int .i64 1, .int .i64 2, .int .i64 3]) (ok := fun _ => True) (okp := fun _ => True) ?hr ?hp (fun _ hk => hk) trivial (Below.refl _ _) (Nat.le_refl _) (by simp) ?_; (case hd => rfl); (case hg => rfl); (case hr => first | (go_simp; done) | (go_simp; rfl)); (case hp => exact (Reps.one (show Kd.M (Kd.int .i64) _ _ _ 0 [.int .i64 0] from rfl) (Reps.one (show Kd.M (Kd.int .i64) _ _ _ 0 [.int .i64 0] from rfl) (Reps.one (show Kd.M (Kd.int .i64) _ _ _ 1 [.int .i64 1] from rfl) (Reps.one (show Kd.M (Kd.int .i64) _ _ _ 1 [.int .i64 1] from rfl) (Reps.one (show Kd.M (Kd.int .i64) _ _ _ 2 [.int .i64 2] from rfl) (Reps.one (show Kd.M (Kd.int .i64) _ _ _ 3 [.int .i64 3] from rfl) (Reps.none _ _)))))))); intro v134 w27 ho28 hb hg_ hnew_; clear hg_ hnew_; (first | rw [← Ny133.out] at ho28 | (simp only [Int.reduceToNat] at ho28; rw [← Ny133.out] at ho28)); have n0_ := Aside0.mk (Kd.R_elder' (by (with_reducible repeat (first | apply Kd.R_alloc | apply Kd.R_drewN | apply Kd.R_drew)); exact HO_20.out) (Kd.R_base ho28) hb); have n1_ := Aside0.mk (Kd.R_elder' (by (with_reducible repeat (first | apply Kd.R_alloc | apply Kd.R_drewN | apply Kd.R_drew)); exact HO_120001.out) (Kd.R_base ho28) hb); have n2_ := Aside0.mk (Kd.R_lower (Kd.R_new' (Kd.R_new' ho28 (Kd.R_lt (by (with_reducible repeat (first | apply Kd.R_alloc | apply Kd.R_drewN | apply Kd.R_drew)); exact HO_20.out))) (Kd.R_lt (by (with_reducible repeat (first | apply Kd.R_alloc | apply Kd.R_drewN | apply Kd.R_drew)); exact HO_120001.out))) (keep_size (w := w) (g := g) (row := none) (by repeat (first | (with_reducible first | exact HK.out | apply KeepBut.set_ | apply keep_drewN | apply keep_drew | apply keep_alloc | refine keep_far ?_ GW118.out _ | refine keep_far ?_ GW119.out _) | exact HK.out)))); have n3_ := Aside0.mk (blk_below (g := gb118) (o := .cells #[.int .i64 0, .slice none 0 0, .slice none 0 0] 48 (0, 0)) (by (with_reducible repeat (first | refine blk_drewN ?_ _ | refine blk_drew ?_ | refine blk_alloc ?_ _)); exact BK118.out) hb); have n4_ := Aside0.mk (blk_below (g := gb119) (o := .cells #[.int .i64 0, u120001, .slice none 0 0] 48 (0, 0)) (by (with_reducible repeat (first | refine blk_drewN ?_ _ | refine blk_drew ?_ | refine blk_alloc ?_ _)); exact BK119.out) hb); have n5_ := Aside0.mk (IsS78.below (by repeat (first | (with_reducible first | exact HI0.out | apply IsS78.alloc | apply IsS78.drewN | apply IsS78.drew | apply IsS78.set_1 | refine IsS78.far ?_ NB0_118.out _ | refine IsS78.far ?_ NB0_119.out _) | exact HI0.out)) hb); have n6_ := Aside0.mk (KeepBut.trans (by repeat (first | (with_reducible first | exact HK.out | apply KeepBut.set_ | apply keep_drewN | apply keep_drew | apply keep_alloc | refine keep_far ?_ GW118.out _ | refine keep_far ?_ GW119.out _) | exact HK.out)) (KeepBut.of_below hb g none) (.inl rfl)); have n7_ := Aside0.mk (below_step (by repeat (first | (with_reducible first | exact HB.out | apply below_alloc | apply pw_below_drewN | apply below_drew1 | refine below_set ?_ (IsS78.ge HI0.out) | refine below_set ?_ GE118.out | refine below_set ?_ GE119.out) | exact HB.out)) hb); clear HO_20; clear HO_120001; clear BK118; clear BK119; clear HI0; clear HK; clear HB; have HO_20 := n0_; have HO_120001 := n1_; have HO135 := n2_; have BK118 := n3_; have BK119 := n4_; have HI0 := n5_; have HK := n6_; have HB := n7_; clear n0_ n1_ n2_ n3_ n4_ n5_ n6_ n7_; clear hb ho28; obtain ⟨Ao29, co29, eo29⟩ := Kd.R_slice HO135.out; subst eo29) | ((with_reducible refine gate_callee (f := 51) rfl ?_); refine goesL_ (some 37) rfl rfl Try.func51 (by kernel_rfl) rfl #[.pointer (some ⟨g, 0, none⟩), .slice Ao29 y133.length co29] rfl (by (try simp only [List.map_toArray, List.map_cons, List.map_nil]); first | done | rfl | (simp only [List.length_drop, List.length_take]; rfl)) ?_; (with_reducible refine (trustquorummake_Tape_Pick.calls g s0_0 t125 _ _ y133 t136 t137 w0 _ ?side1 ?side2 ?side3 ?side4 ?side5 A26.out).mono ?_); (case side1 => repeat (first | (with_reducible first | exact HI0.out | apply IsS78.alloc | apply IsS78.drewN | apply IsS78.drew | apply IsS78.set_1 | refine IsS78.far ?_ NB0_118.out _ | refine IsS78.far ?_ NB0_119.out _) | exact HI0.out)); (case side2 => repeat (first | (with_reducible first | exact HB.out | apply below_alloc | apply pw_below_drewN | apply below_drew1 | refine below_set ?_ (IsS78.ge HI0.out) | refine below_set ?_ GE118.out | refine below_set ?_ GE119.out) | exact HB.out)); (case side3 => repeat (first | exact (Kd.R_reads' HO135.out).2.2 | (with_reducible refine Kd.C_alloc ?_ _) | (with_reducible refine Kd.C_drewN ?_ _) | (with_reducible refine Kd.C_drew ?_))); (case side4 => exact (Kd.R_reads' HO135.out).2.1); (case side5 => exact far_slice (IsS78.own_ne HI0.out HO135.out (by decide))); rintro e w30 ⟨rfl, hi, hb, hk⟩; refine ⟨_, rfl, ?_⟩; have n0_ := Aside0.mk (Kd.R_mono (Kd.R_keep (IsS78.apart (show IsS78 w0 _ g s0_0 t125 from by repeat (first | (with_reducible first | exact HI0.out | apply IsS78.alloc | apply IsS78.drewN | apply IsS78.drew | apply IsS78.set_1 | refine IsS78.far ?_ NB0_118.out _ | refine IsS78.far ?_ NB0_119.out _) | exact HI0.out)) (by (with_reducible repeat (first | apply Kd.R_alloc | apply Kd.R_drewN | apply Kd.R_drew)); exact HO_20.out) (by decide)) hk (fun _ h => h.2)) (fun _ h => h.1)); have n1_ := Aside0.mk (Kd.R_mono (Kd.R_keep (IsS78.apart (show IsS78 w0 _ g s0_0 t125 from by repeat (first | (with_reducible first | exact HI0.out | apply IsS78.alloc | apply IsS78.drewN | apply IsS78.drew | apply IsS78.set_1 | refine IsS78.far ?_ NB0_118.out _ | refine IsS78.far ?_ NB0_119.out _) | exact HI0.out)) (by (with_reducible repeat (first | apply Kd.R_alloc | apply Kd.R_drewN | apply Kd.R_drew)); exact HO_120001.out) (by decide)) hk (fun _ h => h.2)) (fun _ h => h.1)); have n2_ := Aside0.mk (KeepBut.blk hk (g' := gb118) (o := .cells #[.int .i64 0, .slice none 0 0, .slice none 0 0] 48 (0, 0)) (by (with_reducible repeat (first | refine blk_drewN ?_ _ | refine blk_drew ?_ | refine blk_alloc ?_ _)); exact BK118.out) NB118_0.out (by simp)); have n3_ := Aside0.mk (KeepBut.blk hk (g' := gb119) (o := .cells #[.int .i64 0, u120001, .slice none 0 0] 48 (0, 0)) (by (with_reducible repeat (first | refine blk_drewN ?_ _ | refine blk_drew ?_ | refine blk_alloc ?_ _)); exact BK119.out) NB119_0.out (by simp)); have n4_ := Aside0.mk (Kd.R_mono (Kd.R_keep (IsS78.apart (show IsS78 w0 _ g s0_0 t125 from by repeat (first | (with_reducible first | exact HI0.out | apply IsS78.alloc | apply IsS78.drewN | apply IsS78.drew | apply IsS78.set_1 | refine IsS78.far ?_ NB0_118.out _ | refine IsS78.far ?_ NB0_119.out _) | exact HI0.out)) (by (with_reducible repeat (first | apply Kd.R_alloc | apply Kd.R_drewN | apply Kd.R_drew)); exact HO135.out) (by decide)) hk (fun _ h => h.2)) (fun _ h => h.1)); have n5_ := Aside0.mk (KeepBut.trans (by repeat (first | (with_reducible first | exact HK.out | apply KeepBut.set_ | apply keep_drewN | apply keep_drew | apply keep_alloc | refine keep_far ?_ GW118.out _ | refine keep_far ?_ GW119.out _) | exact HK.out)) hk (.inl rfl)); have n6_ := Aside0.mk (hb); have n7_ := Aside0.mk (hi); clear HO_20; clear HO_120001; clear BK118; clear BK119; clear HO135; clear HK; clear HB; clear HI0; have HO_20 := n0_; have HO_120001 := n1_; have BK118 := n2_; have BK119 := n3_; have HO135 := n4_; have HK := n5_; have HB := n6_; have HI0 := n7_; clear n0_ n1_ n2_ n3_ n4_ n5_ n6_ n7_; (try clear hb); (try clear hb2); (try clear hk); (try clear hi)))
              go_loopg [11] k1 (fun kq v11 w' => ∃ (x11_2 : Int) (x1001_2 : Int) (x120002_2 : List (S48)) (u120002 : Value), v11 = .int .i64 x11_2 ∧ Aside0 (trustquorummake_trust.l1 kq a1 a2 x11_2 s0_0 x1001_2 0 x120001_1 x120002_2 = some (r1, r2, r3, r4)) ∧ Aside0 (kq ≤ k1) ∧ Aside0 (Kd.R (Kd.int .i64) 3 w' w.heap.size (fun _ => True) u120001 x120001_1) ∧ Aside0 (Kd.R k48 48 w' w.heap.size (fun k_ => some k_ ≠ (u120001 : Value).ownBlock ∧ k_ ≠ gb118 ∧ k_ ≠ gb119) u120002 x120002_2) ∧ Aside0 (w'.heap[gb118]? = some (.cells #[.int .i64 0, (.slice none 0 0), (.slice none 0 0)] 48 (0, 0))) ∧ Aside0 (w'.heap[gb119]? = some (.cells #[.int .i64 0, u120001, u120002] 48 (0, 0))) ∧ Aside0 (IsS78 w0 w' g s0_0 x1001_2) ∧ Aside0 (KeepBut w w' g none) ∧ Aside0 (Below w0.heap.size w0 w'))
              case atStart => exact ⟨(t136), (t137), (([] : List (S48))), (.slice none 0 0), (by first | rfl | (simp; done) | (simp [*]; done) | (refine congrArg (Value.int .i64) ?_; unfold wrap64; omega)), H', ⟨Nat.le_refl _⟩, ⟨by (with_reducible repeat (first | apply Kd.R_alloc | apply Kd.R_drewN | apply Kd.R_drew)); exact Kd.R_mono HO_120001.out (fun _ hk => trivial)⟩, ⟨by first | exact Kd.R_nil _ _ _ _ _ | exact Kd.N_nil _ _ _ _ _ | exact Kd.V_nil _ _ _ _ _ | exact Kd.Q_nil _ _ _ _ _ | exact Kd.S_nil _ _ _ _ _⟩, ⟨by (with_reducible repeat (first | refine blk_drewN ?_ _ | refine blk_drew ?_ | refine blk_alloc ?_ _)); exact BK118.out⟩, ⟨by (with_reducible repeat (first | refine blk_drewN ?_ _ | refine blk_drew ?_ | refine blk_alloc ?_ _)); exact BK119.out⟩, ⟨by repeat (first | (with_reducible first | exact HI0.out | apply IsS78.alloc | apply IsS78.drewN | apply IsS78.drew | apply IsS78.set_1 | refine IsS78.far ?_ NB0_118.out _ | refine IsS78.far ?_ NB0_119.out _) | exact HI0.out)⟩, ⟨by repeat (first | (with_reducible first | exact HK.out | apply KeepBut.set_ | apply keep_drewN | apply keep_drew | apply keep_alloc | refine keep_far ?_ GW118.out _ | refine keep_far ?_ GW119.out _) | exact HK.out)⟩, ⟨by repeat (first | (with_reducible first | exact HB.out | apply below_alloc | apply pw_below_drewN | apply below_drew1 | refine below_set ?_ (IsS78.ge HI0.out) | refine below_set ?_ GE118.out | refine below_set ?_ GE119.out) | exact HB.out)⟩⟩
              case round =>
                clear H'
                try clear c1
                try clear p1
                try clear q1
                try clear hx1
                try clear c2
                try clear p2
                try clear c4
                try clear c5
                try clear c6
                try clear p6
                try clear c7
                try clear c7b0
                try clear c7b1
                try clear c8
                try clear c8b0
                try clear c8b1
                try clear c9
                try clear p12
                try clear q12
                try clear hx12
                try clear q14
                try clear c15
                try clear c15b0
                try clear c16
                try clear c16b0
                try clear c17
                try clear c17b0
                try clear c18
                try clear c19
                try clear c20
                try clear c25
                try clear c25b0
                try clear hcz21_0
                try clear hcz21_1
                try clear hcz21_2
                try clear hcz24_0
                try clear hcz24_1
                try clear hcz24_2
                try clear hfz21_0
                try clear hfz21_1
                try clear hfz21_2
                try clear hfz24_0
                try clear hfz24_1
                try clear hfz24_2
                try clear hx129_0
                try clear p129
                try clear p2
                try clear p6
                try clear q1
                try clear q129
                try clear q14
                obtain ⟨x11_2, x1001_2, x120002_2, u120002, rfl, HA, HK2, HO_120001, HO_120002, BK118, BK119, HI0, HK, HB⟩ := hrel
                cases gk with
                | zero => exact absurd HA.out (by simp [trustquorummake_trust.l1])
                | succ k2 =>
                  have H := HA.out
                  clear HA
                  simp only [trustquorummake_trust.l1] at H
                  by_cases c31 : x11_2 > 0
                  · rw [if_pos c31] at H
                    have c31b0 : decide (0 < x11_2) = true := decide_eq_true c31
                    clear c31
                    replace H := Option.bind_eq_some_iff.mp H
                    obtain ⟨⟨t138, t139, t142, t145⟩, A320, H⟩ := H
                    replace H : (if x120002_2.length < 2513169434916 then (trustquorummake_trust.l1 k2 a1 a2 (wrap64 (x11_2 - 1)) s0_0 t145 0 x120001_1 (x120002_2 ++ [(⟨t138, t139, t142⟩ : S48)])) else (none)) = some (r1, r2, r3, r4) := H
                    have A32 := Aside0.mk A320
                    clear A320
                    by_cases c33 : x120002_2.length < 2513169434916
                    · rw [if_pos c33] at H
                      have LMc33 := Aside0.mk c33
                      clear c33
                      obtain ⟨y146, hy146⟩ : ∃ y_ : List (S48), y_ = (x120002_2 ++ [(⟨t138, t139, t142⟩ : S48)]) := ⟨_, rfl⟩
                      replace H : (trustquorummake_trust.l1 k2 a1 a2 (wrap64 (x11_2 - 1)) s0_0 t145 0 x120001_1 y146) = some (r1, r2, r3, r4) := by first | (rw [hy146]; with_reducible exact H) | (have H2_ := (Option.bind_some _ _).symm.trans H; rw [hy146]; with_reducible exact H2_) | (have H2_ := (Option.bind_some _ _).symm.trans H; with_reducible exact H2_) | with_reducible exact H | (rw [hy146]; exact H) | exact H
                      have Ny146 := Aside0.mk hy146
                      clear hy146
                      have H' := Aside0.mk H
                      clear H
                      try go_wp2
                      have n0_ := Aside0.mk (Kd.R_drew HO_120001.out)
                      have n1_ := Aside0.mk (Kd.R_drew HO_120002.out)
                      have n2_ := Aside0.mk (blk_drew BK118.out)
                      have n3_ := Aside0.mk (blk_drew BK119.out)
                      have n4_ := Aside0.mk (IsS78.drew HI0.out)
                      have n5_ := Aside0.mk (keep_drew HK.out)
                      have n6_ := Aside0.mk (below_drew1 HB.out)
                      clear HO_120001
                      clear HO_120002
                      clear BK118
                      clear BK119
                      clear HI0
                      clear HK
                      clear HB
                      have HO_120001 := n0_
                      have HO_120002 := n1_
                      have BK118 := n2_
                      have BK119 := n3_
                      have HI0 := n4_
                      have HK := n5_
                      have HB := n6_
                      clear n0_ n1_ n2_ n3_ n4_ n5_ n6_
                      refine start_ (n := 11) (S := fun w' => w'.cell? ⟨gb119, 0, none⟩ = some (.int .i64 0) ∧ w'.cell? ⟨gb119, 1, none⟩ = some (u120001) ∧ w'.cell? ⟨gb119, 2, none⟩ = some (u120002)) (ds := [10]) #[false, false, false, false, false, false, false, false, false, false, false] (by kernel_rfl) rfl rfl ⟨(blk_cell BK119.out 0).trans rfl, (blk_cell BK119.out 1).trans rfl, (blk_cell BK119.out 2).trans rfl⟩ (fun hHeld => ?_); refine with_tabW trustquorummake_trust.tab12 trustquorummake_trust.bits12 (fun HT_ HW_ => ?_)
                      generalize wr.drew = w34 at HO_120001 HO_120002 BK118 BK119 HI0 HK HB hHeld ⊢
                      refine pure_ (i := 0) (N := some 42) (v := ?_) (a' := ?_) #[true, false, false, false, false, false, false, false, false, false, false] rfl rfl (any_of HT_.out (by kernel_rfl)) (fun _ _ _ h => h) (Or.inl ⟨by rfl, ?_⟩) ?_ ?_
                      rotate_left
                      · intro w'
                        go_simp
                        with_reducible rfl
                      rotate_left
                      · simp only [Act.put, List.setIfInBounds_toArray, List.set_cons_zero, List.set_cons_succ, i64_w, i32_w]
                        rfl
                      refine pure_ (i := 2) (N := some 44) (v := ?_) (a' := ?_) #[true, false, true, false, false, false, false, false, false, false, false] rfl rfl (any_of HT_.out (by kernel_rfl)) (fun _ _ _ h => h) (Or.inl ⟨by rfl, ?_⟩) ?_ ?_
                      rotate_left
                      · intro w'
                        go_simp
                        with_reducible rfl
                      rotate_left
                      · simp only [Act.put, List.setIfInBounds_toArray, List.set_cons_zero, List.set_cons_succ, i64_w, i32_w]
                        rfl
                      refine pure_ (i := 3) (N := some 45) (v := ?_) (a' := ?_) #[true, false, true, true, false, false, false, false, false, false, false] rfl rfl (any_of HT_.out (by kernel_rfl)) (fun _ _ _ h => h) (Or.inl ⟨by rfl, ?_⟩) ?_ ?_
                      rotate_left
                      · intro w'
                        go_simp
                        with_reducible rfl
                      rotate_left
                      · simp only [Act.put, List.setIfInBounds_toArray, List.set_cons_zero, List.set_cons_succ, i64_w, i32_w]
                        rfl
                      refine pure_ (i := 4) (N := some 46) (v := ?_) (a' := ?_) #[true, false, true, true, true, false, false, false, false, false, false] rfl rfl (any_of HT_.out (by kernel_rfl)) (fun _ _ _ h => h) (Or.inl ⟨by rfl, ?_⟩) ?_ ?_
                      rotate_left
                      · intro w'
                        go_simp
                        with_reducible rfl
                      rotate_left
                      · simp only [Act.put, List.setIfInBounds_toArray, List.set_cons_zero, List.set_cons_succ, i64_w, i32_w]
                        rfl
                      refine pure_ (i := 5) (N := some 47) (v := ?_) (a' := ?_) #[true, false, true, true, true, true, false, false, false, false, false] rfl rfl (any_of HT_.out (by kernel_rfl)) (fun _ _ _ h => h) (Or.inl ⟨by rfl, ?_⟩) ?_ ?_
                      rotate_left
                      · intro w'
                        go_simp
                        with_reducible rfl
                      rotate_left
                      · simp only [Act.put, List.setIfInBounds_toArray, List.set_cons_zero, List.set_cons_succ, i64_w, i32_w]
                        rfl
                      refine take_ (i := 1) (N := some 43) (v := ?_) (a' := ?_) #[true, true, true, true, true, true, false, false, false, false, false] rfl rfl (take_ofW HT_.out HW_.out (by kernel_rfl)) (fun _ _ _ h => h) (Or.inl ⟨by rfl, ?_⟩) hHeld ?_ ?_
                      rotate_left
                      · rintro w' ⟨s0, s1, s2⟩
                        go_simp
                        with_reducible rfl
                      rotate_left
                      · simp only [Act.put, List.setIfInBounds_toArray, List.set_cons_zero, List.set_cons_succ, i64_w, i32_w]
                        rfl
                      refine one_ (i := 6) (N := some 48) #[true, true, true, true, true, true, true, false, false, false, false] rfl rfl (one_of HT_.out (by kernel_rfl)) (by decide) (fun K hK => ?_)
                      refine goes_ Try.func62 (by kernel_rfl) rfl #[.pointer (some ⟨g, 0, none⟩), .int .i64 a1, .int .i64 (wrap64 (a2 - 1))] (by rfl) rfl rfl (by (try simp only [List.map_toArray, List.map_cons, List.map_nil]); first | done | rfl | (simp only [List.length_drop, List.length_take]; rfl)) ?_
                      with_reducible refine (ih k2 (by have := HK1.out; have := HK2.out; omega) g s0_0 x1001_2 a1 (wrap64 (a2 - 1)) t138 t139 t142 t145 w0 _ ?side1 ?side2 A32.out).mono ?_
                      (case side1 => repeat (first | (with_reducible first | exact HI0.out | apply IsS78.alloc | apply IsS78.drewN | apply IsS78.drew | apply IsS78.set_1 | refine IsS78.far ?_ NB0_118.out _ | refine IsS78.far ?_ NB0_119.out _) | exact HI0.out))
                      (case side2 => repeat (first | (with_reducible first | exact HB.out | apply below_alloc | apply pw_below_drewN | apply below_drew1 | refine below_set ?_ (IsS78.ge HI0.out) | refine below_set ?_ GE118.out | refine below_set ?_ GE119.out) | exact HB.out))
                      rintro e w35 ⟨v140, v143, rfl, ho0, ho1, hi, hb, hk⟩
                      refine ⟨_, rfl, ?_⟩
                      have n0_ := Aside0.mk (Kd.R_mono (Kd.R_told (Kd.R_oldK (IsS78.apart (show IsS78 w0 _ g s0_0 x1001_2 from by repeat (first | (with_reducible first | exact HI0.out | apply IsS78.alloc | apply IsS78.drewN | apply IsS78.drew | apply IsS78.set_1 | refine IsS78.far ?_ NB0_118.out _ | refine IsS78.far ?_ NB0_119.out _) | exact HI0.out)) (by (with_reducible repeat (first | apply Kd.R_alloc | apply Kd.R_drewN | apply Kd.R_drew)); exact HO_120001.out) (by decide)) hk) (Kd.R_base ho0)) (fun _ h_ => h_.1))
                      have n1_ := Aside0.mk (Kd.R_mono (Kd.R_told (Kd.R_told (Kd.R_oldK (IsS78.apart (show IsS78 w0 _ g s0_0 x1001_2 from by repeat (first | (with_reducible first | exact HI0.out | apply IsS78.alloc | apply IsS78.drewN | apply IsS78.drew | apply IsS78.set_1 | refine IsS78.far ?_ NB0_118.out _ | refine IsS78.far ?_ NB0_119.out _) | exact HI0.out)) (by (with_reducible repeat (first | apply Kd.R_alloc | apply Kd.R_drewN | apply Kd.R_drew)); exact HO_120002.out) (by decide)) hk) (Kd.R_base ho0)) (Kd.R_base ho1)) (fun _ h_ => h_.1))
                      have n2_ := Aside0.mk (KeepBut.blk hk (g' := gb118) (o := .cells #[.int .i64 0, .slice none 0 0, .slice none 0 0] 48 (0, 0)) (by (with_reducible repeat (first | refine blk_drewN ?_ _ | refine blk_drew ?_ | refine blk_alloc ?_ _)); exact BK118.out) NB118_0.out (by simp))
                      have n3_ := Aside0.mk (KeepBut.blk hk (g' := gb119) (o := .cells #[.int .i64 0, u120001, u120002] 48 (0, 0)) (by (with_reducible repeat (first | refine blk_drewN ?_ _ | refine blk_drew ?_ | refine blk_alloc ?_ _)); exact BK119.out) NB119_0.out (by simp))
                      have n4_ := Aside0.mk (Kd.R_lower (Kd.R_new' ho0 (Kd.R_lt (by (with_reducible repeat (first | apply Kd.R_alloc | apply Kd.R_drewN | apply Kd.R_drew)); exact HO_120001.out))) (keep_size (w := w) (g := g) (row := none) (by repeat (first | (with_reducible first | exact HK.out | apply KeepBut.set_ | apply keep_drewN | apply keep_drew | apply keep_alloc | refine keep_far ?_ GW118.out _ | refine keep_far ?_ GW119.out _) | exact HK.out))))
                      have n5_ := Aside0.mk (Kd.R_lower (Kd.R_newB (Kd.R_newB (Kd.R_new' (Kd.R_new' ho1 (Kd.R_lt (by (with_reducible repeat (first | apply Kd.R_alloc | apply Kd.R_drewN | apply Kd.R_drew)); exact HO_120001.out))) (Kd.R_lt (by (with_reducible repeat (first | apply Kd.R_alloc | apply Kd.R_drewN | apply Kd.R_drew)); exact HO_120002.out))) (g := gb118) (o := .cells #[.int .i64 0, .slice none 0 0, .slice none 0 0] 48 (0, 0)) (by (with_reducible repeat (first | refine blk_drewN ?_ _ | refine blk_drew ?_ | refine blk_alloc ?_ _)); exact BK118.out)) (g := gb119) (o := .cells #[.int .i64 0, u120001, u120002] 48 (0, 0)) (by (with_reducible repeat (first | refine blk_drewN ?_ _ | refine blk_drew ?_ | refine blk_alloc ?_ _)); exact BK119.out)) (keep_size (w := w) (g := g) (row := none) (by repeat (first | (with_reducible first | exact HK.out | apply KeepBut.set_ | apply keep_drewN | apply keep_drew | apply keep_alloc | refine keep_far ?_ GW118.out _ | refine keep_far ?_ GW119.out _) | exact HK.out))))
                      have n6_ := Aside0.mk (KeepBut.trans (by repeat (first | (with_reducible first | exact HK.out | apply KeepBut.set_ | apply keep_drewN | apply keep_drew | apply keep_alloc | refine keep_far ?_ GW118.out _ | refine keep_far ?_ GW119.out _) | exact HK.out)) hk (.inl rfl))
                      have n7_ := Aside0.mk (hb)
                      have n8_ := Aside0.mk (hi)
                      clear HO_120001
                      clear HO_120002
                      clear BK118
                      clear BK119
                      clear HK
                      clear HB
                      clear HI0
                      have HO_120001 := n0_
                      have HO_120002 := n1_
                      have BK118 := n2_
                      have BK119 := n3_
                      have HO141 := n4_
                      have HO144 := n5_
                      have HK := n6_
                      have HB := n7_
                      have HI0 := n8_
                      clear n0_ n1_ n2_ n3_ n4_ n5_ n6_ n7_ n8_
                      (try clear hb)
                      (try clear hb2)
                      (try clear hk)
                      (try clear hi)
                      (try clear ho0)
                      (try clear ho1)
                      obtain ⟨Ao37, co37, eo37⟩ := Kd.R_slice HO141.out
                      (first | subst eo37 | (injection eo37 with f1_ f2_ f3_; have f4_ := f1_.symm; have f5_ := f3_.symm; clear f1_ f2_ f3_; subst f4_; subst f5_))
                      obtain ⟨Ao38, co38, eo38⟩ := Kd.R_slice HO144.out
                      (first | subst eo38 | (injection eo38 with f1_ f2_ f3_; have f4_ := f1_.symm; have f5_ := f3_.symm; clear f1_ f2_ f3_; subst f4_; subst f5_))
                      refine hK.out _ _ ⟨(blk_cell BK119.out 0).trans rfl, (blk_cell BK119.out 1).trans rfl, (blk_cell BK119.out 2).trans rfl⟩ (fun hHeld => ?_)
                      clear hK K
                      refine norm_ (a' := ?_) ?_ ?_
                      rotate_left
                      · show Act.put _ (some 48) _ = _
                        simp only [Act.put, List.setIfInBounds_toArray, List.set_cons_zero, List.set_cons_succ, i64_w, i32_w]
                        rfl
                      refine one_ (i := 7) (N := some 49) #[true, true, true, true, true, true, true, true, false, false, false] rfl rfl (one_of HT_.out (by kernel_rfl)) (by decide) (fun K hK => ?_)
                      refine value_ (w1 := ?_) (v := ?_) (by rfl) rfl ?_ ?_
                      rotate_left 2
                      · go_simp
                        constructor
                        · rfl
                        · rfl
                      refine hK.out _ _ ⟨(blk_cell (blk_alloc BK119.out _) 0).trans rfl, (blk_cell (blk_alloc BK119.out _) 1).trans rfl, (blk_cell (blk_alloc BK119.out _) 2).trans rfl⟩ (fun hHeld => ?_)
                      clear hK K
                      refine norm_ (a' := ?_) ?_ ?_
                      rotate_left
                      · show Act.put _ (some 49) _ = _
                        simp only [Act.put, List.setIfInBounds_toArray, List.set_cons_zero, List.set_cons_succ, i64_w, i32_w]
                        rfl
                      refine one_ (i := 8) (N := some 50) #[true, true, true, true, true, true, true, true, true, false, false] rfl rfl (one_of HT_.out (by kernel_rfl)) (by decide) (fun K hK => ?_)
                      refine Kd.R_append_step k48 w.heap.size (by rfl) (.tmp 43) (.tmp 49) 46 48 (.agg #[(.int .i64 0), (.slice none 0 0), (.slice none 0 0)]) 56 rfl Try.underlying46 info48 rfl (by decide) (by omega) u120002 x120002_2 (⟨t138, t139, t142⟩ : S48) [.int .i64 t138, .slice Ao37 t139.length co37, .slice Ao38 t142.length co38] (fun k_ => some k_ ≠ (u120001 : Value).ownBlock ∧ k_ ≠ gb118 ∧ k_ ≠ gb119) (fun k_ => ((fun k_ => some k_ ≠ (u120001 : Value).ownBlock ∧ k_ ≠ gb118 ∧ k_ ≠ gb119)) k_ ∧ some k_ ≠ (u120002 : Value).ownBlock) rfl rfl ?aP (fun _ hk => hk) ?aF ?aO (Below.refl _ _) ?aS ?aL ?_
                      (case aP => exact k48_mkM _ _ _ (⟨t138, t139, t142⟩ : S48) (Kd.R_mono (Kd.R_types (Kd.R_types (Kd.R_apart' (HO141.out) (Kd.R_typed HO_120002.out) (by decide)) BK118.out (by decide)) BK119.out (by decide)) (fun k_ hk => ⟨⟨hk.1.1.1.2, ⟨hk.1.2, hk.2⟩⟩, hk.1.1.2⟩)) (Kd.R_mono (HO144.out) (fun k_ hk => ⟨⟨hk.1.1.1.2, ⟨hk.1.2, hk.2⟩⟩, hk.1.1.2⟩)))
                      (case aF => exact (fun k_ hk => ⟨Kd.fresh' (Kd.R_lt (by (with_reducible repeat (first | apply Kd.R_alloc | apply Kd.R_drewN | apply Kd.R_drew)); exact HO_120001.out)) k_ hk, Kd.freshB (g := gb118) (o := .cells #[.int .i64 0, .slice none 0 0, .slice none 0 0] 48 (0, 0)) (by (with_reducible repeat (first | refine blk_drewN ?_ _ | refine blk_drew ?_ | refine blk_alloc ?_ _)); exact BK118.out) k_ hk, Kd.freshB (g := gb119) (o := .cells #[.int .i64 0, u120001, u120002] 48 (0, 0)) (by (with_reducible repeat (first | refine blk_drewN ?_ _ | refine blk_drew ?_ | refine blk_alloc ?_ _)); exact BK119.out) k_ hk⟩))
                      (case aO => exact (by (with_reducible repeat (first | apply Kd.R_alloc | apply Kd.R_drewN | apply Kd.R_drew)); exact Kd.R_mono HO_120002.out (fun _ hk => ⟨hk.1.1.1, ⟨hk.1.1.2.1, hk.1.1.2.2⟩⟩)))
                      (case aS => exact (keep_size (w := w) (g := g) (row := none) (by repeat (first | (with_reducible first | exact HK.out | apply KeepBut.set_ | apply keep_drewN | apply keep_drew | apply keep_alloc | refine keep_far ?_ GW118.out _ | refine keep_far ?_ GW119.out _) | exact HK.out))))
                      (case aL => have := LMc33.out; omega)
                      intro v147 w36 ho hb hg hat
                      rw [← Ny146.out] at ho
                      have n0_ := Aside0.mk (Kd.R_over' (by (with_reducible repeat (first | apply Kd.R_alloc | apply Kd.R_drewN | apply Kd.R_drew)); exact HO_120001.out) (Kd.R_typed (by (with_reducible repeat (first | apply Kd.R_alloc | apply Kd.R_drewN | apply Kd.R_drew)); exact HO_120002.out)) (by decide) hg)
                      have n1_ := Aside0.mk (blk_grown (g := gb118) (o := .cells #[.int .i64 0, .slice none 0 0, .slice none 0 0] 48 (0, 0)) (by (with_reducible repeat (first | refine blk_drewN ?_ _ | refine blk_drew ?_ | refine blk_alloc ?_ _)); exact BK118.out) hg (Kd.R_away HO_120002.out (fun _ hk => hk.1.1.2.1)))
                      have n2_ := Aside0.mk (blk_grown (g := gb119) (o := .cells #[.int .i64 0, u120001, u120002] 48 (0, 0)) (by (with_reducible repeat (first | refine blk_drewN ?_ _ | refine blk_drew ?_ | refine blk_alloc ?_ _)); exact BK119.out) hg (Kd.R_away HO_120002.out (fun _ hk => hk.1.1.2.2)))
                      have n3_ := Aside0.mk (IsS78.grown (by repeat (first | (with_reducible first | exact HI0.out | apply IsS78.alloc | apply IsS78.drewN | apply IsS78.drew | apply IsS78.set_1 | refine IsS78.far ?_ NB0_118.out _ | refine IsS78.far ?_ NB0_119.out _) | exact HI0.out)) hg (IsS78.own_ne HI0.out HO_120002.out (by decide)))
                      have n4_ := Aside0.mk (below_weaken (by repeat (first | (with_reducible first | exact HB.out | apply below_alloc | apply pw_below_drewN | apply below_drew1 | refine below_set ?_ (IsS78.ge HI0.out) | refine below_set ?_ GE118.out | refine below_set ?_ GE119.out) | exact HB.out)) HL.out hb)
                      have n5_ := Aside0.mk (KeepBut.trans (by repeat (first | (with_reducible first | exact HK.out | apply KeepBut.set_ | apply keep_drewN | apply keep_drew | apply keep_alloc | refine keep_far ?_ GW118.out _ | refine keep_far ?_ GW119.out _) | exact HK.out)) (KeepBut.of_grown hg g) (Kd.R_base2 HO_120002.out))
                      have n6_ := Aside0.mk (ho)
                      clear HO_120001
                      clear BK118
                      clear BK119
                      clear HI0
                      clear HB
                      clear HK
                      clear HO_120002
                      clear HO141
                      clear HO144
                      have HO_120001 := n0_
                      have BK118 := n1_
                      have BK119 := n2_
                      have HI0 := n3_
                      have HB := n4_
                      have HK := n5_
                      have HO148 := n6_
                      clear n0_ n1_ n2_ n3_ n4_ n5_ n6_
                      clear ho hb hg hat
                      obtain ⟨Ao39, co39, eo39⟩ := Kd.R_slice HO148.out
                      (first | subst eo39 | (injection eo39 with f1_ f2_ f3_; have f4_ := f1_.symm; have f5_ := f3_.symm; clear f1_ f2_ f3_; subst f4_; subst f5_))
                      refine hK.out _ _ ⟨(blk_cell BK119.out 0).trans rfl, (blk_cell BK119.out 1).trans rfl, (blk_cell BK119.out 2).trans rfl⟩ (fun hHeld => ?_)
                      clear hK K
                      refine norm_ (a' := ?_) ?_ ?_
                      rotate_left
                      · show Act.put _ (some 50) _ = _
                        simp only [Act.put, List.setIfInBounds_toArray, List.set_cons_zero, List.set_cons_succ, i64_w, i32_w]
                        rfl
                      refine pure_ (i := 9) (N := some 51) (v := ?_) (a' := ?_) #[true, true, true, true, true, true, true, true, true, true, false] rfl rfl (any_of HT_.out (by kernel_rfl)) (fun _ _ _ h => h) (Or.inl ⟨by rfl, ?_⟩) ?_ ?_
                      rotate_left
                      · intro w'
                        go_simp
                        with_reducible rfl
                      rotate_left
                      · simp only [Act.put, List.setIfInBounds_toArray, List.set_cons_zero, List.set_cons_succ, i64_w, i32_w]
                        rfl
                      refine last_ (i := 10) (N := none) #[true, true, true, true, true, true, true, true, true, true, true] rfl rfl (one_of HT_.out (by kernel_rfl)) (by decide) (fun K hK => ?_)
                      have hs40 : w36.cell? ⟨gb119, 2, none⟩ = some (u120002) := (blk_cell BK119.out 2).trans rfl
                      have hfs40 := blk_frozen BK119.out 2
                      have hns40_0 := NB118_119.out
                      have hms40_0 := NB119_118.out
                      refine skip_ (w1 := ?_) (by rfl) rfl ?_ ?_
                      rotate_left
                      · go_simp
                        rfl
                      refine hK.out _ _ ?_
                      clear hK K
                      refine done_ (done_of HT_.out (by kernel_rfl)) ?_
                      try go_wp2
                      go_roundg k2
                      case measure => have := HK1.out; have := HK2.out; omega
                      case rel => exact ⟨(wrap64 (x11_2 - 1)), (t145), (y146), (.slice Ao39 y146.length co39), (by first | rfl | (simp; done) | (simp [*]; done) | (refine congrArg (Value.int .i64) ?_; unfold wrap64; omega)), H', ⟨by have := HK1.out; have := HK2.out; omega⟩, ⟨by (with_reducible repeat (first | apply Kd.R_alloc | apply Kd.R_drewN | apply Kd.R_drew)); exact Kd.R_mono (Kd.R_far (p := ⟨gb119, 2, none⟩) (Kd.R_types HO_120001.out BK119.out (by decide)) (fun _ hk => hk.2) (.slice Ao39 y146.length co39)) (fun _ hk => trivial)⟩, ⟨by (with_reducible repeat (first | apply Kd.R_alloc | apply Kd.R_drewN | apply Kd.R_drew)); exact Kd.R_mono (Kd.R_far (p := ⟨gb119, 2, none⟩) (Kd.R_mono HO148.out (fun k_ hk => (⟨hk, hk.2.2⟩ : _ ∧ k_ ≠ gb119))) (fun _ hk => hk.2) (.slice Ao39 y146.length co39)) (fun _ hk => ⟨hk.1.1, ⟨hk.1.2.1, hk.1.2.2⟩⟩)⟩, ⟨by (with_reducible repeat (first | refine blk_drewN ?_ _ | refine blk_drew ?_ | refine blk_alloc ?_ _)); refine blk_far ?_ NB118_119.out _; (with_reducible repeat (first | refine blk_drewN ?_ _ | refine blk_drew ?_ | refine blk_alloc ?_ _)); exact BK118.out⟩, ⟨by (with_reducible repeat (first | refine blk_drewN ?_ _ | refine blk_drew ?_ | refine blk_alloc ?_ _)); refine blk_put (cs := #[.int .i64 0, u120001, u120002]) ?_ 2 _ rfl; (with_reducible repeat (first | refine blk_drewN ?_ _ | refine blk_drew ?_ | refine blk_alloc ?_ _)); exact BK119.out⟩, ⟨by repeat (first | (with_reducible first | exact HI0.out | apply IsS78.alloc | apply IsS78.drewN | apply IsS78.drew | apply IsS78.set_1 | refine IsS78.far ?_ NB0_118.out _ | refine IsS78.far ?_ NB0_119.out _) | exact HI0.out)⟩, ⟨by repeat (first | (with_reducible first | exact HK.out | apply KeepBut.set_ | apply keep_drewN | apply keep_drew | apply keep_alloc | refine keep_far ?_ GW118.out _ | refine keep_far ?_ GW119.out _) | exact HK.out)⟩, ⟨by repeat (first | (with_reducible first | exact HB.out | apply below_alloc | apply pw_below_drewN | apply below_drew1 | refine below_set ?_ (IsS78.ge HI0.out) | refine below_set ?_ GE118.out | refine below_set ?_ GE119.out) | exact HB.out)⟩⟩
                    · rw [if_neg c33] at H
                      exact absurd H (by simp)
                  · rw [if_neg c31] at H
                    have c31b0 : decide (0 < x11_2) = false := decide_eq_false c31
                    clear c31
                    by_cases c41 : (x120002_2.length : Int) > 0
                    · rw [if_pos c41] at H
                      have c41b0 : decide (0 < (x120002_2.length : Int)) = true := decide_eq_true c41
                      have c41b1 : decide (0 < x120002_2.length) = true := decide_eq_true (by omega)
                      clear c41
                      replace H := Option.bind_eq_some_iff.mp H
                      obtain ⟨⟨t149, t150⟩, A420, H⟩ := H
                      replace H : (if t149 = 0 then ((trustquorummake_Tape_Range.f s0_0 t150 1 (wrap64 ((x120002_2.length : Int)))).bind fun bt151 => (some (bt151.1, ([] : List Int), x120002_2, bt151.2))) else ((trustquorummake_Tape_Range.f s0_0 t150 1 (wrap64 ((x120001_1.length : Int) + (x120002_2.length : Int)))).bind fun bt153 => (some (bt153.1, x120001_1, x120002_2, bt153.2)))) = some (r1, r2, r3, r4) := H
                      have A42 := Aside0.mk A420
                      clear A420
                      by_cases c43 : t149 = 0
                      · rw [if_pos c43] at H
                        have c43b0 : (t149 == 0) = true := beq_iff_eq.mpr c43
                        have c43b1 : (t149 != 0) = false := bne_eq_false_iff_eq.mpr c43
                        clear c43
                        replace H := Option.bind_eq_some_iff.mp H
                        obtain ⟨⟨t151, t152⟩, A440, H⟩ := H
                        replace H : (some (t151, ([] : List Int), x120002_2, t152)) = some (r1, r2, r3, r4) := H
                        have A44 := Aside0.mk A440
                        clear A440
                        simp only [Option.some.injEq, Prod.mk.injEq] at H
                        obtain ⟨rfl, rfl, rfl, rfl⟩ := H
                        have hnb45 := NB119_118.out
                        have hnc45 := NB118_119.out
                        have hnb46 := NB119_0.out
                        have hnc46 := NB0_119.out
                        have hcz47_0 : wr.cell? ⟨gb119, 0, none⟩ = some (.int .i64 0) := (blk_cell BK119.out 0).trans rfl
                        have hcz47_1 : wr.cell? ⟨gb119, 1, none⟩ = some (u120001) := (blk_cell BK119.out 1).trans rfl
                        have hcz47_2 : wr.cell? ⟨gb119, 2, none⟩ = some (u120002) := (blk_cell BK119.out 2).trans rfl
                        have hfz47_0 := blk_frozen BK119.out 0
                        have hfz47_1 := blk_frozen BK119.out 1
                        have hfz47_2 := blk_frozen BK119.out 2
                        obtain ⟨Ao48, co48, eo48⟩ := Kd.R_slice HO_120002.out
                        subst eo48
                        go_wp2_with (first | (go_at_call 10; (with_reducible refine (trustquorummake_Tape_N.calls g s0_0 x1001_2 3 t149 t150 w0 _ ?side1 ?side2 A42.out).mono ?_); (case side1 => repeat (first | (with_reducible first | exact HI0.out | apply IsS78.alloc | apply IsS78.drewN | apply IsS78.drew | apply IsS78.set_1 | refine IsS78.far ?_ NB0_118.out _ | refine IsS78.far ?_ NB0_119.out _) | exact HI0.out)); (case side2 => repeat (first | (with_reducible first | exact HB.out | apply below_alloc | apply pw_below_drewN | apply below_drew1 | refine below_set ?_ (IsS78.ge HI0.out) | refine below_set ?_ GE118.out | refine below_set ?_ GE119.out) | exact HB.out)); rintro e w49 ⟨rfl, hi, hb, hk⟩; have n0_ := Aside0.mk (Kd.R_mono (Kd.R_keep (IsS78.apart (show IsS78 w0 _ g s0_0 x1001_2 from by repeat (first | (with_reducible first | exact HI0.out | apply IsS78.alloc | apply IsS78.drewN | apply IsS78.drew | apply IsS78.set_1 | refine IsS78.far ?_ NB0_118.out _ | refine IsS78.far ?_ NB0_119.out _) | exact HI0.out)) (by (with_reducible repeat (first | apply Kd.R_alloc | apply Kd.R_drewN | apply Kd.R_drew)); exact HO_120001.out) (by decide)) hk (fun _ h => h.2)) (fun _ h => h.1)); have n1_ := Aside0.mk (Kd.R_mono (Kd.R_keep (IsS78.apart (show IsS78 w0 _ g s0_0 x1001_2 from by repeat (first | (with_reducible first | exact HI0.out | apply IsS78.alloc | apply IsS78.drewN | apply IsS78.drew | apply IsS78.set_1 | refine IsS78.far ?_ NB0_118.out _ | refine IsS78.far ?_ NB0_119.out _) | exact HI0.out)) (by (with_reducible repeat (first | apply Kd.R_alloc | apply Kd.R_drewN | apply Kd.R_drew)); exact HO_120002.out) (by decide)) hk (fun _ h => h.2)) (fun _ h => h.1)); have n2_ := Aside0.mk (KeepBut.blk hk (g' := gb118) (o := .cells #[.int .i64 0, .slice none 0 0, .slice none 0 0] 48 (0, 0)) (by (with_reducible repeat (first | refine blk_drewN ?_ _ | refine blk_drew ?_ | refine blk_alloc ?_ _)); exact BK118.out) NB118_0.out (by simp)); have n3_ := Aside0.mk (KeepBut.blk hk (g' := gb119) (o := .cells #[.int .i64 0, u120001, .slice Ao48 x120002_2.length co48] 48 (0, 0)) (by (with_reducible repeat (first | refine blk_drewN ?_ _ | refine blk_drew ?_ | refine blk_alloc ?_ _)); exact BK119.out) NB119_0.out (by simp)); have n4_ := Aside0.mk (KeepBut.trans (by repeat (first | (with_reducible first | exact HK.out | apply KeepBut.set_ | apply keep_drewN | apply keep_drew | apply keep_alloc | refine keep_far ?_ GW118.out _ | refine keep_far ?_ GW119.out _) | exact HK.out)) hk (.inl rfl)); have n5_ := Aside0.mk (hb); have n6_ := Aside0.mk (hi); clear HO_120001; clear HO_120002; clear BK118; clear BK119; clear HK; clear HB; clear HI0; have HO_120001 := n0_; have HO_120002 := n1_; have BK118 := n2_; have BK119 := n3_; have HK := n4_; have HB := n5_; have HI0 := n6_; clear n0_ n1_ n2_ n3_ n4_ n5_ n6_; (try clear hb); (try clear hb2); (try clear hk); (try clear hi); have hcz50_0 : w49.cell? ⟨gb119, 0, none⟩ = some (.int .i64 0) := (blk_cell BK119.out 0).trans rfl; have hcz50_1 : w49.cell? ⟨gb119, 1, none⟩ = some (u120001) := (blk_cell BK119.out 1).trans rfl; have hcz50_2 : w49.cell? ⟨gb119, 2, none⟩ = some (.slice Ao48 x120002_2.length co48) := (blk_cell BK119.out 2).trans rfl; have hfz50_0 := blk_frozen BK119.out 0; have hfz50_1 := blk_frozen BK119.out 1; have hfz50_2 := blk_frozen BK119.out 2) | ((with_reducible refine gate_callee (f := 44) rfl ?_); refine goesL_ (some 70) rfl rfl Try.func44 (by kernel_rfl) rfl #[.pointer (some ⟨g, 0, none⟩), .int .i64 1, .int .i64 (wrap64 ((x120002_2.length : Int)))] rfl (by (try simp only [List.map_toArray, List.map_cons, List.map_nil]); first | done | rfl | (simp only [List.length_drop, List.length_take]; rfl)) ?_; (with_reducible refine (trustquorummake_Tape_Range.calls g s0_0 t150 1 (wrap64 ((x120002_2.length : Int))) t151 t152 w0 _ ?side1 ?side2 A44.out).mono ?_); (case side1 => repeat (first | (with_reducible first | exact HI0.out | apply IsS78.alloc | apply IsS78.drewN | apply IsS78.drew | apply IsS78.set_1 | refine IsS78.far ?_ NB0_118.out _ | refine IsS78.far ?_ NB0_119.out _) | exact HI0.out)); (case side2 => repeat (first | (with_reducible first | exact HB.out | apply below_alloc | apply pw_below_drewN | apply below_drew1 | refine below_set ?_ (IsS78.ge HI0.out) | refine below_set ?_ GE118.out | refine below_set ?_ GE119.out) | exact HB.out)); rintro e w51 ⟨rfl, hi, hb, hk⟩; refine ⟨_, rfl, ?_⟩; have n0_ := Aside0.mk (Kd.R_mono (Kd.R_keep (IsS78.apart (show IsS78 w0 _ g s0_0 t150 from by repeat (first | (with_reducible first | exact HI0.out | apply IsS78.alloc | apply IsS78.drewN | apply IsS78.drew | apply IsS78.set_1 | refine IsS78.far ?_ NB0_118.out _ | refine IsS78.far ?_ NB0_119.out _) | exact HI0.out)) (by (with_reducible repeat (first | apply Kd.R_alloc | apply Kd.R_drewN | apply Kd.R_drew)); exact (Kd.R_mono (Kd.R_far (p := ⟨gb119, 1, none⟩) (Kd.R_types HO_120001.out BK119.out (by decide)) (fun _ hk => hk.2) (.slice none 0 0)) (fun _ h_ => h_.1))) (by decide)) hk (fun _ h => h.2)) (fun _ h => h.1)); have n1_ := Aside0.mk (Kd.R_mono (Kd.R_keep (IsS78.apart (show IsS78 w0 _ g s0_0 t150 from by repeat (first | (with_reducible first | exact HI0.out | apply IsS78.alloc | apply IsS78.drewN | apply IsS78.drew | apply IsS78.set_1 | refine IsS78.far ?_ NB0_118.out _ | refine IsS78.far ?_ NB0_119.out _) | exact HI0.out)) (by (with_reducible repeat (first | apply Kd.R_alloc | apply Kd.R_drewN | apply Kd.R_drew)); exact (Kd.R_mono (Kd.R_far (p := ⟨gb119, 1, none⟩) (Kd.R_mono HO_120002.out (fun k_ hk => (⟨hk, hk.2.2⟩ : _ ∧ k_ ≠ gb119))) (fun _ hk => hk.2) (.slice none 0 0)) (fun _ h_ => h_.1))) (by decide)) hk (fun _ h => h.2)) (fun _ h => h.1)); have n2_ := Aside0.mk (KeepBut.blk hk (g' := gb118) (o := .cells #[.int .i64 0, .slice none 0 0, .slice none 0 0] 48 (0, 0)) (by (with_reducible repeat (first | refine blk_drewN ?_ _ | refine blk_drew ?_ | refine blk_alloc ?_ _)); refine blk_far ?_ NB118_119.out _; (with_reducible repeat (first | refine blk_drewN ?_ _ | refine blk_drew ?_ | refine blk_alloc ?_ _)); exact BK118.out) NB118_0.out (by simp)); have n3_ := Aside0.mk (KeepBut.blk hk (g' := gb119) (o := .cells #[.int .i64 0, .slice none 0 0, .slice Ao48 x120002_2.length co48] 48 (0, 0)) (by (with_reducible repeat (first | refine blk_drewN ?_ _ | refine blk_drew ?_ | refine blk_alloc ?_ _)); refine blk_put (cs := #[.int .i64 0, u120001, .slice Ao48 x120002_2.length co48]) ?_ 1 _ rfl; (with_reducible repeat (first | refine blk_drewN ?_ _ | refine blk_drew ?_ | refine blk_alloc ?_ _)); exact BK119.out) NB119_0.out (by simp)); have n4_ := Aside0.mk (KeepBut.trans (by repeat (first | (with_reducible first | exact HK.out | apply KeepBut.set_ | apply keep_drewN | apply keep_drew | apply keep_alloc | refine keep_far ?_ GW118.out _ | refine keep_far ?_ GW119.out _) | exact HK.out)) hk (.inl rfl)); have n5_ := Aside0.mk (hb); have n6_ := Aside0.mk (hi); clear HO_120001; clear HO_120002; clear BK118; clear BK119; clear HK; clear HB; clear HI0; have HO_120001 := n0_; have HO_120002 := n1_; have BK118 := n2_; have BK119 := n3_; have HK := n4_; have HB := n5_; have HI0 := n6_; clear n0_ n1_ n2_ n3_ n4_ n5_ n6_; (try clear hb); (try clear hb2); (try clear hk); (try clear hi); have hcz52_0 : w51.cell? ⟨gb119, 0, none⟩ = some (.int .i64 0) := (blk_cell BK119.out 0).trans rfl; have hcz52_1 : w51.cell? ⟨gb119, 1, none⟩ = some (.slice none 0 0) := (blk_cell BK119.out 1).trans rfl; have hcz52_2 : w51.cell? ⟨gb119, 2, none⟩ = some (.slice Ao48 x120002_2.length co48) := (blk_cell BK119.out 2).trans rfl; have hfz52_0 := blk_frozen BK119.out 0; have hfz52_1 := blk_frozen BK119.out 1; have hfz52_2 := blk_frozen BK119.out 2; have hnb53 := NB118_0.out; have hnc53 := NB0_118.out; have hcz54_0 : w51.cell? ⟨gb118, 0, none⟩ = some (.int .i64 0) := (blk_cell BK118.out 0).trans rfl; have hcz54_1 : w51.cell? ⟨gb118, 1, none⟩ = some (.slice none 0 0) := (blk_cell BK118.out 1).trans rfl; have hcz54_2 : w51.cell? ⟨gb118, 2, none⟩ = some (.slice none 0 0) := (blk_cell BK118.out 2).trans rfl; have hfz54_0 := blk_frozen BK118.out 0; have hfz54_1 := blk_frozen BK118.out 1; have hfz54_2 := blk_frozen BK118.out 2))
                        refine bodyPost_ret (results_cell_row rfl _ _ gb118 48 #[.int .i64 t151, .slice none 0 0, .slice Ao48 x120002_2.length co48] (0, 0) _ rfl (by (with_reducible repeat (first | refine blk_drewN ?_ _ | refine blk_drew ?_ | refine blk_alloc ?_ _)); refine blk_put (cs := #[.int .i64 t151, .slice none 0 0, .slice none 0 0]) ?_ 2 _ rfl; (with_reducible repeat (first | refine blk_drewN ?_ _ | refine blk_drew ?_ | refine blk_alloc ?_ _)); refine blk_put (cs := #[.int .i64 t151, .slice none 0 0, .slice none 0 0]) ?_ 1 _ rfl; (with_reducible repeat (first | refine blk_drewN ?_ _ | refine blk_drew ?_ | refine blk_alloc ?_ _)); refine blk_put (cs := #[.int .i64 0, .slice none 0 0, .slice none 0 0]) ?_ 0 _ rfl; (with_reducible repeat (first | refine blk_drewN ?_ _ | refine blk_drew ?_ | refine blk_alloc ?_ _)); refine blk_far ?_ NB118_119.out _; (with_reducible repeat (first | refine blk_drewN ?_ _ | refine blk_drew ?_ | refine blk_alloc ?_ _)); exact BK118.out) Try.underlying48 rfl (by kernel_rfl)) rfl ?_
                        exact ⟨_, _, by first | rfl | (simp [errW_none, errW_some] <;> rfl) | (simp only [← hji5]; first | rfl | (simp [errW_none, errW_some] <;> rfl)) | (simp [*, errW_none, errW_some] <;> rfl), by first | exact Kd.R_nil _ _ _ _ _ | exact Kd.N_nil _ _ _ _ _ | exact Kd.V_nil _ _ _ _ _ | exact Kd.Q_nil _ _ _ _ _ | exact Kd.S_nil _ _ _ _ _, by (with_reducible repeat (first | apply Kd.R_alloc | apply Kd.R_drewN | apply Kd.R_drew)); exact Kd.R_mono (Kd.R_far (p := ⟨gb118, 2, none⟩) (Kd.R_far (p := ⟨gb118, 1, none⟩) (Kd.R_far (p := ⟨gb118, 0, none⟩) (Kd.R_far (p := ⟨gb119, 0, none⟩) (Kd.R_mono (Kd.R_mono HO_120002.out (fun k_ hk => (⟨hk, hk.2.2⟩ : _ ∧ k_ ≠ gb119))) (fun k_ hk => (⟨hk, hk.1.2.1⟩ : _ ∧ k_ ≠ gb118))) (fun _ hk => hk.1.2) (.int .i64 t151)) (fun _ hk => hk.2) (.int .i64 t151)) (fun _ hk => hk.2) (.slice none 0 0)) (fun _ hk => hk.2) (.slice Ao48 x120002_2.length co48)) (fun _ hk => (by simp [Value.ownBlock])), by repeat (first | (with_reducible first | exact HI0.out | apply IsS78.alloc | apply IsS78.drewN | apply IsS78.drew | apply IsS78.set_1 | refine IsS78.far ?_ NB0_118.out _ | refine IsS78.far ?_ NB0_119.out _) | exact HI0.out), by repeat (first | (with_reducible first | exact HB.out | apply below_alloc | apply pw_below_drewN | apply below_drew1 | refine below_set ?_ (IsS78.ge HI0.out) | refine below_set ?_ GE118.out | refine below_set ?_ GE119.out) | exact HB.out), by repeat (first | (with_reducible first | exact HK.out | apply KeepBut.set_ | apply keep_drewN | apply keep_drew | apply keep_alloc | refine keep_far ?_ GW118.out _ | refine keep_far ?_ GW119.out _) | exact HK.out)⟩
                      · rw [if_neg c43] at H
                        have c43b0 : (t149 == 0) = false := beq_eq_false_iff_ne.mpr c43
                        have c43b1 : (t149 != 0) = true := bne_iff_ne.mpr c43
                        replace H := Option.bind_eq_some_iff.mp H
                        obtain ⟨⟨t153, t154⟩, A550, H⟩ := H
                        replace H : (some (t153, x120001_1, x120002_2, t154)) = some (r1, r2, r3, r4) := H
                        have A55 := Aside0.mk A550
                        clear A550
                        simp only [Option.some.injEq, Prod.mk.injEq] at H
                        obtain ⟨rfl, rfl, rfl, rfl⟩ := H
                        have hnb56 := NB119_118.out
                        have hnc56 := NB118_119.out
                        have hnb57 := NB119_0.out
                        have hnc57 := NB0_119.out
                        have hcz58_0 : wr.cell? ⟨gb119, 0, none⟩ = some (.int .i64 0) := (blk_cell BK119.out 0).trans rfl
                        have hcz58_1 : wr.cell? ⟨gb119, 1, none⟩ = some (u120001) := (blk_cell BK119.out 1).trans rfl
                        have hcz58_2 : wr.cell? ⟨gb119, 2, none⟩ = some (u120002) := (blk_cell BK119.out 2).trans rfl
                        have hfz58_0 := blk_frozen BK119.out 0
                        have hfz58_1 := blk_frozen BK119.out 1
                        have hfz58_2 := blk_frozen BK119.out 2
                        obtain ⟨Ao59, co59, eo59⟩ := Kd.R_slice HO_120002.out
                        subst eo59
                        go_wp2_with (first | (go_at_call 10; (with_reducible refine (trustquorummake_Tape_N.calls g s0_0 x1001_2 3 t149 t150 w0 _ ?side1 ?side2 A42.out).mono ?_); (case side1 => repeat (first | (with_reducible first | exact HI0.out | apply IsS78.alloc | apply IsS78.drewN | apply IsS78.drew | apply IsS78.set_1 | refine IsS78.far ?_ NB0_118.out _ | refine IsS78.far ?_ NB0_119.out _) | exact HI0.out)); (case side2 => repeat (first | (with_reducible first | exact HB.out | apply below_alloc | apply pw_below_drewN | apply below_drew1 | refine below_set ?_ (IsS78.ge HI0.out) | refine below_set ?_ GE118.out | refine below_set ?_ GE119.out) | exact HB.out)); rintro e w60 ⟨rfl, hi, hb, hk⟩; have n0_ := Aside0.mk (Kd.R_mono (Kd.R_keep (IsS78.apart (show IsS78 w0 _ g s0_0 x1001_2 from by repeat (first | (with_reducible first | exact HI0.out | apply IsS78.alloc | apply IsS78.drewN | apply IsS78.drew | apply IsS78.set_1 | refine IsS78.far ?_ NB0_118.out _ | refine IsS78.far ?_ NB0_119.out _) | exact HI0.out)) (by (with_reducible repeat (first | apply Kd.R_alloc | apply Kd.R_drewN | apply Kd.R_drew)); exact HO_120001.out) (by decide)) hk (fun _ h => h.2)) (fun _ h => h.1)); have n1_ := Aside0.mk (Kd.R_mono (Kd.R_keep (IsS78.apart (show IsS78 w0 _ g s0_0 x1001_2 from by repeat (first | (with_reducible first | exact HI0.out | apply IsS78.alloc | apply IsS78.drewN | apply IsS78.drew | apply IsS78.set_1 | refine IsS78.far ?_ NB0_118.out _ | refine IsS78.far ?_ NB0_119.out _) | exact HI0.out)) (by (with_reducible repeat (first | apply Kd.R_alloc | apply Kd.R_drewN | apply Kd.R_drew)); exact HO_120002.out) (by decide)) hk (fun _ h => h.2)) (fun _ h => h.1)); have n2_ := Aside0.mk (KeepBut.blk hk (g' := gb118) (o := .cells #[.int .i64 0, .slice none 0 0, .slice none 0 0] 48 (0, 0)) (by (with_reducible repeat (first | refine blk_drewN ?_ _ | refine blk_drew ?_ | refine blk_alloc ?_ _)); exact BK118.out) NB118_0.out (by simp)); have n3_ := Aside0.mk (KeepBut.blk hk (g' := gb119) (o := .cells #[.int .i64 0, u120001, .slice Ao59 x120002_2.length co59] 48 (0, 0)) (by (with_reducible repeat (first | refine blk_drewN ?_ _ | refine blk_drew ?_ | refine blk_alloc ?_ _)); exact BK119.out) NB119_0.out (by simp)); have n4_ := Aside0.mk (KeepBut.trans (by repeat (first | (with_reducible first | exact HK.out | apply KeepBut.set_ | apply keep_drewN | apply keep_drew | apply keep_alloc | refine keep_far ?_ GW118.out _ | refine keep_far ?_ GW119.out _) | exact HK.out)) hk (.inl rfl)); have n5_ := Aside0.mk (hb); have n6_ := Aside0.mk (hi); clear HO_120001; clear HO_120002; clear BK118; clear BK119; clear HK; clear HB; clear HI0; have HO_120001 := n0_; have HO_120002 := n1_; have BK118 := n2_; have BK119 := n3_; have HK := n4_; have HB := n5_; have HI0 := n6_; clear n0_ n1_ n2_ n3_ n4_ n5_ n6_; (try clear hb); (try clear hb2); (try clear hk); (try clear hi); have hcz61_0 : w60.cell? ⟨gb119, 0, none⟩ = some (.int .i64 0) := (blk_cell BK119.out 0).trans rfl; have hcz61_1 : w60.cell? ⟨gb119, 1, none⟩ = some (u120001) := (blk_cell BK119.out 1).trans rfl; have hcz61_2 : w60.cell? ⟨gb119, 2, none⟩ = some (.slice Ao59 x120002_2.length co59) := (blk_cell BK119.out 2).trans rfl; have hfz61_0 := blk_frozen BK119.out 0; have hfz61_1 := blk_frozen BK119.out 1; have hfz61_2 := blk_frozen BK119.out 2; obtain ⟨Ao62, co62, eo62⟩ := Kd.R_slice HO_120001.out; subst eo62) | ((with_reducible refine gate_callee (f := 44) rfl ?_); refine goesL_ (some 70) rfl rfl Try.func44 (by kernel_rfl) rfl #[.pointer (some ⟨g, 0, none⟩), .int .i64 1, .int .i64 (wrap64 ((x120001_1.length : Int) + (x120002_2.length : Int)))] rfl (by (try simp only [List.map_toArray, List.map_cons, List.map_nil]); first | done | rfl | (simp only [List.length_drop, List.length_take]; rfl)) ?_; (with_reducible refine (trustquorummake_Tape_Range.calls g s0_0 t150 1 (wrap64 ((x120001_1.length : Int) + (x120002_2.length : Int))) t153 t154 w0 _ ?side1 ?side2 A55.out).mono ?_); (case side1 => repeat (first | (with_reducible first | exact HI0.out | apply IsS78.alloc | apply IsS78.drewN | apply IsS78.drew | apply IsS78.set_1 | refine IsS78.far ?_ NB0_118.out _ | refine IsS78.far ?_ NB0_119.out _) | exact HI0.out)); (case side2 => repeat (first | (with_reducible first | exact HB.out | apply below_alloc | apply pw_below_drewN | apply below_drew1 | refine below_set ?_ (IsS78.ge HI0.out) | refine below_set ?_ GE118.out | refine below_set ?_ GE119.out) | exact HB.out)); rintro e w63 ⟨rfl, hi, hb, hk⟩; refine ⟨_, rfl, ?_⟩; have n0_ := Aside0.mk (Kd.R_mono (Kd.R_keep (IsS78.apart (show IsS78 w0 _ g s0_0 t150 from by repeat (first | (with_reducible first | exact HI0.out | apply IsS78.alloc | apply IsS78.drewN | apply IsS78.drew | apply IsS78.set_1 | refine IsS78.far ?_ NB0_118.out _ | refine IsS78.far ?_ NB0_119.out _) | exact HI0.out)) (by (with_reducible repeat (first | apply Kd.R_alloc | apply Kd.R_drewN | apply Kd.R_drew)); exact HO_120001.out) (by decide)) hk (fun _ h => h.2)) (fun _ h => h.1)); have n1_ := Aside0.mk (Kd.R_mono (Kd.R_keep (IsS78.apart (show IsS78 w0 _ g s0_0 t150 from by repeat (first | (with_reducible first | exact HI0.out | apply IsS78.alloc | apply IsS78.drewN | apply IsS78.drew | apply IsS78.set_1 | refine IsS78.far ?_ NB0_118.out _ | refine IsS78.far ?_ NB0_119.out _) | exact HI0.out)) (by (with_reducible repeat (first | apply Kd.R_alloc | apply Kd.R_drewN | apply Kd.R_drew)); exact HO_120002.out) (by decide)) hk (fun _ h => h.2)) (fun _ h => h.1)); have n2_ := Aside0.mk (KeepBut.blk hk (g' := gb118) (o := .cells #[.int .i64 0, .slice none 0 0, .slice none 0 0] 48 (0, 0)) (by (with_reducible repeat (first | refine blk_drewN ?_ _ | refine blk_drew ?_ | refine blk_alloc ?_ _)); exact BK118.out) NB118_0.out (by simp)); have n3_ := Aside0.mk (KeepBut.blk hk (g' := gb119) (o := .cells #[.int .i64 0, .slice Ao62 x120001_1.length co62, .slice Ao59 x120002_2.length co59] 48 (0, 0)) (by (with_reducible repeat (first | refine blk_drewN ?_ _ | refine blk_drew ?_ | refine blk_alloc ?_ _)); exact BK119.out) NB119_0.out (by simp)); have n4_ := Aside0.mk (KeepBut.trans (by repeat (first | (with_reducible first | exact HK.out | apply KeepBut.set_ | apply keep_drewN | apply keep_drew | apply keep_alloc | refine keep_far ?_ GW118.out _ | refine keep_far ?_ GW119.out _) | exact HK.out)) hk (.inl rfl)); have n5_ := Aside0.mk (hb); have n6_ := Aside0.mk (hi); clear HO_120001; clear HO_120002; clear BK118; clear BK119; clear HK; clear HB; clear HI0; have HO_120001 := n0_; have HO_120002 := n1_; have BK118 := n2_; have BK119 := n3_; have HK := n4_; have HB := n5_; have HI0 := n6_; clear n0_ n1_ n2_ n3_ n4_ n5_ n6_; (try clear hb); (try clear hb2); (try clear hk); (try clear hi); have hcz64_0 : w63.cell? ⟨gb119, 0, none⟩ = some (.int .i64 0) := (blk_cell BK119.out 0).trans rfl; have hcz64_1 : w63.cell? ⟨gb119, 1, none⟩ = some (.slice Ao62 x120001_1.length co62) := (blk_cell BK119.out 1).trans rfl; have hcz64_2 : w63.cell? ⟨gb119, 2, none⟩ = some (.slice Ao59 x120002_2.length co59) := (blk_cell BK119.out 2).trans rfl; have hfz64_0 := blk_frozen BK119.out 0; have hfz64_1 := blk_frozen BK119.out 1; have hfz64_2 := blk_frozen BK119.out 2; have hnb65 := NB118_0.out; have hnc65 := NB0_118.out; have hcz66_0 : w63.cell? ⟨gb118, 0, none⟩ = some (.int .i64 0) := (blk_cell BK118.out 0).trans rfl; have hcz66_1 : w63.cell? ⟨gb118, 1, none⟩ = some (.slice none 0 0) := (blk_cell BK118.out 1).trans rfl; have hcz66_2 : w63.cell? ⟨gb118, 2, none⟩ = some (.slice none 0 0) := (blk_cell BK118.out 2).trans rfl; have hfz66_0 := blk_frozen BK118.out 0; have hfz66_1 := blk_frozen BK118.out 1; have hfz66_2 := blk_frozen BK118.out 2))
                        refine bodyPost_ret (results_cell_row rfl _ _ gb118 48 #[.int .i64 t153, .slice Ao62 x120001_1.length co62, .slice Ao59 x120002_2.length co59] (0, 0) _ rfl (by (with_reducible repeat (first | refine blk_drewN ?_ _ | refine blk_drew ?_ | refine blk_alloc ?_ _)); refine blk_put (cs := #[.int .i64 t153, .slice Ao62 x120001_1.length co62, .slice none 0 0]) ?_ 2 _ rfl; (with_reducible repeat (first | refine blk_drewN ?_ _ | refine blk_drew ?_ | refine blk_alloc ?_ _)); refine blk_put (cs := #[.int .i64 t153, .slice none 0 0, .slice none 0 0]) ?_ 1 _ rfl; (with_reducible repeat (first | refine blk_drewN ?_ _ | refine blk_drew ?_ | refine blk_alloc ?_ _)); refine blk_put (cs := #[.int .i64 0, .slice none 0 0, .slice none 0 0]) ?_ 0 _ rfl; (with_reducible repeat (first | refine blk_drewN ?_ _ | refine blk_drew ?_ | refine blk_alloc ?_ _)); refine blk_far ?_ NB118_119.out _; (with_reducible repeat (first | refine blk_drewN ?_ _ | refine blk_drew ?_ | refine blk_alloc ?_ _)); exact BK118.out) Try.underlying48 rfl (by kernel_rfl)) rfl ?_
                        exact ⟨_, _, by first | rfl | (simp [errW_none, errW_some] <;> rfl) | (simp only [← hji5]; first | rfl | (simp [errW_none, errW_some] <;> rfl)) | (simp [*, errW_none, errW_some] <;> rfl), by (with_reducible repeat (first | apply Kd.R_alloc | apply Kd.R_drewN | apply Kd.R_drew)); exact Kd.R_mono (Kd.R_far (p := ⟨gb118, 2, none⟩) (Kd.R_far (p := ⟨gb118, 1, none⟩) (Kd.R_far (p := ⟨gb118, 0, none⟩) (Kd.R_far (p := ⟨gb119, 0, none⟩) (Kd.R_types (Kd.R_types HO_120001.out BK119.out (by decide)) BK118.out (by decide)) (fun _ hk => hk.1.2) (.int .i64 t153)) (fun _ hk => hk.2) (.int .i64 t153)) (fun _ hk => hk.2) (.slice Ao62 x120001_1.length co62)) (fun _ hk => hk.2) (.slice Ao59 x120002_2.length co59)) (fun _ hk => trivial), by (with_reducible repeat (first | apply Kd.R_alloc | apply Kd.R_drewN | apply Kd.R_drew)); exact Kd.R_mono (Kd.R_far (p := ⟨gb118, 2, none⟩) (Kd.R_far (p := ⟨gb118, 1, none⟩) (Kd.R_far (p := ⟨gb118, 0, none⟩) (Kd.R_far (p := ⟨gb119, 0, none⟩) (Kd.R_mono (Kd.R_mono HO_120002.out (fun k_ hk => (⟨hk, hk.2.2⟩ : _ ∧ k_ ≠ gb119))) (fun k_ hk => (⟨hk, hk.1.2.1⟩ : _ ∧ k_ ≠ gb118))) (fun _ hk => hk.1.2) (.int .i64 t153)) (fun _ hk => hk.2) (.int .i64 t153)) (fun _ hk => hk.2) (.slice Ao62 x120001_1.length co62)) (fun _ hk => hk.2) (.slice Ao59 x120002_2.length co59)) (fun _ hk => hk.1.1.1), by repeat (first | (with_reducible first | exact HI0.out | apply IsS78.alloc | apply IsS78.drewN | apply IsS78.drew | apply IsS78.set_1 | refine IsS78.far ?_ NB0_118.out _ | refine IsS78.far ?_ NB0_119.out _) | exact HI0.out), by repeat (first | (with_reducible first | exact HB.out | apply below_alloc | apply pw_below_drewN | apply below_drew1 | refine below_set ?_ (IsS78.ge HI0.out) | refine below_set ?_ GE118.out | refine below_set ?_ GE119.out) | exact HB.out), by repeat (first | (with_reducible first | exact HK.out | apply KeepBut.set_ | apply keep_drewN | apply keep_drew | apply keep_alloc | refine keep_far ?_ GW118.out _ | refine keep_far ?_ GW119.out _) | exact HK.out)⟩
                    · rw [if_neg c41] at H
                      have c41b0 : decide (0 < (x120002_2.length : Int)) = false := decide_eq_false c41
                      have c41b1 : decide (0 < x120002_2.length) = false := decide_eq_false (by omega)
                      clear c41
                      replace H := Option.bind_eq_some_iff.mp H
                      obtain ⟨⟨t155, t156⟩, A670, H⟩ := H
                      replace H : (some (t155, x120001_1, x120002_2, t156)) = some (r1, r2, r3, r4) := H
                      have A67 := Aside0.mk A670
                      clear A670
                      simp only [Option.some.injEq, Prod.mk.injEq] at H
                      obtain ⟨rfl, rfl, rfl, rfl⟩ := H
                      have hnb68 := NB119_118.out
                      have hnc68 := NB118_119.out
                      have hnb69 := NB119_0.out
                      have hnc69 := NB0_119.out
                      have hcz70_0 : wr.cell? ⟨gb119, 0, none⟩ = some (.int .i64 0) := (blk_cell BK119.out 0).trans rfl
                      have hcz70_1 : wr.cell? ⟨gb119, 1, none⟩ = some (u120001) := (blk_cell BK119.out 1).trans rfl
                      have hcz70_2 : wr.cell? ⟨gb119, 2, none⟩ = some (u120002) := (blk_cell BK119.out 2).trans rfl
                      have hfz70_0 := blk_frozen BK119.out 0
                      have hfz70_1 := blk_frozen BK119.out 1
                      have hfz70_2 := blk_frozen BK119.out 2
                      obtain ⟨Ao71, co71, eo71⟩ := Kd.R_slice HO_120002.out
                      subst eo71
                      obtain ⟨Ao72, co72, eo72⟩ := Kd.R_slice HO_120001.out
                      subst eo72
                      go_wp2_with (first | ((with_reducible refine gate_callee (f := 44) rfl ?_); refine goesL_ (some 70) rfl rfl Try.func44 (by kernel_rfl) rfl #[.pointer (some ⟨g, 0, none⟩), .int .i64 1, .int .i64 (wrap64 ((x120001_1.length : Int) + (x120002_2.length : Int)))] rfl (by (try simp only [List.map_toArray, List.map_cons, List.map_nil]); first | done | rfl | (simp only [List.length_drop, List.length_take]; rfl)) ?_; (with_reducible refine (trustquorummake_Tape_Range.calls g s0_0 x1001_2 1 (wrap64 ((x120001_1.length : Int) + (x120002_2.length : Int))) t155 t156 w0 _ ?side1 ?side2 A67.out).mono ?_); (case side1 => repeat (first | (with_reducible first | exact HI0.out | apply IsS78.alloc | apply IsS78.drewN | apply IsS78.drew | apply IsS78.set_1 | refine IsS78.far ?_ NB0_118.out _ | refine IsS78.far ?_ NB0_119.out _) | exact HI0.out)); (case side2 => repeat (first | (with_reducible first | exact HB.out | apply below_alloc | apply pw_below_drewN | apply below_drew1 | refine below_set ?_ (IsS78.ge HI0.out) | refine below_set ?_ GE118.out | refine below_set ?_ GE119.out) | exact HB.out)); rintro e w73 ⟨rfl, hi, hb, hk⟩; refine ⟨_, rfl, ?_⟩; have n0_ := Aside0.mk (Kd.R_mono (Kd.R_keep (IsS78.apart (show IsS78 w0 _ g s0_0 x1001_2 from by repeat (first | (with_reducible first | exact HI0.out | apply IsS78.alloc | apply IsS78.drewN | apply IsS78.drew | apply IsS78.set_1 | refine IsS78.far ?_ NB0_118.out _ | refine IsS78.far ?_ NB0_119.out _) | exact HI0.out)) (by (with_reducible repeat (first | apply Kd.R_alloc | apply Kd.R_drewN | apply Kd.R_drew)); exact HO_120001.out) (by decide)) hk (fun _ h => h.2)) (fun _ h => h.1)); have n1_ := Aside0.mk (Kd.R_mono (Kd.R_keep (IsS78.apart (show IsS78 w0 _ g s0_0 x1001_2 from by repeat (first | (with_reducible first | exact HI0.out | apply IsS78.alloc | apply IsS78.drewN | apply IsS78.drew | apply IsS78.set_1 | refine IsS78.far ?_ NB0_118.out _ | refine IsS78.far ?_ NB0_119.out _) | exact HI0.out)) (by (with_reducible repeat (first | apply Kd.R_alloc | apply Kd.R_drewN | apply Kd.R_drew)); exact HO_120002.out) (by decide)) hk (fun _ h => h.2)) (fun _ h => h.1)); have n2_ := Aside0.mk (KeepBut.blk hk (g' := gb118) (o := .cells #[.int .i64 0, .slice none 0 0, .slice none 0 0] 48 (0, 0)) (by (with_reducible repeat (first | refine blk_drewN ?_ _ | refine blk_drew ?_ | refine blk_alloc ?_ _)); exact BK118.out) NB118_0.out (by simp)); have n3_ := Aside0.mk (KeepBut.blk hk (g' := gb119) (o := .cells #[.int .i64 0, .slice Ao72 x120001_1.length co72, .slice Ao71 x120002_2.length co71] 48 (0, 0)) (by (with_reducible repeat (first | refine blk_drewN ?_ _ | refine blk_drew ?_ | refine blk_alloc ?_ _)); exact BK119.out) NB119_0.out (by simp)); have n4_ := Aside0.mk (KeepBut.trans (by repeat (first | (with_reducible first | exact HK.out | apply KeepBut.set_ | apply keep_drewN | apply keep_drew | apply keep_alloc | refine keep_far ?_ GW118.out _ | refine keep_far ?_ GW119.out _) | exact HK.out)) hk (.inl rfl)); have n5_ := Aside0.mk (hb); have n6_ := Aside0.mk (hi); clear HO_120001; clear HO_120002; clear BK118; clear BK119; clear HK; clear HB; clear HI0; have HO_120001 := n0_; have HO_120002 := n1_; have BK118 := n2_; have BK119 := n3_; have HK := n4_; have HB := n5_; have HI0 := n6_; clear n0_ n1_ n2_ n3_ n4_ n5_ n6_; (try clear hb); (try clear hb2); (try clear hk); (try clear hi); have hcz74_0 : w73.cell? ⟨gb119, 0, none⟩ = some (.int .i64 0) := (blk_cell BK119.out 0).trans rfl; have hcz74_1 : w73.cell? ⟨gb119, 1, none⟩ = some (.slice Ao72 x120001_1.length co72) := (blk_cell BK119.out 1).trans rfl; have hcz74_2 : w73.cell? ⟨gb119, 2, none⟩ = some (.slice Ao71 x120002_2.length co71) := (blk_cell BK119.out 2).trans rfl; have hfz74_0 := blk_frozen BK119.out 0; have hfz74_1 := blk_frozen BK119.out 1; have hfz74_2 := blk_frozen BK119.out 2; have hnb75 := NB118_0.out; have hnc75 := NB0_118.out; have hcz76_0 : w73.cell? ⟨gb118, 0, none⟩ = some (.int .i64 0) := (blk_cell BK118.out 0).trans rfl; have hcz76_1 : w73.cell? ⟨gb118, 1, none⟩ = some (.slice none 0 0) := (blk_cell BK118.out 1).trans rfl; have hcz76_2 : w73.cell? ⟨gb118, 2, none⟩ = some (.slice none 0 0) := (blk_cell BK118.out 2).trans rfl; have hfz76_0 := blk_frozen BK118.out 0; have hfz76_1 := blk_frozen BK118.out 1; have hfz76_2 := blk_frozen BK118.out 2))
                      refine bodyPost_ret (results_cell_row rfl _ _ gb118 48 #[.int .i64 t155, .slice Ao72 x120001_1.length co72, .slice Ao71 x120002_2.length co71] (0, 0) _ rfl (by (with_reducible repeat (first | refine blk_drewN ?_ _ | refine blk_drew ?_ | refine blk_alloc ?_ _)); refine blk_put (cs := #[.int .i64 t155, .slice Ao72 x120001_1.length co72, .slice none 0 0]) ?_ 2 _ rfl; (with_reducible repeat (first | refine blk_drewN ?_ _ | refine blk_drew ?_ | refine blk_alloc ?_ _)); refine blk_put (cs := #[.int .i64 t155, .slice none 0 0, .slice none 0 0]) ?_ 1 _ rfl; (with_reducible repeat (first | refine blk_drewN ?_ _ | refine blk_drew ?_ | refine blk_alloc ?_ _)); refine blk_put (cs := #[.int .i64 0, .slice none 0 0, .slice none 0 0]) ?_ 0 _ rfl; (with_reducible repeat (first | refine blk_drewN ?_ _ | refine blk_drew ?_ | refine blk_alloc ?_ _)); refine blk_far ?_ NB118_119.out _; (with_reducible repeat (first | refine blk_drewN ?_ _ | refine blk_drew ?_ | refine blk_alloc ?_ _)); exact BK118.out) Try.underlying48 rfl (by kernel_rfl)) rfl ?_
                      exact ⟨_, _, by first | rfl | (simp [errW_none, errW_some] <;> rfl) | (simp only [← hji5]; first | rfl | (simp [errW_none, errW_some] <;> rfl)) | (simp [*, errW_none, errW_some] <;> rfl), by (with_reducible repeat (first | apply Kd.R_alloc | apply Kd.R_drewN | apply Kd.R_drew)); exact Kd.R_mono (Kd.R_far (p := ⟨gb118, 2, none⟩) (Kd.R_far (p := ⟨gb118, 1, none⟩) (Kd.R_far (p := ⟨gb118, 0, none⟩) (Kd.R_far (p := ⟨gb119, 0, none⟩) (Kd.R_types (Kd.R_types HO_120001.out BK119.out (by decide)) BK118.out (by decide)) (fun _ hk => hk.1.2) (.int .i64 t155)) (fun _ hk => hk.2) (.int .i64 t155)) (fun _ hk => hk.2) (.slice Ao72 x120001_1.length co72)) (fun _ hk => hk.2) (.slice Ao71 x120002_2.length co71)) (fun _ hk => trivial), by (with_reducible repeat (first | apply Kd.R_alloc | apply Kd.R_drewN | apply Kd.R_drew)); exact Kd.R_mono (Kd.R_far (p := ⟨gb118, 2, none⟩) (Kd.R_far (p := ⟨gb118, 1, none⟩) (Kd.R_far (p := ⟨gb118, 0, none⟩) (Kd.R_far (p := ⟨gb119, 0, none⟩) (Kd.R_mono (Kd.R_mono HO_120002.out (fun k_ hk => (⟨hk, hk.2.2⟩ : _ ∧ k_ ≠ gb119))) (fun k_ hk => (⟨hk, hk.1.2.1⟩ : _ ∧ k_ ≠ gb118))) (fun _ hk => hk.1.2) (.int .i64 t155)) (fun _ hk => hk.2) (.int .i64 t155)) (fun _ hk => hk.2) (.slice Ao72 x120001_1.length co72)) (fun _ hk => hk.2) (.slice Ao71 x120002_2.length co71)) (fun _ hk => hk.1.1.1), by repeat (first | (with_reducible first | exact HI0.out | apply IsS78.alloc | apply IsS78.drewN | apply IsS78.drew | apply IsS78.set_1 | refine IsS78.far ?_ NB0_118.out _ | refine IsS78.far ?_ NB0_119.out _) | exact HI0.out), by repeat (first | (with_reducible first | exact HB.out | apply below_alloc | apply pw_below_drewN | apply below_drew1 | refine below_set ?_ (IsS78.ge HI0.out) | refine below_set ?_ GE118.out | refine below_set ?_ GE119.out) | exact HB.out), by repeat (first | (with_reducible first | exact HK.out | apply KeepBut.set_ | apply keep_drewN | apply keep_drew | apply keep_alloc | refine keep_far ?_ GW118.out _ | refine keep_far ?_ GW119.out _) | exact HK.out)⟩
            · rw [if_neg c25] at H
              have c25b0 : decide (1 < a2) = false := decide_eq_false c25
              clear c25
              replace H := Option.bind_eq_some_iff.mp H
              obtain ⟨⟨t157, t158⟩, A770, H⟩ := H
              replace H : (some (t157, x120001_1, ([] : List (S48)), t158)) = some (r1, r2, r3, r4) := H
              have A77 := Aside0.mk A770
              clear A770
              simp only [Option.some.injEq, Prod.mk.injEq] at H
              obtain ⟨rfl, rfl, rfl, rfl⟩ := H
              have hnb78 := NB119_118.out
              have hnc78 := NB118_119.out
              have hnb79 := NB119_0.out
              have hnc79 := NB0_119.out
              have hcz80_0 : wr.cell? ⟨gb119, 0, none⟩ = some (.int .i64 0) := (blk_cell BK119.out 0).trans rfl
              have hcz80_1 : wr.cell? ⟨gb119, 1, none⟩ = some (u120001) := (blk_cell BK119.out 1).trans rfl
              have hcz80_2 : wr.cell? ⟨gb119, 2, none⟩ = some (.slice none 0 0) := (blk_cell BK119.out 2).trans rfl
              have hfz80_0 := blk_frozen BK119.out 0
              have hfz80_1 := blk_frozen BK119.out 1
              have hfz80_2 := blk_frozen BK119.out 2
              obtain ⟨Ao81, co81, eo81⟩ := Kd.R_slice HO_120001.out
              subst eo81
              go_wp2_with (first | ((with_reducible refine gate_callee (f := 44) rfl ?_); refine goesL_ (some 70) rfl rfl Try.func44 (by kernel_rfl) rfl #[.pointer (some ⟨g, 0, none⟩), .int .i64 1, .int .i64 (wrap64 ((x120001_1.length : Int)))] rfl (by (try simp only [List.map_toArray, List.map_cons, List.map_nil]); first | done | rfl | (simp only [List.length_drop, List.length_take]; rfl)) ?_; (with_reducible refine (trustquorummake_Tape_Range.calls g s0_0 t125 1 (wrap64 ((x120001_1.length : Int))) t157 t158 w0 _ ?side1 ?side2 A77.out).mono ?_); (case side1 => repeat (first | (with_reducible first | exact HI0.out | apply IsS78.alloc | apply IsS78.drewN | apply IsS78.drew | apply IsS78.set_1 | refine IsS78.far ?_ NB0_118.out _ | refine IsS78.far ?_ NB0_119.out _) | exact HI0.out)); (case side2 => repeat (first | (with_reducible first | exact HB.out | apply below_alloc | apply pw_below_drewN | apply below_drew1 | refine below_set ?_ (IsS78.ge HI0.out) | refine below_set ?_ GE118.out | refine below_set ?_ GE119.out) | exact HB.out)); rintro e w82 ⟨rfl, hi, hb, hk⟩; refine ⟨_, rfl, ?_⟩; have n0_ := Aside0.mk (Kd.R_mono (Kd.R_keep (IsS78.apart (show IsS78 w0 _ g s0_0 t125 from by repeat (first | (with_reducible first | exact HI0.out | apply IsS78.alloc | apply IsS78.drewN | apply IsS78.drew | apply IsS78.set_1 | refine IsS78.far ?_ NB0_118.out _ | refine IsS78.far ?_ NB0_119.out _) | exact HI0.out)) (by (with_reducible repeat (first | apply Kd.R_alloc | apply Kd.R_drewN | apply Kd.R_drew)); exact HO_20.out) (by decide)) hk (fun _ h => h.2)) (fun _ h => h.1)); have n1_ := Aside0.mk (Kd.R_mono (Kd.R_keep (IsS78.apart (show IsS78 w0 _ g s0_0 t125 from by repeat (first | (with_reducible first | exact HI0.out | apply IsS78.alloc | apply IsS78.drewN | apply IsS78.drew | apply IsS78.set_1 | refine IsS78.far ?_ NB0_118.out _ | refine IsS78.far ?_ NB0_119.out _) | exact HI0.out)) (by (with_reducible repeat (first | apply Kd.R_alloc | apply Kd.R_drewN | apply Kd.R_drew)); exact HO_120001.out) (by decide)) hk (fun _ h => h.2)) (fun _ h => h.1)); have n2_ := Aside0.mk (KeepBut.blk hk (g' := gb118) (o := .cells #[.int .i64 0, .slice none 0 0, .slice none 0 0] 48 (0, 0)) (by (with_reducible repeat (first | refine blk_drewN ?_ _ | refine blk_drew ?_ | refine blk_alloc ?_ _)); exact BK118.out) NB118_0.out (by simp)); have n3_ := Aside0.mk (KeepBut.blk hk (g' := gb119) (o := .cells #[.int .i64 0, .slice Ao81 x120001_1.length co81, .slice none 0 0] 48 (0, 0)) (by (with_reducible repeat (first | refine blk_drewN ?_ _ | refine blk_drew ?_ | refine blk_alloc ?_ _)); exact BK119.out) NB119_0.out (by simp)); have n4_ := Aside0.mk (KeepBut.trans (by repeat (first | (with_reducible first | exact HK.out | apply KeepBut.set_ | apply keep_drewN | apply keep_drew | apply keep_alloc | refine keep_far ?_ GW118.out _ | refine keep_far ?_ GW119.out _) | exact HK.out)) hk (.inl rfl)); have n5_ := Aside0.mk (hb); have n6_ := Aside0.mk (hi); clear HO_20; clear HO_120001; clear BK118; clear BK119; clear HK; clear HB; clear HI0; have HO_20 := n0_; have HO_120001 := n1_; have BK118 := n2_; have BK119 := n3_; have HK := n4_; have HB := n5_; have HI0 := n6_; clear n0_ n1_ n2_ n3_ n4_ n5_ n6_; (try clear hb); (try clear hb2); (try clear hk); (try clear hi); have hcz83_0 : w82.cell? ⟨gb119, 0, none⟩ = some (.int .i64 0) := (blk_cell BK119.out 0).trans rfl; have hcz83_1 : w82.cell? ⟨gb119, 1, none⟩ = some (.slice Ao81 x120001_1.length co81) := (blk_cell BK119.out 1).trans rfl; have hcz83_2 : w82.cell? ⟨gb119, 2, none⟩ = some (.slice none 0 0) := (blk_cell BK119.out 2).trans rfl; have hfz83_0 := blk_frozen BK119.out 0; have hfz83_1 := blk_frozen BK119.out 1; have hfz83_2 := blk_frozen BK119.out 2; have hnb84 := NB118_0.out; have hnc84 := NB0_118.out; have hcz85_0 : w82.cell? ⟨gb118, 0, none⟩ = some (.int .i64 0) := (blk_cell BK118.out 0).trans rfl; have hcz85_1 : w82.cell? ⟨gb118, 1, none⟩ = some (.slice none 0 0) := (blk_cell BK118.out 1).trans rfl; have hcz85_2 : w82.cell? ⟨gb118, 2, none⟩ = some (.slice none 0 0) := (blk_cell BK118.out 2).trans rfl; have hfz85_0 := blk_frozen BK118.out 0; have hfz85_1 := blk_frozen BK118.out 1; have hfz85_2 := blk_frozen BK118.out 2))
              refine bodyPost_ret (results_cell_row rfl _ _ gb118 48 #[.int .i64 t157, .slice Ao81 x120001_1.length co81, .slice none 0 0] (0, 0) _ rfl (by (with_reducible repeat (first | refine blk_drewN ?_ _ | refine blk_drew ?_ | refine blk_alloc ?_ _)); refine blk_put (cs := #[.int .i64 t157, .slice Ao81 x120001_1.length co81, .slice none 0 0]) ?_ 2 _ rfl; (with_reducible repeat (first | refine blk_drewN ?_ _ | refine blk_drew ?_ | refine blk_alloc ?_ _)); refine blk_put (cs := #[.int .i64 t157, .slice none 0 0, .slice none 0 0]) ?_ 1 _ rfl; (with_reducible repeat (first | refine blk_drewN ?_ _ | refine blk_drew ?_ | refine blk_alloc ?_ _)); refine blk_put (cs := #[.int .i64 0, .slice none 0 0, .slice none 0 0]) ?_ 0 _ rfl; (with_reducible repeat (first | refine blk_drewN ?_ _ | refine blk_drew ?_ | refine blk_alloc ?_ _)); refine blk_far ?_ NB118_119.out _; (with_reducible repeat (first | refine blk_drewN ?_ _ | refine blk_drew ?_ | refine blk_alloc ?_ _)); exact BK118.out) Try.underlying48 rfl (by kernel_rfl)) rfl ?_
              exact ⟨_, _, by first | rfl | (simp [errW_none, errW_some] <;> rfl) | (simp only [← hji5]; first | rfl | (simp [errW_none, errW_some] <;> rfl)) | (simp [*, errW_none, errW_some] <;> rfl), by (with_reducible repeat (first | apply Kd.R_alloc | apply Kd.R_drewN | apply Kd.R_drew)); exact Kd.R_mono (Kd.R_far (p := ⟨gb118, 2, none⟩) (Kd.R_far (p := ⟨gb118, 1, none⟩) (Kd.R_far (p := ⟨gb118, 0, none⟩) (Kd.R_far (p := ⟨gb119, 0, none⟩) (Kd.R_types (Kd.R_types HO_120001.out BK119.out (by decide)) BK118.out (by decide)) (fun _ hk => hk.1.2) (.int .i64 t157)) (fun _ hk => hk.2) (.int .i64 t157)) (fun _ hk => hk.2) (.slice Ao81 x120001_1.length co81)) (fun _ hk => hk.2) (.slice none 0 0)) (fun _ hk => trivial), by first | exact Kd.R_nil _ _ _ _ _ | exact Kd.N_nil _ _ _ _ _ | exact Kd.V_nil _ _ _ _ _ | exact Kd.Q_nil _ _ _ _ _ | exact Kd.S_nil _ _ _ _ _, by repeat (first | (with_reducible first | exact HI0.out | apply IsS78.alloc | apply IsS78.drewN | apply IsS78.drew | apply IsS78.set_1 | refine IsS78.far ?_ NB0_118.out _ | refine IsS78.far ?_ NB0_119.out _) | exact HI0.out), by repeat (first | (with_reducible first | exact HB.out | apply below_alloc | apply pw_below_drewN | apply below_drew1 | refine below_set ?_ (IsS78.ge HI0.out) | refine below_set ?_ GE118.out | refine below_set ?_ GE119.out) | exact HB.out), by repeat (first | (with_reducible first | exact HK.out | apply KeepBut.set_ | apply keep_drewN | apply keep_drew | apply keep_alloc | refine keep_far ?_ GW118.out _ | refine keep_far ?_ GW119.out _) | exact HK.out)⟩
    · rw [if_neg c8] at H
      exact absurd H (by simp)
  · rw [if_neg c7] at H
    exact absurd H (by simp)

/-! ### trustquorumref02_Depth: function 95 -/
mutual
def trustquorumref02_Depth.l0 : Nat → Int → List (S48) → Int → Int → Option (Int)
  | 0, _, _, _, _ => none
  | k + 1, x3, x7, x8, x9 => if x9 < x8 then (if 0 ≤ x9 then (if x9 < (x7.length : Int) then ((trustquorumref02_Depth.f k ((rd_T48 x7 x9).f0) ((rd_T48 x7 x9).f1) ((rd_T48 x7 x9).f2)).bind fun t162 => (trustquorumref02_Depth.l0 k (mx x3 t162) x7 x8 (wrap64 (x9 + 1)))) else (none)) else (none)) else (some (wrap64 (x3 + 1)))
def trustquorumref02_Depth.f : Nat → Int → List Int → List (S48) → Option (Int)
  | 0, _, _, _ => none
  | k + 1, a0_0, l0_1, l0_2 => trustquorumref02_Depth.l0 k 0 l0_2 (l0_2.length : Int) 0
end
theorem trustquorumref02_Depth.mono_l : ∀ k, (∀ y0 y1 y2, LeO (trustquorumref02_Depth.f k y0 y1 y2) (trustquorumref02_Depth.f (k + 1) y0 y1 y2)) ∧ (∀ y0 y1 y2 y3, LeO (trustquorumref02_Depth.l0 k y0 y1 y2 y3) (trustquorumref02_Depth.l0 (k + 1) y0 y1 y2 y3))
  | 0 => ⟨fun _ _ _ r h => by simp [trustquorumref02_Depth.f] at h, fun _ _ _ _ r h => by simp [trustquorumref02_Depth.l0] at h⟩
  | k + 1 => by
    obtain ⟨ih0, ih1⟩ := trustquorumref02_Depth.mono_l k
    refine ⟨?_, ?_⟩
    · intro y0 y1 y2
      unfold trustquorumref02_Depth.f
      repeat' first
      | (with_reducible exact ih0 _ _ _)
      | (with_reducible exact ih1 _ _ _ _)
      | (with_reducible exact LeO.refl _)
      | (with_reducible exact LeO.none _)
      | (with_reducible refine LeO.ite ?_ ?_)
      | (with_reducible refine LeO.bind ?_ (fun _ => ?_))
      | exact ih0 _ _ _
      | exact ih1 _ _ _ _
      | exact LeO.none _
      | refine LeO.ite ?_ ?_
      | refine LeO.bind ?_ (fun _ => ?_)
    · intro y0 y1 y2 y3
      unfold trustquorumref02_Depth.l0
      repeat' first
      | (with_reducible exact ih0 _ _ _)
      | (with_reducible exact ih1 _ _ _ _)
      | (with_reducible exact LeO.refl _)
      | (with_reducible exact LeO.none _)
      | (with_reducible refine LeO.ite ?_ ?_)
      | (with_reducible refine LeO.bind ?_ (fun _ => ?_))
      | exact ih0 _ _ _
      | exact ih1 _ _ _ _
      | exact LeO.none _
      | refine LeO.ite ?_ ?_
      | refine LeO.bind ?_ (fun _ => ?_)
theorem trustquorumref02_Depth.mono : ∀ a0 a1 a2 k, LeO (trustquorumref02_Depth.f k a0 a1 a2) (trustquorumref02_Depth.f (k + 1) a0 a1 a2) := by
  intro a0 a1 a2 k
  obtain ⟨ih0, ih1⟩ := trustquorumref02_Depth.mono_l k
  exact ih0 a0 a1 a2
set_option maxHeartbeats 8000000 in
set_option maxRecDepth 100000 in
theorem trustquorumref02_Depth.calls (k : Nat) : ∀ (a0_0 : Int) (A0_1 : Option Addr) (c0_1 : Nat) (l0_1 : List Int) (A0_2 : Option Addr) (c0_2 : Nat) (l0_2 : List (S48)) (r : Int) (w : World) (hr0_1 : Kd.C (Kd.int .i64) w A0_1 l0_1.length l0_1) (hc0_1 : l0_1.length ≤ c0_1) (hr0_2 : Kd.C k48 w A0_2 l0_2.length l0_2) (hc0_2 : l0_2.length ≤ c0_2) (h : trustquorumref02_Depth.f k a0_0 l0_1 l0_2 = some r),
    Calls Try.prog 95 #[.agg #[.int .i64 a0_0, .slice A0_1 l0_1.length c0_1, .slice A0_2 l0_2.length c0_2]] w fun e w' => e = .returned (.int .i64 r) ∧ Below w.heap.size w w' := by
  induction k using Nat.strongRecOn with
  | _ k ih =>
  intro a0_0 A0_1 c0_1 l0_1 A0_2 c0_2 l0_2 r w hr0_1 hc0_1 hr0_2 hc0_2 h
  cases k with
  | zero => exact absurd h (by simp [trustquorumref02_Depth.f])
  | succ k =>
  simp only [trustquorumref02_Depth.f] at h
  have hu48 := Try.underlying48
  have HR0_1 := Aside0.mk hr0_1
  have HC0_1 := Aside0.mk hc0_1
  clear hr0_1 hc0_1
  have HR0_2 := Aside0.mk hr0_2
  have HC0_2 := Aside0.mk hc0_2
  clear hr0_2 hc0_2
  have HB := Aside0.mk (Below.refl w.heap.size w)
  have H : (trustquorumref02_Depth.l0 k 0 l0_2 (l0_2.length : Int) 0) = some r := h
  clear h
  have H' := Aside0.mk H
  clear H
  go_enter Try.func95, Try.ntmps95
  go_wp2_with (first | ((with_reducible refine gate_dst (N := 1) rfl ?_); refine box_event ?hg (N := 1) ?hd (cs := #[.int .i64 a0_0, .slice A0_1 l0_1.length c0_1, .slice A0_2 l0_2.length c0_2]) (t := 48) ?hr ?_; (case hd => rfl); (case hg => rfl); (case hr => first | (go_simp; done) | (go_simp; rfl)); intro gb159 hg w2 hbox hb; have n0_ := Aside0.mk (below_step (by repeat (first | (with_reducible first | exact HB.out | apply below_alloc | apply pw_below_drewN | apply below_drew1) | exact HB.out)) hb); have n1_ := Aside0.mk (hbox); have n2_ := Aside0.mk ((by rw [hg]; exact (below_size (by repeat (first | (with_reducible first | exact HB.out | apply below_alloc | apply pw_below_drewN | apply below_drew1) | exact HB.out))) : w.heap.size ≤ gb159)); have n3_ := Aside0.mk ((by rw [hg]; exact (below_size (by repeat (first | (with_reducible first | exact HB.out | apply below_alloc | apply pw_below_drewN | apply below_drew1) | exact HB.out))) : w.heap.size ≤ gb159)); clear HB; have HB := n0_; have BK159 := n1_; have GW159 := n2_; have GE159 := n3_; clear n0_ n1_ n2_ n3_; clear hb hbox hg; have hcz3_0 : w2.cell? ⟨gb159, 0, none⟩ = some (.int .i64 a0_0) := (blk_cell BK159.out 0).trans rfl; have hcz3_1 : w2.cell? ⟨gb159, 1, none⟩ = some (.slice A0_1 l0_1.length c0_1) := (blk_cell BK159.out 1).trans rfl; have hcz3_2 : w2.cell? ⟨gb159, 2, none⟩ = some (.slice A0_2 l0_2.length c0_2) := (blk_cell BK159.out 2).trans rfl; have hfz3_0 := blk_frozen BK159.out 0; have hfz3_1 := blk_frozen BK159.out 1; have hfz3_2 := blk_frozen BK159.out 2))
  go_loopg [3, 9] k (fun kq v3 v9 w' => ∃ (x3_1 : Int) (x9_1 : Int), v3 = .int .i64 x3_1 ∧ v9 = .int .i64 x9_1 ∧ Aside0 (trustquorumref02_Depth.l0 kq x3_1 l0_2 (l0_2.length : Int) x9_1 = some r) ∧ Aside0 (kq ≤ k) ∧ Aside0 (w'.heap[gb159]? = some (.cells #[.int .i64 a0_0, (.slice A0_1 l0_1.length c0_1), (.slice A0_2 l0_2.length c0_2)] 48 (0, 0))) ∧ Aside0 (Below w.heap.size w w'))
  case atStart => exact ⟨(0), (0), (by first | rfl | (simp; done) | (simp [*]; done) | (refine congrArg (Value.int .i64) ?_; unfold wrap64; omega)), (by first | rfl | (simp; done) | (simp [*]; done) | (refine congrArg (Value.int .i64) ?_; unfold wrap64; omega)), H', ⟨Nat.le_refl _⟩, ⟨by (with_reducible repeat (first | refine blk_drewN ?_ _ | refine blk_drew ?_ | refine blk_alloc ?_ _)); exact BK159.out⟩, ⟨by repeat (first | (with_reducible first | exact HB.out | apply below_alloc | apply pw_below_drewN | apply below_drew1 | refine below_set ?_ GE159.out) | exact HB.out)⟩⟩
  case round =>
    clear H'
    try clear p2
    try clear hcz3_0
    try clear hcz3_1
    try clear hcz3_2
    try clear hfz3_0
    try clear hfz3_1
    try clear hfz3_2
    obtain ⟨x3_1, x9_1, rfl, rfl, HA, HK1, BK159, HB⟩ := hrel
    cases gk with
    | zero => exact absurd HA.out (by simp [trustquorumref02_Depth.l0])
    | succ k1 =>
      have H := HA.out
      clear HA
      simp only [trustquorumref02_Depth.l0] at H
      by_cases c4 : x9_1 < (l0_2.length : Int)
      · rw [if_pos c4] at H
        have c4b0 : decide (x9_1 < (l0_2.length : Int)) = true := decide_eq_true c4
        clear c4
        by_cases c5 : 0 ≤ x9_1
        · rw [if_pos c5] at H
          have c5b0 : decide (0 ≤ x9_1) = true := decide_eq_true c5
          clear c5
          by_cases c6 : x9_1 < (l0_2.length : Int)
          · rw [if_pos c6] at H
            have c6b0 : decide (x9_1 < (l0_2.length : Int)) = true := decide_eq_true c6
            clear c6
            replace H := Option.bind_eq_some_iff.mp H
            obtain ⟨t162, A70, H⟩ := H
            replace H : (trustquorumref02_Depth.l0 k1 (mx x3_1 t162) l0_2 (l0_2.length : Int) (wrap64 (x9_1 + 1))) = some r := H
            have A7 := Aside0.mk A70
            clear A70
            obtain ⟨ji8, hji8⟩ : ∃ j_ : Int, (mx x3_1 t162) = j_ := ⟨_, rfl⟩
            replace H : (trustquorumref02_Depth.l0 k1 ji8 l0_2 (l0_2.length : Int) (wrap64 (x9_1 + 1))) = some r := by first | (rw [hji8] at H; exact H) | (simp only [hji8] at H ⊢; exact H)
            (try rw [hji8] at A7)
            have hji8_ : (if x3_1 < t162 then t162 else x3_1) = ji8 := hji8
            have H' := Aside0.mk H
            clear H
            have p160 : 0 ≤ (x9_1 : Int) := of_decide_eq_true (by first | (with_reducible assumption) | assumption)
            have q160 : x9_1 < (l0_2.length : Int) := of_decide_eq_true (by first | (with_reducible assumption) | assumption)
            obtain ⟨ad160, A160_1, c160_1, A160_2, c160_2, e160, hx160_0, hx160_1, hx160_2, hl160_1, hi160_1, hl160_2, hi160_2⟩ := at_T48 HR0_2.out x9_1 p160 q160
            cases e160
            replace hx160_0 := (HB.out.cell (World.block_lt_of_cell? w _ hx160_0)).trans hx160_0
            replace hx160_1 := (HB.out.cell (World.block_lt_of_cell? w _ hx160_1)).trans hx160_1
            replace hx160_2 := (HB.out.cell (World.block_lt_of_cell? w _ hx160_2)).trans hx160_2
            have HR160_1 := Aside0.mk hi160_1
            have HC160_1 := Aside0.mk hl160_1
            clear hi160_1 hl160_1
            have HR160_2 := Aside0.mk hi160_2
            have HC160_2 := Aside0.mk hl160_2
            clear hi160_2 hl160_2
            replace p160 := eq_true p160
            replace q160 := eq_true q160
            go_wp2_with (first | ((with_reducible refine gate_dst (N := 5) rfl ?_); refine box_event ?hg (N := 5) ?hd (cs := #[.int .i64 0, .slice none 0 0, .slice none 0 0]) (t := 48) ?hr ?_; (case hd => rfl); (case hg => rfl); (case hr => first | (go_simp; done) | (go_simp; rfl)); intro gb161 hg w9 hbox hb; have n0_ := Aside0.mk (blk_below (g := gb159) (o := .cells #[.int .i64 a0_0, .slice A0_1 l0_1.length c0_1, .slice (some ad160) l0_2.length c0_2] 48 (0, 0)) (by (with_reducible repeat (first | refine blk_drewN ?_ _ | refine blk_drew ?_ | refine blk_alloc ?_ _)); exact BK159.out) hb); have n1_ := Aside0.mk (below_step (by repeat (first | (with_reducible first | exact HB.out | apply below_alloc | apply pw_below_drewN | apply below_drew1 | refine below_set ?_ GE159.out) | exact HB.out)) hb); have n2_ := Aside0.mk (hbox); have n3_ := Aside0.mk ((by rw [hg]; exact (below_size (by repeat (first | (with_reducible first | exact HB.out | apply below_alloc | apply pw_below_drewN | apply below_drew1 | refine below_set ?_ GE159.out) | exact HB.out))) : w.heap.size ≤ gb161)); have n4_ := Aside0.mk ((by rw [hg]; exact (below_size (by repeat (first | (with_reducible first | exact HB.out | apply below_alloc | apply pw_below_drewN | apply below_drew1 | refine below_set ?_ GE159.out) | exact HB.out))) : w.heap.size ≤ gb161)); have n5_ := Aside0.mk ((by rw [hg]; exact Nat.ne_of_lt (blk_lt (g := gb159) (o := .cells #[.int .i64 a0_0, .slice A0_1 l0_1.length c0_1, .slice (some ad160) l0_2.length c0_2] 48 (0, 0)) (by (with_reducible repeat (first | refine blk_drewN ?_ _ | refine blk_drew ?_ | refine blk_alloc ?_ _)); exact BK159.out)) : gb159 ≠ gb161)); have n6_ := Aside0.mk ((by rw [hg]; exact Nat.ne_of_gt (blk_lt (g := gb159) (o := .cells #[.int .i64 a0_0, .slice A0_1 l0_1.length c0_1, .slice (some ad160) l0_2.length c0_2] 48 (0, 0)) (by (with_reducible repeat (first | refine blk_drewN ?_ _ | refine blk_drew ?_ | refine blk_alloc ?_ _)); exact BK159.out)) : gb161 ≠ gb159)); clear BK159; clear HB; have BK159 := n0_; have HB := n1_; have BK161 := n2_; have GW161 := n3_; have GE161 := n4_; have NB159_161 := n5_; have NB161_159 := n6_; clear n0_ n1_ n2_ n3_ n4_ n5_ n6_; clear hb hbox hg; have hnb10 := NB161_159.out; have hnc10 := NB159_161.out; have hcz11_0 : w9.cell? ⟨gb161, 0, none⟩ = some (.int .i64 0) := (blk_cell BK161.out 0).trans rfl; have hcz11_1 : w9.cell? ⟨gb161, 1, none⟩ = some (.slice none 0 0) := (blk_cell BK161.out 1).trans rfl; have hcz11_2 : w9.cell? ⟨gb161, 2, none⟩ = some (.slice none 0 0) := (blk_cell BK161.out 2).trans rfl; have hfz11_0 := blk_frozen BK161.out 0; have hfz11_1 := blk_frozen BK161.out 1; have hfz11_2 := blk_frozen BK161.out 2) | ((with_reducible refine gate_callee (f := 95) rfl ?_); refine goesL_ (some 15) rfl rfl Try.func95 (by kernel_rfl) rfl #[.agg #[.int .i64 ((rd_T48 l0_2 x9_1).f0), .slice A160_1 ((rd_T48 l0_2 x9_1).f1).length c160_1, .slice A160_2 ((rd_T48 l0_2 x9_1).f2).length c160_2]] rfl (by (try simp only [List.map_toArray, List.map_cons, List.map_nil]); first | done | rfl | (simp only [List.length_drop, List.length_take]; rfl)) ?_; (with_reducible refine (ih k1 (by have := HK1.out; omega) ((rd_T48 l0_2 x9_1).f0) _ _ ((rd_T48 l0_2 x9_1).f1) _ _ ((rd_T48 l0_2 x9_1).f2) t162 _ ?side1 ?side2 ?side3 ?side4 A7.out).mono ?_); (case side1 => exact Kd.C_below HR160_1.out (by repeat (first | (with_reducible first | exact HB.out | apply below_alloc | apply pw_below_drewN | apply below_drew1 | refine below_set ?_ GE159.out | refine below_set ?_ GE161.out) | exact HB.out))); (case side2 => exact HC160_1.out); (case side3 => exact Kd.C_below HR160_2.out (by repeat (first | (with_reducible first | exact HB.out | apply below_alloc | apply pw_below_drewN | apply below_drew1 | refine below_set ?_ GE159.out | refine below_set ?_ GE161.out) | exact HB.out))); (case side4 => exact HC160_2.out); rintro e w12 ⟨rfl, hb⟩; refine ⟨_, rfl, ?_⟩; have n0_ := Aside0.mk (blk_below (g := gb159) (o := .cells #[.int .i64 a0_0, .slice A0_1 l0_1.length c0_1, .slice (some ad160) l0_2.length c0_2] 48 (0, 0)) (by (with_reducible repeat (first | refine blk_drewN ?_ _ | refine blk_drew ?_ | refine blk_alloc ?_ _)); refine blk_far ?_ NB159_161.out _; (with_reducible repeat (first | refine blk_drewN ?_ _ | refine blk_drew ?_ | refine blk_alloc ?_ _)); refine blk_far ?_ NB159_161.out _; (with_reducible repeat (first | refine blk_drewN ?_ _ | refine blk_drew ?_ | refine blk_alloc ?_ _)); refine blk_far ?_ NB159_161.out _; (with_reducible repeat (first | refine blk_drewN ?_ _ | refine blk_drew ?_ | refine blk_alloc ?_ _)); exact BK159.out) hb); have n1_ := Aside0.mk (blk_below (g := gb161) (o := .cells #[.int .i64 ((rd_T48 l0_2 x9_1).f0), .slice A160_1 ((rd_T48 l0_2 x9_1).f1).length c160_1, .slice A160_2 ((rd_T48 l0_2 x9_1).f2).length c160_2] 48 (0, 0)) (by (with_reducible repeat (first | refine blk_drewN ?_ _ | refine blk_drew ?_ | refine blk_alloc ?_ _)); refine blk_put (cs := #[.int .i64 ((rd_T48 l0_2 x9_1).f0), .slice A160_1 ((rd_T48 l0_2 x9_1).f1).length c160_1, .slice none 0 0]) ?_ 2 _ rfl; (with_reducible repeat (first | refine blk_drewN ?_ _ | refine blk_drew ?_ | refine blk_alloc ?_ _)); refine blk_put (cs := #[.int .i64 ((rd_T48 l0_2 x9_1).f0), .slice none 0 0, .slice none 0 0]) ?_ 1 _ rfl; (with_reducible repeat (first | refine blk_drewN ?_ _ | refine blk_drew ?_ | refine blk_alloc ?_ _)); refine blk_put (cs := #[.int .i64 0, .slice none 0 0, .slice none 0 0]) ?_ 0 _ rfl; (with_reducible repeat (first | refine blk_drewN ?_ _ | refine blk_drew ?_ | refine blk_alloc ?_ _)); exact BK161.out) hb); have n2_ := Aside0.mk (below_step (by repeat (first | (with_reducible first | exact HB.out | apply below_alloc | apply pw_below_drewN | apply below_drew1 | refine below_set ?_ GE159.out | refine below_set ?_ GE161.out) | exact HB.out)) hb); clear BK159; clear BK161; clear HB; have BK159 := n0_; have BK161 := n1_; have HB := n2_; clear n0_ n1_ n2_; (try clear hb); (try clear hb2); (try clear hk); (try clear hi)))
            go_roundg k1
            case measure => have := HK1.out; omega
            case rel => exact ⟨(ji8), (wrap64 (x9_1 + 1)), (by first | rfl | (simp; done) | (simp only [← hji8] <;> (first | rfl | simp)) | (simp [*]; done)), (by first | rfl | (simp; done) | (simp [*]; done) | (refine congrArg (Value.int .i64) ?_; unfold wrap64; omega)), H', ⟨by have := HK1.out; omega⟩, ⟨by (with_reducible repeat (first | refine blk_drewN ?_ _ | refine blk_drew ?_ | refine blk_alloc ?_ _)); exact BK159.out⟩, ⟨by repeat (first | (with_reducible first | exact HB.out | apply below_alloc | apply pw_below_drewN | apply below_drew1 | refine below_set ?_ GE159.out | refine below_set ?_ GE161.out) | exact HB.out)⟩⟩
          · rw [if_neg c6] at H
            exact absurd H (by simp)
        · rw [if_neg c5] at H
          exact absurd H (by simp)
      · rw [if_neg c4] at H
        have c4b0 : decide (x9_1 < (l0_2.length : Int)) = false := decide_eq_false c4
        clear c4
        obtain rfl := Option.some.inj H
        go_wp2
        go_ret
        exact ⟨by first | rfl | (simp [errW_none, errW_some] <;> rfl) | (simp [*, errW_none, errW_some] <;> rfl), by repeat (first | (with_reducible first | exact HB.out | apply below_alloc | apply pw_below_drewN | apply below_drew1 | refine below_set ?_ GE159.out) | exact HB.out)⟩

end Go.Proofs.Ytmeamdklonmahaa.QFederatedGrows
