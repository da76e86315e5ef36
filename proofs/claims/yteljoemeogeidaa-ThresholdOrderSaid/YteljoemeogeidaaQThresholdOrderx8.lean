/- Lean functions that answer as the Go functions do which the law reaches, and proofs that the Go code comes to exactly these answers. Conditions: those that each theorem names. -/
import Derived.Test.YteljoemeogeidaaQThresholdOrderx0
import Derived.Test.YteljoemeogeidaaQThresholdOrderx1
import Derived.Test.YteljoemeogeidaaQThresholdOrderx3
namespace Go.Proofs.Yteljoemeogeidaa.QThresholdOrder
open Go.RowKit Go.Proofs.YteljoemeogeidaaW.PrintWords Go.Proofs.YteljoemeogeidaaW.PrintLast Go.Proofs.YteljoemeogeidaaW.PrintMore
attribute [local go_sem] max2_int min2_int max_two min_two max_three min_three max_four min_four   -- for this text's walks alone
set_option linter.unusedVariables false
set_option linter.unusedSimpArgs false

/-! ### trustquorumlaw02_mixed: function 16 -/
mutual
def trustquorumlaw02_mixed.l0 : Nat → List Int → Int → Int → List Int → Int → Int → List Int → List (S27) → Int → List Int → Option (Int × List Int × (List (S27)) × Int)
  | 0, _, _, _, _, _, _, _, _, _, _ => none
  | k + 1, x17, x18, x19, x1000, x1001, x257000, x257001, x257002, x259000, x259001 => if x19 < x18 then (if 0 ≤ x19 then (if x19 < (x17.length : Int) then (if 0 ≤ (rd x17 x19) then (if (rd x17 x19) < (x257001.length : Int) then (if x259001.length < 17592186044416 then (trustquorumlaw02_mixed.l0 k x17 x18 (wrap64 (x19 + 1)) x1000 x1001 x257000 x257001 x257002 x259000 (x259001 ++ [rd x257001 (rd x17 x19)])) else (none)) else (none)) else (none)) else (none)) else (none)) else ((trustquorummake_Tape_Order.f k x1000 x1001 (x257002.length : Int)).bind fun bt268 => (trustquorumlaw02_mixed.l1 k bt268.1 (bt268.1.length : Int) 0 x1000 bt268.2 x257000 x257001 x257002 x259000 x259001 ([] : List (S27))))
def trustquorumlaw02_mixed.l1 : Nat → List Int → Int → Int → List Int → Int → Int → List Int → List (S27) → Int → List Int → List (S27) → Option (Int × List Int × (List (S27)) × Int)
  | 0, _, _, _, _, _, _, _, _, _, _, _ => none
  | k + 1, x38, x39, x40, x1000, x1001, x257000, x257001, x257002, x259000, x259001, x259002 => if x40 < x39 then (if 0 ≤ x40 then (if x40 < (x38.length : Int) then (if 0 ≤ (rd x38 x40) then (if (rd x38 x40) < (x257002.length : Int) then ((trustquorumlaw02_mixed.f k x1000 x1001 ((rd_T27 x257002 (rd x38 x40)).f0) ((rd_T27 x257002 (rd x38 x40)).f1) ((rd_T27 x257002 (rd x38 x40)).f2)).bind fun bt274 => (if x259002.length < 2513169434916 then (trustquorumlaw02_mixed.l1 k x38 x39 (wrap64 (x40 + 1)) x1000 bt274.2.2.2 x257000 x257001 x257002 x259000 x259001 (x259002 ++ [(⟨bt274.1, bt274.2.1, bt274.2.2.1⟩ : S27)])) else (none))) else (none)) else (none)) else (none)) else (none)) else (some (x259000, x259001, x259002, x1001))
def trustquorumlaw02_mixed.f : Nat → List Int → Int → Int → List Int → List (S27) → Option (Int × List Int × (List (S27)) × Int)
  | 0, _, _, _, _, _ => none
  | k + 1, s0_0, s0_1, a1_0, l1_1, l1_2 => (trustquorummake_Tape_Order.f k s0_0 s0_1 (l1_1.length : Int)).bind fun bt259 => (trustquorumlaw02_mixed.l0 k bt259.1 (bt259.1.length : Int) 0 s0_0 bt259.2 a1_0 l1_1 l1_2 a1_0 ([] : List Int))
end
theorem trustquorumlaw02_mixed.mono_l : ∀ k, (∀ y0 y1 y2 y3 y4, LeO (trustquorumlaw02_mixed.f k y0 y1 y2 y3 y4) (trustquorumlaw02_mixed.f (k + 1) y0 y1 y2 y3 y4)) ∧ (∀ y0 y1 y2 y3 y4 y5 y6 y7 y8 y9, LeO (trustquorumlaw02_mixed.l0 k y0 y1 y2 y3 y4 y5 y6 y7 y8 y9) (trustquorumlaw02_mixed.l0 (k + 1) y0 y1 y2 y3 y4 y5 y6 y7 y8 y9)) ∧ (∀ y0 y1 y2 y3 y4 y5 y6 y7 y8 y9 y10, LeO (trustquorumlaw02_mixed.l1 k y0 y1 y2 y3 y4 y5 y6 y7 y8 y9 y10) (trustquorumlaw02_mixed.l1 (k + 1) y0 y1 y2 y3 y4 y5 y6 y7 y8 y9 y10))
  | 0 => ⟨fun _ _ _ _ _ r h => by simp [trustquorumlaw02_mixed.f] at h, fun _ _ _ _ _ _ _ _ _ _ r h => by simp [trustquorumlaw02_mixed.l0] at h, fun _ _ _ _ _ _ _ _ _ _ _ r h => by simp [trustquorumlaw02_mixed.l1] at h⟩
  | k + 1 => by
    obtain ⟨ih0, ih1, ih2⟩ := trustquorumlaw02_mixed.mono_l k
    refine ⟨?_, ?_, ?_⟩
    · intro y0 y1 y2 y3 y4
      unfold trustquorumlaw02_mixed.f
      repeat' first
      | (with_reducible exact ih0 _ _ _ _ _)
      | (with_reducible exact ih1 _ _ _ _ _ _ _ _ _ _)
      | (with_reducible exact ih2 _ _ _ _ _ _ _ _ _ _ _)
      | (with_reducible exact trustquorummake_Tape_Order.mono _ _ _ _)
      | (with_reducible exact LeO.refl _)
      | (with_reducible exact LeO.none _)
      | (with_reducible refine LeO.ite ?_ ?_)
      | (with_reducible refine LeO.bind ?_ (fun _ => ?_))
      | exact ih0 _ _ _ _ _
      | exact ih1 _ _ _ _ _ _ _ _ _ _
      | exact ih2 _ _ _ _ _ _ _ _ _ _ _
      | exact trustquorummake_Tape_Order.mono _ _ _ _
      | exact LeO.none _
      | refine LeO.ite ?_ ?_
      | refine LeO.bind ?_ (fun _ => ?_)
    · intro y0 y1 y2 y3 y4 y5 y6 y7 y8 y9
      unfold trustquorumlaw02_mixed.l0
      repeat' first
      | (with_reducible exact ih0 _ _ _ _ _)
      | (with_reducible exact ih1 _ _ _ _ _ _ _ _ _ _)
      | (with_reducible exact ih2 _ _ _ _ _ _ _ _ _ _ _)
      | (with_reducible exact trustquorummake_Tape_Order.mono _ _ _ _)
      | (with_reducible exact LeO.refl _)
      | (with_reducible exact LeO.none _)
      | (with_reducible refine LeO.ite ?_ ?_)
      | (with_reducible refine LeO.bind ?_ (fun _ => ?_))
      | exact ih0 _ _ _ _ _
      | exact ih1 _ _ _ _ _ _ _ _ _ _
      | exact ih2 _ _ _ _ _ _ _ _ _ _ _
      | exact trustquorummake_Tape_Order.mono _ _ _ _
      | exact LeO.none _
      | refine LeO.ite ?_ ?_
      | refine LeO.bind ?_ (fun _ => ?_)
    · intro y0 y1 y2 y3 y4 y5 y6 y7 y8 y9 y10
      unfold trustquorumlaw02_mixed.l1
      repeat' first
      | (with_reducible exact ih0 _ _ _ _ _)
      | (with_reducible exact ih1 _ _ _ _ _ _ _ _ _ _)
      | (with_reducible exact ih2 _ _ _ _ _ _ _ _ _ _ _)
      | (with_reducible exact trustquorummake_Tape_Order.mono _ _ _ _)
      | (with_reducible exact LeO.refl _)
      | (with_reducible exact LeO.none _)
      | (with_reducible refine LeO.ite ?_ ?_)
      | (with_reducible refine LeO.bind ?_ (fun _ => ?_))
      | exact ih0 _ _ _ _ _
      | exact ih1 _ _ _ _ _ _ _ _ _ _
      | exact ih2 _ _ _ _ _ _ _ _ _ _ _
      | exact trustquorummake_Tape_Order.mono _ _ _ _
      | exact LeO.none _
      | refine LeO.ite ?_ ?_
      | refine LeO.bind ?_ (fun _ => ?_)
theorem trustquorumlaw02_mixed.mono : ∀ a0 a1 a2 a3 a4 k, LeO (trustquorumlaw02_mixed.f k a0 a1 a2 a3 a4) (trustquorumlaw02_mixed.f (k + 1) a0 a1 a2 a3 a4) := by
  intro a0 a1 a2 a3 a4 k
  obtain ⟨ih0, ih1, ih2⟩ := trustquorumlaw02_mixed.mono_l k
  exact ih0 a0 a1 a2 a3 a4
def trustquorumlaw02_mixed.T5 : Bool × List (List Nat × List Nat) := (true, [([], []), ([0], [0]), ([], []), ([2], [2]), ([], []), ([3, 4], [3, 4]), ([5], [5]), ([6], [6]), ([1, 7], [1, 7]), ([0, 1, 2, 3, 4, 5, 6, 7, 8], []), ([9, 8, 8, 0, 1, 2, 3, 4, 5, 6, 7, 8], [8, 9])])
def trustquorumlaw02_mixed.B5 : List Nat := [0, 1, 0, 4, 0, 28, 60, 124, 255, 511, 1023]
theorem trustquorumlaw02_mixed.tab5 : rtab .any (opsOf Try.f16 5) = trustquorumlaw02_mixed.T5 := by kernel_rfl
theorem trustquorumlaw02_mixed.bits5 : waitsOk trustquorumlaw02_mixed.T5.2 trustquorumlaw02_mixed.B5 = true := by kernel_rfl
def trustquorumlaw02_mixed.T10 : Bool × List (List Nat × List Nat) := (true, [([], []), ([0], [0]), ([], []), ([], []), ([3], [3]), ([], []), ([4, 5], [4, 5]), ([6], [6]), ([2, 7], [2, 7]), ([8], [8]), ([1, 9, 8], [1, 9]), ([0, 1, 2, 3, 4, 5, 6, 7, 8, 9, 10], []), ([11, 10, 10, 0, 1, 2, 3, 4, 5, 6, 7, 8, 9, 10], [10, 11])])
def trustquorumlaw02_mixed.B10 : List Nat := [0, 1, 0, 0, 8, 0, 56, 120, 252, 508, 1023, 2047, 4095]
theorem trustquorumlaw02_mixed.tab10 : rtab .any (opsOf Try.f16 10) = trustquorumlaw02_mixed.T10 := by kernel_rfl
theorem trustquorumlaw02_mixed.bits10 : waitsOk trustquorumlaw02_mixed.T10.2 trustquorumlaw02_mixed.B10 = true := by kernel_rfl
set_option maxHeartbeats 8000000 in
set_option maxRecDepth 100000 in
theorem trustquorumlaw02_mixed.calls (k : Nat) : ∀ (g : Nat) (s0_0 : List Int) (s0_1 : Int) (a1_0 : Int) (A1_1 : Option Addr) (c1_1 : Nat) (l1_1 : List Int) (A1_2 : Option Addr) (c1_2 : Nat) (l1_2 : List (S27)) (r1 : Int) (r2 : List Int) (r3 : List (S27)) (r4 : Int) (w0 w : World) (hI : IsS43 w0 w g s0_0 s0_1) (hB : Below w0.heap.size w0 w) (hr1_1 : Kd.C (Kd.int .i64) w A1_1 l1_1.length l1_1) (hc1_1 : l1_1.length ≤ c1_1) (hf1_1 : ∀ ad, A1_1 = some ad → 0 < l1_1.length → ad.block ≠ g) (hr1_2 : ∀ W_, KeepBut w W_ g none → Kd.C k27 W_ A1_2 l1_2.length l1_2) (hc1_2 : l1_2.length ≤ c1_2) (h : trustquorumlaw02_mixed.f k s0_0 s0_1 a1_0 l1_1 l1_2 = some (r1, r2, r3, r4)),
    Calls Try.prog 16 #[.pointer (some ⟨g, 0, none⟩), .agg #[.int .i64 a1_0, .slice A1_1 l1_1.length c1_1, .slice A1_2 l1_2.length c1_2]] w fun e w' => ∃ v1_ v2_ : Value, e = .returned (.agg #[.int .i64 r1, v1_, v2_]) ∧ Kd.R (Kd.int .i64) 3 w' w.heap.size (fun _ => True) v1_ r2 ∧ Kd.R k27 27 w' w.heap.size (fun k_ => some k_ ≠ (v1_ : Value).ownBlock) v2_ r3 ∧ IsS43 w0 w' g s0_0 r4 ∧ Below w0.heap.size w0 w' ∧ KeepBut w w' g none := by
  induction k using Nat.strongRecOn with
  | _ k ih =>
  intro g s0_0 s0_1 a1_0 A1_1 c1_1 l1_1 A1_2 c1_2 l1_2 r1 r2 r3 r4 w0 w hI hB hr1_1 hc1_1 hf1_1 hr1_2 hc1_2 h
  cases k with
  | zero => exact absurd h (by simp [trustquorumlaw02_mixed.f])
  | succ k =>
  simp only [trustquorumlaw02_mixed.f] at h
  have hu27 := Try.underlying27
  have HR1_1 := Aside0.mk hr1_1
  have HC1_1 := Aside0.mk hc1_1
  clear hr1_1 hc1_1
  have HR1_2 := Aside0.mk hr1_2
  have HC1_2 := Aside0.mk hc1_2
  clear hr1_2 hc1_2
  have HI0 := Aside0.mk hI
  have HK := Aside0.mk (KeepBut.refl w g none)
  have HL := Aside0.mk hB.size
  clear hI
  have HW0 := Aside0.mk hB.size
  have HB := Aside0.mk hB
  clear hB
  have H : ((trustquorummake_Tape_Order.f k s0_0 s0_1 (l1_1.length : Int)).bind fun bt259 => (trustquorumlaw02_mixed.l0 k bt259.1 (bt259.1.length : Int) 0 s0_0 bt259.2 a1_0 l1_1 l1_2 a1_0 ([] : List Int))) = some (r1, r2, r3, r4) := h
  clear h
  replace H := Option.bind_eq_some_iff.mp H
  obtain ⟨⟨t259, t262⟩, A30, H⟩ := H
  replace H : (trustquorumlaw02_mixed.l0 k t259 (t259.length : Int) 0 s0_0 t262 a1_0 l1_1 l1_2 a1_0 ([] : List Int)) = some (r1, r2, r3, r4) := H
  have A3 := Aside0.mk A30
  clear A30
  have H' := Aside0.mk H
  clear H
  go_enter Try.func16, Try.ntmps16
  go_wp2_with (first | ((with_reducible refine gate_dst (N := 3) rfl ?_); refine box_event ?hg (N := 3) ?hd (cs := #[.int .i64 a1_0, .slice A1_1 l1_1.length c1_1, .slice A1_2 l1_2.length c1_2]) (t := 27) ?hr ?_; (case hd => rfl); (case hg => rfl); (case hr => first | (go_simp; done) | (go_simp; rfl)); intro gb256 hg w4 hbox hb; have n0_ := Aside0.mk (IsS43.below (by repeat (first | (with_reducible first | exact HI0.out | apply IsS43.alloc | apply IsS43.drewN | apply IsS43.drew | apply IsS43.set_1) | exact HI0.out)) hb); have n1_ := Aside0.mk (KeepBut.trans (by repeat (first | (with_reducible first | exact HK.out | apply KeepBut.set_ | apply keep_drewN | apply keep_drew | apply keep_alloc) | exact HK.out)) (KeepBut.of_below hb g none) (.inl rfl)); have n2_ := Aside0.mk (below_step (by repeat (first | (with_reducible first | exact HB.out | apply below_alloc | apply pw_below_drewN | apply below_drew1 | refine below_set ?_ (IsS43.ge HI0.out)) | exact HB.out)) hb); have n3_ := Aside0.mk (hbox); have n4_ := Aside0.mk ((by rw [hg]; exact (keep_size (w := w) (g := g) (row := none) (by repeat (first | (with_reducible first | exact HK.out | apply KeepBut.set_ | apply keep_drewN | apply keep_drew | apply keep_alloc) | exact HK.out))) : w.heap.size ≤ gb256)); have n5_ := Aside0.mk ((Nat.le_trans HW0.out (by rw [hg]; exact (keep_size (w := w) (g := g) (row := none) (by repeat (first | (with_reducible first | exact HK.out | apply KeepBut.set_ | apply keep_drewN | apply keep_drew | apply keep_alloc) | exact HK.out))) : w.heap.size ≤ gb256) : w0.heap.size ≤ gb256)); have n6_ := Aside0.mk ((by rw [hg]; exact Nat.ne_of_lt (IsS43.lt (show IsS43 w0 _ g s0_0 s0_1 from by repeat (first | (with_reducible first | exact HI0.out | apply IsS43.alloc | apply IsS43.drewN | apply IsS43.drew | apply IsS43.set_1) | exact HI0.out))) : g ≠ gb256)); have n7_ := Aside0.mk ((by rw [hg]; exact Nat.ne_of_gt (IsS43.lt (show IsS43 w0 _ g s0_0 s0_1 from by repeat (first | (with_reducible first | exact HI0.out | apply IsS43.alloc | apply IsS43.drewN | apply IsS43.drew | apply IsS43.set_1) | exact HI0.out))) : gb256 ≠ g)); clear HI0; clear HK; clear HB; have HI0 := n0_; have HK := n1_; have HB := n2_; have BK256 := n3_; have GW256 := n4_; have GE256 := n5_; have NB0_256 := n6_; have NB256_0 := n7_; clear n0_ n1_ n2_ n3_ n4_ n5_ n6_ n7_; clear hb hbox hg) | ((with_reducible refine gate_dst (N := 4) rfl ?_); refine box_event ?hg (N := 4) ?hd (cs := #[.int .i64 0, .slice none 0 0, .slice none 0 0]) (t := 27) ?hr ?_; (case hd => rfl); (case hg => rfl); (case hr => first | (go_simp; done) | (go_simp; rfl)); intro gb257 hg w5 hbox hb; have n0_ := Aside0.mk (IsS43.below (by repeat (first | (with_reducible first | exact HI0.out | apply IsS43.alloc | apply IsS43.drewN | apply IsS43.drew | apply IsS43.set_1 | refine IsS43.far ?_ NB0_256.out _) | exact HI0.out)) hb); have n1_ := Aside0.mk (blk_below (g := gb256) (o := .cells #[.int .i64 a1_0, .slice A1_1 l1_1.length c1_1, .slice A1_2 l1_2.length c1_2] 27 (0, 0)) (by (with_reducible repeat (first | refine blk_drewN ?_ _ | refine blk_drew ?_ | refine blk_alloc ?_ _)); exact BK256.out) hb); have n2_ := Aside0.mk (KeepBut.trans (by repeat (first | (with_reducible first | exact HK.out | apply KeepBut.set_ | apply keep_drewN | apply keep_drew | apply keep_alloc | refine keep_far ?_ GW256.out _) | exact HK.out)) (KeepBut.of_below hb g none) (.inl rfl)); have n3_ := Aside0.mk (below_step (by repeat (first | (with_reducible first | exact HB.out | apply below_alloc | apply pw_below_drewN | apply below_drew1 | refine below_set ?_ (IsS43.ge HI0.out) | refine below_set ?_ GE256.out) | exact HB.out)) hb); have n4_ := Aside0.mk (hbox); have n5_ := Aside0.mk ((by rw [hg]; exact (keep_size (w := w) (g := g) (row := none) (by repeat (first | (with_reducible first | exact HK.out | apply KeepBut.set_ | apply keep_drewN | apply keep_drew | apply keep_alloc | refine keep_far ?_ GW256.out _) | exact HK.out))) : w.heap.size ≤ gb257)); have n6_ := Aside0.mk ((Nat.le_trans HW0.out (by rw [hg]; exact (keep_size (w := w) (g := g) (row := none) (by repeat (first | (with_reducible first | exact HK.out | apply KeepBut.set_ | apply keep_drewN | apply keep_drew | apply keep_alloc | refine keep_far ?_ GW256.out _) | exact HK.out))) : w.heap.size ≤ gb257) : w0.heap.size ≤ gb257)); have n7_ := Aside0.mk ((by rw [hg]; exact Nat.ne_of_lt (blk_lt (g := gb256) (o := .cells #[.int .i64 a1_0, .slice A1_1 l1_1.length c1_1, .slice A1_2 l1_2.length c1_2] 27 (0, 0)) (by (with_reducible repeat (first | refine blk_drewN ?_ _ | refine blk_drew ?_ | refine blk_alloc ?_ _)); exact BK256.out)) : gb256 ≠ gb257)); have n8_ := Aside0.mk ((by rw [hg]; exact Nat.ne_of_gt (blk_lt (g := gb256) (o := .cells #[.int .i64 a1_0, .slice A1_1 l1_1.length c1_1, .slice A1_2 l1_2.length c1_2] 27 (0, 0)) (by (with_reducible repeat (first | refine blk_drewN ?_ _ | refine blk_drew ?_ | refine blk_alloc ?_ _)); exact BK256.out)) : gb257 ≠ gb256)); have n9_ := Aside0.mk ((by rw [hg]; exact Nat.ne_of_lt (IsS43.lt (show IsS43 w0 _ g s0_0 s0_1 from by repeat (first | (with_reducible first | exact HI0.out | apply IsS43.alloc | apply IsS43.drewN | apply IsS43.drew | apply IsS43.set_1 | refine IsS43.far ?_ NB0_256.out _) | exact HI0.out))) : g ≠ gb257)); have n10_ := Aside0.mk ((by rw [hg]; exact Nat.ne_of_gt (IsS43.lt (show IsS43 w0 _ g s0_0 s0_1 from by repeat (first | (with_reducible first | exact HI0.out | apply IsS43.alloc | apply IsS43.drewN | apply IsS43.drew | apply IsS43.set_1 | refine IsS43.far ?_ NB0_256.out _) | exact HI0.out))) : gb257 ≠ g)); clear HI0; clear BK256; clear HK; clear HB; have HI0 := n0_; have BK256 := n1_; have HK := n2_; have HB := n3_; have BK257 := n4_; have GW257 := n5_; have GE257 := n6_; have NB256_257 := n7_; have NB257_256 := n8_; have NB0_257 := n9_; have NB257_0 := n10_; clear n0_ n1_ n2_ n3_ n4_ n5_ n6_ n7_ n8_ n9_ n10_; clear hb hbox hg; have hnb6 := NB256_257.out; have hnc6 := NB257_256.out; have hnb7 := NB256_0.out; have hnc7 := NB0_256.out; have hcz8_0 : w5.cell? ⟨gb256, 0, none⟩ = some (.int .i64 a1_0) := (blk_cell BK256.out 0).trans rfl; have hcz8_1 : w5.cell? ⟨gb256, 1, none⟩ = some (.slice A1_1 l1_1.length c1_1) := (blk_cell BK256.out 1).trans rfl; have hcz8_2 : w5.cell? ⟨gb256, 2, none⟩ = some (.slice A1_2 l1_2.length c1_2) := (blk_cell BK256.out 2).trans rfl; have hfz8_0 := blk_frozen BK256.out 0; have hfz8_1 := blk_frozen BK256.out 1; have hfz8_2 := blk_frozen BK256.out 2) | ((with_reducible refine gate_dst (N := 5) rfl ?_); refine box_event ?hg (N := 5) ?hd (cs := #[.int .i64 0, .slice none 0 0, .slice none 0 0]) (t := 27) ?hr ?_; (case hd => rfl); (case hg => rfl); (case hr => first | (go_simp; done) | (go_simp; rfl)); intro gb258 hg w9 hbox hb; have n0_ := Aside0.mk (IsS43.below (by repeat (first | (with_reducible first | exact HI0.out | apply IsS43.alloc | apply IsS43.drewN | apply IsS43.drew | apply IsS43.set_1 | refine IsS43.far ?_ NB0_256.out _ | refine IsS43.far ?_ NB0_257.out _) | exact HI0.out)) hb); have n1_ := Aside0.mk (blk_below (g := gb256) (o := .cells #[.int .i64 a1_0, .slice A1_1 l1_1.length c1_1, .slice A1_2 l1_2.length c1_2] 27 (0, 0)) (by (with_reducible repeat (first | refine blk_drewN ?_ _ | refine blk_drew ?_ | refine blk_alloc ?_ _)); exact BK256.out) hb); have n2_ := Aside0.mk (blk_below (g := gb257) (o := .cells #[.int .i64 0, .slice none 0 0, .slice none 0 0] 27 (0, 0)) (by (with_reducible repeat (first | refine blk_drewN ?_ _ | refine blk_drew ?_ | refine blk_alloc ?_ _)); exact BK257.out) hb); have n3_ := Aside0.mk (KeepBut.trans (by repeat (first | (with_reducible first | exact HK.out | apply KeepBut.set_ | apply keep_drewN | apply keep_drew | apply keep_alloc | refine keep_far ?_ GW256.out _ | refine keep_far ?_ GW257.out _) | exact HK.out)) (KeepBut.of_below hb g none) (.inl rfl)); have n4_ := Aside0.mk (below_step (by repeat (first | (with_reducible first | exact HB.out | apply below_alloc | apply pw_below_drewN | apply below_drew1 | refine below_set ?_ (IsS43.ge HI0.out) | refine below_set ?_ GE256.out | refine below_set ?_ GE257.out) | exact HB.out)) hb); have n5_ := Aside0.mk (hbox); have n6_ := Aside0.mk ((by rw [hg]; exact (keep_size (w := w) (g := g) (row := none) (by repeat (first | (with_reducible first | exact HK.out | apply KeepBut.set_ | apply keep_drewN | apply keep_drew | apply keep_alloc | refine keep_far ?_ GW256.out _ | refine keep_far ?_ GW257.out _) | exact HK.out))) : w.heap.size ≤ gb258)); have n7_ := Aside0.mk ((Nat.le_trans HW0.out (by rw [hg]; exact (keep_size (w := w) (g := g) (row := none) (by repeat (first | (with_reducible first | exact HK.out | apply KeepBut.set_ | apply keep_drewN | apply keep_drew | apply keep_alloc | refine keep_far ?_ GW256.out _ | refine keep_far ?_ GW257.out _) | exact HK.out))) : w.heap.size ≤ gb258) : w0.heap.size ≤ gb258)); have n8_ := Aside0.mk ((by rw [hg]; exact Nat.ne_of_lt (blk_lt (g := gb256) (o := .cells #[.int .i64 a1_0, .slice A1_1 l1_1.length c1_1, .slice A1_2 l1_2.length c1_2] 27 (0, 0)) (by (with_reducible repeat (first | refine blk_drewN ?_ _ | refine blk_drew ?_ | refine blk_alloc ?_ _)); exact BK256.out)) : gb256 ≠ gb258)); have n9_ := Aside0.mk ((by rw [hg]; exact Nat.ne_of_gt (blk_lt (g := gb256) (o := .cells #[.int .i64 a1_0, .slice A1_1 l1_1.length c1_1, .slice A1_2 l1_2.length c1_2] 27 (0, 0)) (by (with_reducible repeat (first | refine blk_drewN ?_ _ | refine blk_drew ?_ | refine blk_alloc ?_ _)); exact BK256.out)) : gb258 ≠ gb256)); have n10_ := Aside0.mk ((by rw [hg]; exact Nat.ne_of_lt (blk_lt (g := gb257) (o := .cells #[.int .i64 0, .slice none 0 0, .slice none 0 0] 27 (0, 0)) (by (with_reducible repeat (first | refine blk_drewN ?_ _ | refine blk_drew ?_ | refine blk_alloc ?_ _)); exact BK257.out)) : gb257 ≠ gb258)); have n11_ := Aside0.mk ((by rw [hg]; exact Nat.ne_of_gt (blk_lt (g := gb257) (o := .cells #[.int .i64 0, .slice none 0 0, .slice none 0 0] 27 (0, 0)) (by (with_reducible repeat (first | refine blk_drewN ?_ _ | refine blk_drew ?_ | refine blk_alloc ?_ _)); exact BK257.out)) : gb258 ≠ gb257)); have n12_ := Aside0.mk ((by rw [hg]; exact Nat.ne_of_lt (IsS43.lt (show IsS43 w0 _ g s0_0 s0_1 from by repeat (first | (with_reducible first | exact HI0.out | apply IsS43.alloc | apply IsS43.drewN | apply IsS43.drew | apply IsS43.set_1 | refine IsS43.far ?_ NB0_256.out _ | refine IsS43.far ?_ NB0_257.out _) | exact HI0.out))) : g ≠ gb258)); have n13_ := Aside0.mk ((by rw [hg]; exact Nat.ne_of_gt (IsS43.lt (show IsS43 w0 _ g s0_0 s0_1 from by repeat (first | (with_reducible first | exact HI0.out | apply IsS43.alloc | apply IsS43.drewN | apply IsS43.drew | apply IsS43.set_1 | refine IsS43.far ?_ NB0_256.out _ | refine IsS43.far ?_ NB0_257.out _) | exact HI0.out))) : gb258 ≠ g)); clear HI0; clear BK256; clear BK257; clear HK; clear HB; have HI0 := n0_; have BK256 := n1_; have BK257 := n2_; have HK := n3_; have HB := n4_; have BK258 := n5_; have GW258 := n6_; have GE258 := n7_; have NB256_258 := n8_; have NB258_256 := n9_; have NB257_258 := n10_; have NB258_257 := n11_; have NB0_258 := n12_; have NB258_0 := n13_; clear n0_ n1_ n2_ n3_ n4_ n5_ n6_ n7_ n8_ n9_ n10_ n11_ n12_ n13_; clear hb hbox hg; have hnb10 := NB258_256.out; have hnc10 := NB256_258.out; have hnb11 := NB258_257.out; have hnc11 := NB257_258.out; have hnb12 := NB258_0.out; have hnc12 := NB0_258.out; have hcz13_0 : w9.cell? ⟨gb258, 0, none⟩ = some (.int .i64 0) := (blk_cell BK258.out 0).trans rfl; have hcz13_1 : w9.cell? ⟨gb258, 1, none⟩ = some (.slice none 0 0) := (blk_cell BK258.out 1).trans rfl; have hcz13_2 : w9.cell? ⟨gb258, 2, none⟩ = some (.slice none 0 0) := (blk_cell BK258.out 2).trans rfl; have hfz13_0 := blk_frozen BK258.out 0; have hfz13_1 := blk_frozen BK258.out 1; have hfz13_2 := blk_frozen BK258.out 2; have hcz14_0 : w9.cell? ⟨gb256, 0, none⟩ = some (.int .i64 a1_0) := (blk_cell BK256.out 0).trans rfl; have hcz14_1 : w9.cell? ⟨gb256, 1, none⟩ = some (.slice A1_1 l1_1.length c1_1) := (blk_cell BK256.out 1).trans rfl; have hcz14_2 : w9.cell? ⟨gb256, 2, none⟩ = some (.slice A1_2 l1_2.length c1_2) := (blk_cell BK256.out 2).trans rfl; have hfz14_0 := blk_frozen BK256.out 0; have hfz14_1 := blk_frozen BK256.out 1; have hfz14_2 := blk_frozen BK256.out 2) | ((with_reducible refine gate_callee (f := 36) rfl ?_); refine goesL_ (some 17) rfl rfl Try.func36 (by kernel_rfl) rfl #[.pointer (some ⟨g, 0, none⟩), .int .i64 (l1_1.length : Int)] rfl (by (try simp only [List.map_toArray, List.map_cons, List.map_nil]); first | done | rfl | (simp only [List.length_drop, List.length_take]; rfl)) ?_; (with_reducible refine (trustquorummake_Tape_Order.calls k g s0_0 s0_1 (l1_1.length : Int) t259 t262 w0 _ ?side1 ?side2 A3.out).mono ?_); (case side1 => repeat (first | (with_reducible first | exact HI0.out | apply IsS43.alloc | apply IsS43.drewN | apply IsS43.drew | apply IsS43.set_1 | refine IsS43.far ?_ NB0_256.out _ | refine IsS43.far ?_ NB0_257.out _ | refine IsS43.far ?_ NB0_258.out _) | exact HI0.out)); (case side2 => repeat (first | (with_reducible first | exact HB.out | apply below_alloc | apply pw_below_drewN | apply below_drew1 | refine below_set ?_ (IsS43.ge HI0.out) | refine below_set ?_ GE256.out | refine below_set ?_ GE257.out | refine below_set ?_ GE258.out) | exact HB.out)); rintro e w15 ⟨v260, rfl, ho0, hi, hb, hk⟩; refine ⟨_, rfl, ?_⟩; have n0_ := Aside0.mk (KeepBut.blk hk (g' := gb256) (o := .cells #[.int .i64 a1_0, .slice A1_1 l1_1.length c1_1, .slice A1_2 l1_2.length c1_2] 27 (0, 0)) (by (with_reducible repeat (first | refine blk_drewN ?_ _ | refine blk_drew ?_ | refine blk_alloc ?_ _)); refine blk_far ?_ NB256_258.out _; (with_reducible repeat (first | refine blk_drewN ?_ _ | refine blk_drew ?_ | refine blk_alloc ?_ _)); refine blk_far ?_ NB256_258.out _; (with_reducible repeat (first | refine blk_drewN ?_ _ | refine blk_drew ?_ | refine blk_alloc ?_ _)); refine blk_far ?_ NB256_258.out _; (with_reducible repeat (first | refine blk_drewN ?_ _ | refine blk_drew ?_ | refine blk_alloc ?_ _)); exact BK256.out) NB256_0.out (by simp)); have n1_ := Aside0.mk (KeepBut.blk hk (g' := gb257) (o := .cells #[.int .i64 0, .slice none 0 0, .slice none 0 0] 27 (0, 0)) (by (with_reducible repeat (first | refine blk_drewN ?_ _ | refine blk_drew ?_ | refine blk_alloc ?_ _)); refine blk_far ?_ NB257_258.out _; (with_reducible repeat (first | refine blk_drewN ?_ _ | refine blk_drew ?_ | refine blk_alloc ?_ _)); refine blk_far ?_ NB257_258.out _; (with_reducible repeat (first | refine blk_drewN ?_ _ | refine blk_drew ?_ | refine blk_alloc ?_ _)); refine blk_far ?_ NB257_258.out _; (with_reducible repeat (first | refine blk_drewN ?_ _ | refine blk_drew ?_ | refine blk_alloc ?_ _)); exact BK257.out) NB257_0.out (by simp)); have n2_ := Aside0.mk (KeepBut.blk hk (g' := gb258) (o := .cells #[.int .i64 a1_0, .slice none 0 0, .slice none 0 0] 27 (0, 0)) (by (with_reducible repeat (first | refine blk_drewN ?_ _ | refine blk_drew ?_ | refine blk_alloc ?_ _)); refine blk_put (cs := #[.int .i64 a1_0, .slice none 0 0, .slice none 0 0]) ?_ 2 _ rfl; (with_reducible repeat (first | refine blk_drewN ?_ _ | refine blk_drew ?_ | refine blk_alloc ?_ _)); refine blk_put (cs := #[.int .i64 a1_0, .slice none 0 0, .slice none 0 0]) ?_ 1 _ rfl; (with_reducible repeat (first | refine blk_drewN ?_ _ | refine blk_drew ?_ | refine blk_alloc ?_ _)); refine blk_put (cs := #[.int .i64 0, .slice none 0 0, .slice none 0 0]) ?_ 0 _ rfl; (with_reducible repeat (first | refine blk_drewN ?_ _ | refine blk_drew ?_ | refine blk_alloc ?_ _)); exact BK258.out) NB258_0.out (by simp)); have n3_ := Aside0.mk (Kd.R_lower ho0 (keep_size (w := w) (g := g) (row := none) (by repeat (first | (with_reducible first | exact HK.out | apply KeepBut.set_ | apply keep_drewN | apply keep_drew | apply keep_alloc | refine keep_far ?_ GW256.out _ | refine keep_far ?_ GW257.out _ | refine keep_far ?_ GW258.out _) | exact HK.out)))); have n4_ := Aside0.mk (KeepBut.trans (by repeat (first | (with_reducible first | exact HK.out | apply KeepBut.set_ | apply keep_drewN | apply keep_drew | apply keep_alloc | refine keep_far ?_ GW256.out _ | refine keep_far ?_ GW257.out _ | refine keep_far ?_ GW258.out _) | exact HK.out)) hk (.inl rfl)); have n5_ := Aside0.mk (hb); have n6_ := Aside0.mk (hi); clear BK256; clear BK257; clear BK258; clear HK; clear HB; clear HI0; have BK256 := n0_; have BK257 := n1_; have BK258 := n2_; have HO261 := n3_; have HK := n4_; have HB := n5_; have HI0 := n6_; clear n0_ n1_ n2_ n3_ n4_ n5_ n6_; (try clear hb); (try clear hb2); (try clear hk); (try clear hi); (try clear ho0); obtain ⟨Ao16, co16, eo16⟩ := Kd.R_slice HO261.out; subst eo16))
  go_loopg [19] k (fun kq v19 w' => ∃ (x19_1 : Int) (x259001_1 : List Int) (u259001 : Value), v19 = .int .i64 x19_1 ∧ Aside0 (trustquorumlaw02_mixed.l0 kq t259 (t259.length : Int) x19_1 s0_0 t262 a1_0 l1_1 l1_2 a1_0 x259001_1 = some (r1, r2, r3, r4)) ∧ Aside0 (kq ≤ k) ∧ Aside0 (Kd.R (Kd.int .i64) 3 w' w.heap.size (fun k_ => some k_ ≠ (u259001 : Value).ownBlock) (.slice Ao16 t259.length co16) t259) ∧ Aside0 (Kd.R (Kd.int .i64) 3 w' w.heap.size (fun k_ => some k_ ≠ ((.slice Ao16 t259.length co16) : Value).ownBlock) u259001 x259001_1) ∧ Aside0 (w'.heap[gb256]? = some (.cells #[.int .i64 a1_0, (.slice A1_1 l1_1.length c1_1), (.slice A1_2 l1_2.length c1_2)] 27 (0, 0))) ∧ Aside0 (w'.heap[gb257]? = some (.cells #[.int .i64 0, (.slice none 0 0), (.slice none 0 0)] 27 (0, 0))) ∧ Aside0 (w'.heap[gb258]? = some (.cells #[.int .i64 a1_0, u259001, (.slice none 0 0)] 27 (0, 0))) ∧ Aside0 (IsS43 w0 w' g s0_0 t262) ∧ Aside0 (KeepBut w w' g none) ∧ Aside0 (Below w0.heap.size w0 w'))
  case atStart => exact ⟨(0), (([] : List Int)), (.slice none 0 0), (by first | rfl | (simp; done) | (simp [*]; done) | (refine congrArg (Value.int .i64) ?_; unfold wrap64; omega)), H', ⟨Nat.le_refl _⟩, ⟨by (with_reducible repeat (first | apply Kd.R_alloc | apply Kd.R_drewN | apply Kd.R_drew)); exact Kd.R_mono HO261.out (fun _ hk => (by simp [Value.ownBlock]))⟩, ⟨by first | exact Kd.R_nil _ _ _ _ _ | exact Kd.N_nil _ _ _ _ _ | exact Kd.V_nil _ _ _ _ _ | exact Kd.Q_nil _ _ _ _ _ | exact Kd.S_nil _ _ _ _ _⟩, ⟨by (with_reducible repeat (first | refine blk_drewN ?_ _ | refine blk_drew ?_ | refine blk_alloc ?_ _)); exact BK256.out⟩, ⟨by (with_reducible repeat (first | refine blk_drewN ?_ _ | refine blk_drew ?_ | refine blk_alloc ?_ _)); exact BK257.out⟩, ⟨by (with_reducible repeat (first | refine blk_drewN ?_ _ | refine blk_drew ?_ | refine blk_alloc ?_ _)); exact BK258.out⟩, ⟨by repeat (first | (with_reducible first | exact HI0.out | apply IsS43.alloc | apply IsS43.drewN | apply IsS43.drew | apply IsS43.set_1 | refine IsS43.far ?_ NB0_256.out _ | refine IsS43.far ?_ NB0_257.out _ | refine IsS43.far ?_ NB0_258.out _) | exact HI0.out)⟩, ⟨by repeat (first | (with_reducible first | exact HK.out | apply KeepBut.set_ | apply keep_drewN | apply keep_drew | apply keep_alloc | refine keep_far ?_ GW256.out _ | refine keep_far ?_ GW257.out _ | refine keep_far ?_ GW258.out _) | exact HK.out)⟩, ⟨by repeat (first | (with_reducible first | exact HB.out | apply below_alloc | apply pw_below_drewN | apply below_drew1 | refine below_set ?_ (IsS43.ge HI0.out) | refine below_set ?_ GE256.out | refine below_set ?_ GE257.out | refine below_set ?_ GE258.out) | exact HB.out)⟩⟩
  case round =>
    clear H'
    try clear c1
    try clear p2
    try clear c3
    try clear c6
    try clear p6
    try clear c7
    try clear c10
    try clear c11
    try clear c12
    try clear c16
    try clear hcz13_0
    try clear hcz13_1
    try clear hcz13_2
    try clear hcz14_0
    try clear hcz14_1
    try clear hcz14_2
    try clear hcz8_0
    try clear hcz8_1
    try clear hcz8_2
    try clear hfz13_0
    try clear hfz13_1
    try clear hfz13_2
    try clear hfz14_0
    try clear hfz14_1
    try clear hfz14_2
    try clear hfz8_0
    try clear hfz8_1
    try clear hfz8_2
    obtain ⟨x19_1, x259001_1, u259001, rfl, HA, HK1, HO_17, HO_259001, BK256, BK257, BK258, HI0, HK, HB⟩ := hrel
    cases gk with
    | zero => exact absurd HA.out (by simp [trustquorumlaw02_mixed.l0])
    | succ k1 =>
      have H := HA.out
      clear HA
      simp only [trustquorumlaw02_mixed.l0] at H
      by_cases c17 : x19_1 < (t259.length : Int)
      · rw [if_pos c17] at H
        have c17b0 : decide (x19_1 < (t259.length : Int)) = true := decide_eq_true c17
        clear c17
        by_cases c18 : 0 ≤ x19_1
        · rw [if_pos c18] at H
          have c18b0 : decide (0 ≤ x19_1) = true := decide_eq_true c18
          clear c18
          by_cases c19 : x19_1 < (t259.length : Int)
          · rw [if_pos c19] at H
            have c19b0 : decide (x19_1 < (t259.length : Int)) = true := decide_eq_true c19
            clear c19
            by_cases c20 : 0 ≤ (rd t259 x19_1)
            · rw [if_pos c20] at H
              have c20b0 : decide (0 ≤ (rd t259 x19_1)) = true := decide_eq_true c20
              clear c20
              by_cases c21 : (rd t259 x19_1) < (l1_1.length : Int)
              · rw [if_pos c21] at H
                have c21b0 : decide ((rd t259 x19_1) < (l1_1.length : Int)) = true := decide_eq_true c21
                clear c21
                by_cases c22 : x259001_1.length < 17592186044416
                · rw [if_pos c22] at H
                  have LMc22 := Aside0.mk c22
                  clear c22
                  obtain ⟨y265, hy265⟩ : ∃ y_ : List Int, y_ = (x259001_1 ++ [rd l1_1 (rd t259 x19_1)]) := ⟨_, rfl⟩
                  replace H : (trustquorumlaw02_mixed.l0 k1 t259 (t259.length : Int) (wrap64 (x19_1 + 1)) s0_0 t262 a1_0 l1_1 l1_2 a1_0 y265) = some (r1, r2, r3, r4) := by first | (rw [hy265]; with_reducible exact H) | (have H2_ := (Option.bind_some _ _).symm.trans H; rw [hy265]; with_reducible exact H2_) | (have H2_ := (Option.bind_some _ _).symm.trans H; with_reducible exact H2_) | with_reducible exact H | (rw [hy265]; exact H) | exact H
                  have Ny265 := Aside0.mk hy265
                  clear hy265
                  have H' := Aside0.mk H
                  clear H
                  have p263 : 0 ≤ (x19_1 : Int) := of_decide_eq_true (by first | (with_reducible assumption) | assumption)
                  have q263 : x19_1 < (t259.length : Int) := of_decide_eq_true (by first | (with_reducible assumption) | assumption)
                  obtain ⟨ad263, e263, hx263_0⟩ := Kd.at_int (Kd.R_reads' HO_17.out).2.2 x19_1 p263 q263
                  cases e263
                  replace p263 := eq_true p263
                  replace q263 := eq_true q263
                  try go_wp2
                  have n0_ := Aside0.mk (Kd.R_drew HO_17.out)
                  have n1_ := Aside0.mk (Kd.R_drew HO_259001.out)
                  have n2_ := Aside0.mk (blk_drew BK256.out)
                  have n3_ := Aside0.mk (blk_drew BK257.out)
                  have n4_ := Aside0.mk (blk_drew BK258.out)
                  have n5_ := Aside0.mk (IsS43.drew HI0.out)
                  have n6_ := Aside0.mk (keep_drew HK.out)
                  have n7_ := Aside0.mk (below_drew1 HB.out)
                  clear HO_17
                  clear HO_259001
                  clear BK256
                  clear BK257
                  clear BK258
                  clear HI0
                  clear HK
                  clear HB
                  have HO_17 := n0_
                  have HO_259001 := n1_
                  have BK256 := n2_
                  have BK257 := n3_
                  have BK258 := n4_
                  have HI0 := n5_
                  have HK := n6_
                  have HB := n7_
                  clear n0_ n1_ n2_ n3_ n4_ n5_ n6_ n7_
                  have p264 : 0 ≤ ((rd t259 x19_1) : Int) := of_decide_eq_true (by first | (with_reducible assumption) | assumption)
                  have q264 : (rd t259 x19_1) < (l1_1.length : Int) := of_decide_eq_true (by first | (with_reducible assumption) | assumption)
                  obtain ⟨ad264, e264, hx264_0⟩ := Kd.at_int HR1_1.out (rd t259 x19_1) p264 q264
                  have hw264_0 := hx264_0
                  cases e264
                  have hne264_0 := (show ((ad264.add ((rd t259 x19_1)).toNat) : Addr).block ≠ g from by first | (rw [add_block]; exact hf1_1 ad264 rfl (by omega)) | (show (Addr.add _ _).block ≠ _; rw [add_block]; exact hf1_1 ad264 rfl (by omega)) | exact hf1_1 ad264 rfl (by omega))
                  replace hx264_0 := keep_cell HK.out hx264_0 (by first | (rw [add_block]; exact hf1_1 _ rfl (by omega)) | exact hf1_1 _ rfl (by omega) | exact hf1_1 ad264 rfl (by omega))
                  replace p264 := eq_true p264
                  replace q264 := eq_true q264
                  refine start_ (n := 11) (S := fun w' => w'.cell? ⟨gb258, 0, none⟩ = some (.int .i64 a1_0) ∧ w'.cell? ⟨gb258, 1, none⟩ = some (u259001) ∧ w'.cell? ⟨gb258, 2, none⟩ = some (.slice none 0 0) ∧ w'.cell? ⟨gb256, 0, none⟩ = some (.int .i64 a1_0) ∧ w'.cell? ⟨gb256, 1, none⟩ = some (.slice (some ad264) l1_1.length c1_1) ∧ w'.cell? ⟨gb256, 2, none⟩ = some (.slice A1_2 l1_2.length c1_2) ∧ w'.cell? (ad264.add ((rd t259 x19_1)).toNat) = some (.int .i64 (rd l1_1 (rd t259 x19_1)))) (ds := [10]) #[false, false, false, false, false, false, false, false, false, false, false] (by kernel_rfl) rfl rfl ⟨(blk_cell BK258.out 0).trans rfl, (blk_cell BK258.out 1).trans rfl, (blk_cell BK258.out 2).trans rfl, (blk_cell BK256.out 0).trans rfl, (blk_cell BK256.out 1).trans rfl, (blk_cell BK256.out 2).trans rfl, (keep_cell HK.out hw264_0 hne264_0)⟩ (fun hHeld => ?_); refine with_tabW trustquorumlaw02_mixed.tab5 trustquorumlaw02_mixed.bits5 (fun HT_ HW_ => ?_)
                  generalize wr.drew = w23 at HO_17 HO_259001 BK256 BK257 BK258 HI0 HK HB hf1_1 hx264_0 hHeld ⊢
                  refine pure_ (i := 0) (N := some 23) (v := ?_) (a' := ?_) #[true, false, false, false, false, false, false, false, false, false, false] rfl rfl (any_of HT_.out (by kernel_rfl)) (fun _ _ _ h => h) (Or.inl ⟨by rfl, ?_⟩) ?_ ?_
                  rotate_left
                  · intro w'
                    go_simp
                    with_reducible rfl
                  rotate_left
                  · simp only [Act.put, List.setIfInBounds_toArray, List.set_cons_zero, List.set_cons_succ, i64_w, i32_w]
                    rfl
                  refine pure_ (i := 2) (N := some 25) (v := ?_) (a' := ?_) #[true, false, true, false, false, false, false, false, false, false, false] rfl rfl (any_of HT_.out (by kernel_rfl)) (fun _ _ _ h => h) (Or.inl ⟨by rfl, ?_⟩) ?_ ?_
                  rotate_left
                  · intro w'
                    go_simp
                    with_reducible rfl
                  rotate_left
                  · simp only [Act.put, List.setIfInBounds_toArray, List.set_cons_zero, List.set_cons_succ, i64_w, i32_w]
                    rfl
                  refine pure_ (i := 4) (N := some 27) (v := ?_) (a' := ?_) #[true, false, true, false, true, false, false, false, false, false, false] rfl rfl (any_of HT_.out (by kernel_rfl)) (fun _ _ _ h => h) (Or.inl ⟨by rfl, ?_⟩) ?_ ?_
                  rotate_left
                  · intro w'
                    go_simp
                    with_reducible rfl
                  rotate_left
                  · simp only [Act.put, List.setIfInBounds_toArray, List.set_cons_zero, List.set_cons_succ, i64_w, i32_w]
                    rfl
                  refine take_ (i := 1) (N := some 24) (v := ?_) (a' := ?_) #[true, true, true, false, true, false, false, false, false, false, false] rfl rfl (take_ofW HT_.out HW_.out (by kernel_rfl)) (fun _ _ _ h => h) (Or.inl ⟨by rfl, ?_⟩) hHeld ?_ ?_
                  rotate_left
                  · rintro w' ⟨s0, s1, s2, s3, s4, s5, s6⟩
                    go_simp
                    with_reducible rfl
                  rotate_left
                  · simp only [Act.put, List.setIfInBounds_toArray, List.set_cons_zero, List.set_cons_succ, i64_w, i32_w]
                    rfl
                  refine take_ (i := 3) (N := some 26) (v := ?_) (a' := ?_) #[true, true, true, true, true, false, false, false, false, false, false] rfl rfl (take_ofW HT_.out HW_.out (by kernel_rfl)) (fun _ _ _ h => h) (Or.inl ⟨by rfl, ?_⟩) hHeld ?_ ?_
                  rotate_left
                  · rintro w' ⟨s0, s1, s2, s3, s4, s5, s6⟩
                    go_simp
                    with_reducible rfl
                  rotate_left
                  · simp only [Act.put, List.setIfInBounds_toArray, List.set_cons_zero, List.set_cons_succ, i64_w, i32_w]
                    rfl
                  refine pure_ (i := 5) (N := some 28) (v := ?_) (a' := ?_) #[true, true, true, true, true, true, false, false, false, false, false] rfl rfl (any_of HT_.out (by kernel_rfl)) (fun _ _ _ h => h) (Or.inl ⟨by rfl, ?_⟩) ?_ ?_
                  rotate_left
                  · intro w'
                    go_simp
                    with_reducible rfl
                  rotate_left
                  · simp only [Act.put, List.setIfInBounds_toArray, List.set_cons_zero, List.set_cons_succ, i64_w, i32_w]
                    rfl
                  refine take_ (i := 6) (N := some 29) (v := ?_) (a' := ?_) #[true, true, true, true, true, true, true, false, false, false, false] rfl rfl (take_ofW HT_.out HW_.out (by kernel_rfl)) (fun _ _ _ h => h) (Or.inl ⟨by rfl, ?_⟩) hHeld ?_ ?_
                  rotate_left
                  · rintro w' ⟨s0, s1, s2, s3, s4, s5, s6⟩
                    go_simp
                    with_reducible rfl
                  rotate_left
                  · simp only [Act.put, List.setIfInBounds_toArray, List.set_cons_zero, List.set_cons_succ, i64_w, i32_w]
                    rfl
                  refine one_ (i := 7) (N := some 30) #[true, true, true, true, true, true, true, true, false, false, false] rfl rfl (one_of HT_.out (by kernel_rfl)) (by decide) (fun K hK => ?_)
                  refine value_ (w1 := ?_) (v := ?_) (by rfl) rfl ?_ ?_
                  rotate_left 2
                  · go_simp
                    constructor
                    · rfl
                    · rfl
                  refine hK.out _ _ ⟨(blk_cell (blk_alloc BK258.out _) 0).trans rfl, (blk_cell (blk_alloc BK258.out _) 1).trans rfl, (blk_cell (blk_alloc BK258.out _) 2).trans rfl, (blk_cell (blk_alloc BK256.out _) 0).trans rfl, (blk_cell (blk_alloc BK256.out _) 1).trans rfl, (blk_cell (blk_alloc BK256.out _) 2).trans rfl, (World.cell?_alloc_lt _ _ _ (World.block_lt_of_cell? _ _ ((keep_cell HK.out hw264_0 hne264_0)))).trans ((keep_cell HK.out hw264_0 hne264_0))⟩ (fun hHeld => ?_)
                  clear hK K
                  refine norm_ (a' := ?_) ?_ ?_
                  rotate_left
                  · show Act.put _ (some 30) _ = _
                    simp only [Act.put, List.setIfInBounds_toArray, List.set_cons_zero, List.set_cons_succ, i64_w, i32_w]
                    rfl
                  refine one_ (i := 8) (N := some 31) #[true, true, true, true, true, true, true, true, true, false, false] rfl rfl (one_of HT_.out (by kernel_rfl)) (by decide) (fun K hK => ?_)
                  refine Kd.R_append_step (Kd.int .i64) w.heap.size (by rfl) (.tmp 24) (.tmp 30) 22 3 (.int .i64 0) 8 rfl Try.underlying22 info3 rfl (by decide) (by omega) u259001 x259001_1 (rd l1_1 (rd t259 x19_1)) [.int .i64 (rd l1_1 (rd t259 x19_1))] (fun k_ => some k_ ≠ (.slice (some ad263) t259.length co16 : Value).ownBlock) (fun _ => False) rfl rfl ?aP (fun _ hk => hk.elim) ?aF ?aO (Below.refl _ _) ?aS ?aL ?_
                  (case aP => exact rfl)
                  (case aF => exact (fun k_ hk => Kd.fresh' (Kd.R_lt (by (with_reducible repeat (first | apply Kd.R_alloc | apply Kd.R_drewN | apply Kd.R_drew)); exact HO_17.out)) k_ hk))
                  (case aO => exact (by (with_reducible repeat (first | apply Kd.R_alloc | apply Kd.R_drewN | apply Kd.R_drew)); exact HO_259001.out))
                  (case aS => exact (keep_size (w := w) (g := g) (row := none) (by repeat (first | (with_reducible first | exact HK.out | apply KeepBut.set_ | apply keep_drewN | apply keep_drew | apply keep_alloc | refine keep_far ?_ GW256.out _ | refine keep_far ?_ GW257.out _ | refine keep_far ?_ GW258.out _) | exact HK.out))))
                  (case aL => have := LMc22.out; omega)
                  intro v266 w24 ho hb hg hat
                  rw [← Ny265.out] at ho
                  have n0_ := Aside0.mk (Kd.R_after (ok := (fun _ => True)) (by (with_reducible repeat (first | apply Kd.R_alloc | apply Kd.R_drewN | apply Kd.R_drew)); exact Kd.R_mono HO_17.out (fun _ hk => ⟨trivial, hk⟩)) hg hat)
                  have n1_ := Aside0.mk (blk_grown (g := gb256) (o := .cells #[.int .i64 a1_0, .slice (some ad264) l1_1.length c1_1, .slice A1_2 l1_2.length c1_2] 27 (0, 0)) (by (with_reducible repeat (first | refine blk_drewN ?_ _ | refine blk_drew ?_ | refine blk_alloc ?_ _)); exact BK256.out) hg (Kd.R_ne HO_259001.out BK256.out (by decide)))
                  have n2_ := Aside0.mk (blk_grown (g := gb257) (o := .cells #[.int .i64 0, .slice none 0 0, .slice none 0 0] 27 (0, 0)) (by (with_reducible repeat (first | refine blk_drewN ?_ _ | refine blk_drew ?_ | refine blk_alloc ?_ _)); exact BK257.out) hg (Kd.R_ne HO_259001.out BK257.out (by decide)))
                  have n3_ := Aside0.mk (blk_grown (g := gb258) (o := .cells #[.int .i64 a1_0, u259001, .slice none 0 0] 27 (0, 0)) (by (with_reducible repeat (first | refine blk_drewN ?_ _ | refine blk_drew ?_ | refine blk_alloc ?_ _)); exact BK258.out) hg (Kd.R_ne HO_259001.out BK258.out (by decide)))
                  have n4_ := Aside0.mk (IsS43.grown (by repeat (first | (with_reducible first | exact HI0.out | apply IsS43.alloc | apply IsS43.drewN | apply IsS43.drew | apply IsS43.set_1 | refine IsS43.far ?_ NB0_256.out _ | refine IsS43.far ?_ NB0_257.out _ | refine IsS43.far ?_ NB0_258.out _) | exact HI0.out)) hg (IsS43.own_ne HI0.out HO_259001.out (by decide)))
                  have n5_ := Aside0.mk (below_weaken (by repeat (first | (with_reducible first | exact HB.out | apply below_alloc | apply pw_below_drewN | apply below_drew1 | refine below_set ?_ (IsS43.ge HI0.out) | refine below_set ?_ GE256.out | refine below_set ?_ GE257.out | refine below_set ?_ GE258.out) | exact HB.out)) HL.out hb)
                  have n6_ := Aside0.mk (KeepBut.trans (by repeat (first | (with_reducible first | exact HK.out | apply KeepBut.set_ | apply keep_drewN | apply keep_drew | apply keep_alloc | refine keep_far ?_ GW256.out _ | refine keep_far ?_ GW257.out _ | refine keep_far ?_ GW258.out _) | exact HK.out)) (KeepBut.of_grown hg g) (Kd.R_base2 HO_259001.out))
                  have n7_ := Aside0.mk (ho)
                  clear HO_17
                  clear BK256
                  clear BK257
                  clear BK258
                  clear HI0
                  clear HB
                  clear HK
                  clear HO_259001
                  have HO_17 := n0_
                  have BK256 := n1_
                  have BK257 := n2_
                  have BK258 := n3_
                  have HI0 := n4_
                  have HB := n5_
                  have HK := n6_
                  have HO267 := n7_
                  clear n0_ n1_ n2_ n3_ n4_ n5_ n6_ n7_
                  clear ho hb hg hat
                  obtain ⟨Ao25, co25, eo25⟩ := Kd.R_slice HO267.out
                  (first | subst eo25 | (injection eo25 with f1_ f2_ f3_; have f4_ := f1_.symm; have f5_ := f3_.symm; clear f1_ f2_ f3_; subst f4_; subst f5_))
                  refine hK.out _ _ ⟨(blk_cell BK258.out 0).trans rfl, (blk_cell BK258.out 1).trans rfl, (blk_cell BK258.out 2).trans rfl, (blk_cell BK256.out 0).trans rfl, (blk_cell BK256.out 1).trans rfl, (blk_cell BK256.out 2).trans rfl, (keep_cell HK.out hw264_0 hne264_0)⟩ (fun hHeld => ?_)
                  clear hK K
                  refine norm_ (a' := ?_) ?_ ?_
                  rotate_left
                  · show Act.put _ (some 31) _ = _
                    simp only [Act.put, List.setIfInBounds_toArray, List.set_cons_zero, List.set_cons_succ, i64_w, i32_w]
                    rfl
                  refine pure_ (i := 9) (N := some 32) (v := ?_) (a' := ?_) #[true, true, true, true, true, true, true, true, true, true, false] rfl rfl (any_of HT_.out (by kernel_rfl)) (fun _ _ _ h => h) (Or.inl ⟨by rfl, ?_⟩) ?_ ?_
                  rotate_left
                  · intro w'
                    go_simp
                    with_reducible rfl
                  rotate_left
                  · simp only [Act.put, List.setIfInBounds_toArray, List.set_cons_zero, List.set_cons_succ, i64_w, i32_w]
                    rfl
                  refine last_ (i := 10) (N := none) #[true, true, true, true, true, true, true, true, true, true, true] rfl rfl (one_of HT_.out (by kernel_rfl)) (by decide) (fun K hK => ?_)
                  have hs26 : w24.cell? ⟨gb258, 1, none⟩ = some (u259001) := (blk_cell BK258.out 1).trans rfl
                  have hfs26 := blk_frozen BK258.out 1
                  have hns26_0 := NB256_258.out
                  have hns26_1 := NB257_258.out
                  have hms26_0 := NB258_256.out
                  have hms26_1 := NB258_257.out
                  refine skip_ (w1 := ?_) (by rfl) rfl ?_ ?_
                  rotate_left
                  · go_simp
                    rfl
                  refine hK.out _ _ ?_
                  clear hK K
                  refine done_ (done_of HT_.out (by kernel_rfl)) ?_
                  try go_wp2
                  go_roundg k1
                  case measure => have := HK1.out; omega
                  case rel => exact ⟨(wrap64 (x19_1 + 1)), (y265), (.slice Ao25 y265.length co25), (by first | rfl | (simp; done) | (simp [*]; done) | (refine congrArg (Value.int .i64) ?_; unfold wrap64; omega)), H', ⟨by have := HK1.out; omega⟩, ⟨by (with_reducible repeat (first | apply Kd.R_alloc | apply Kd.R_drewN | apply Kd.R_drew)); exact Kd.R_mono (Kd.R_far (p := ⟨gb258, 1, none⟩) (Kd.R_types HO_17.out BK258.out (by decide)) (fun _ hk => hk.2) (.slice Ao25 y265.length co25)) (fun _ hk => hk.1.2)⟩, ⟨by (with_reducible repeat (first | apply Kd.R_alloc | apply Kd.R_drewN | apply Kd.R_drew)); exact Kd.R_mono (Kd.R_far (p := ⟨gb258, 1, none⟩) (Kd.R_types HO267.out BK258.out (by decide)) (fun _ hk => hk.2) (.slice Ao25 y265.length co25)) (fun _ hk => hk.1)⟩, ⟨by (with_reducible repeat (first | refine blk_drewN ?_ _ | refine blk_drew ?_ | refine blk_alloc ?_ _)); refine blk_far ?_ NB256_258.out _; (with_reducible repeat (first | refine blk_drewN ?_ _ | refine blk_drew ?_ | refine blk_alloc ?_ _)); exact BK256.out⟩, ⟨by (with_reducible repeat (first | refine blk_drewN ?_ _ | refine blk_drew ?_ | refine blk_alloc ?_ _)); refine blk_far ?_ NB257_258.out _; (with_reducible repeat (first | refine blk_drewN ?_ _ | refine blk_drew ?_ | refine blk_alloc ?_ _)); exact BK257.out⟩, ⟨by (with_reducible repeat (first | refine blk_drewN ?_ _ | refine blk_drew ?_ | refine blk_alloc ?_ _)); refine blk_put (cs := #[.int .i64 a1_0, u259001, .slice none 0 0]) ?_ 1 _ rfl; (with_reducible repeat (first | refine blk_drewN ?_ _ | refine blk_drew ?_ | refine blk_alloc ?_ _)); exact BK258.out⟩, ⟨by repeat (first | (with_reducible first | exact HI0.out | apply IsS43.alloc | apply IsS43.drewN | apply IsS43.drew | apply IsS43.set_1 | refine IsS43.far ?_ NB0_256.out _ | refine IsS43.far ?_ NB0_257.out _ | refine IsS43.far ?_ NB0_258.out _) | exact HI0.out)⟩, ⟨by repeat (first | (with_reducible first | exact HK.out | apply KeepBut.set_ | apply keep_drewN | apply keep_drew | apply keep_alloc | refine keep_far ?_ GW256.out _ | refine keep_far ?_ GW257.out _ | refine keep_far ?_ GW258.out _) | exact HK.out)⟩, ⟨by repeat (first | (with_reducible first | exact HB.out | apply below_alloc | apply pw_below_drewN | apply below_drew1 | refine below_set ?_ (IsS43.ge HI0.out) | refine below_set ?_ GE256.out | refine below_set ?_ GE257.out | refine below_set ?_ GE258.out) | exact HB.out)⟩⟩
                · rw [if_neg c22] at H
                  exact absurd H (by simp)
              · rw [if_neg c21] at H
                exact absurd H (by simp)
            · rw [if_neg c20] at H
              exact absurd H (by simp)
          · rw [if_neg c19] at H
            exact absurd H (by simp)
        · rw [if_neg c18] at H
          exact absurd H (by simp)
      · rw [if_neg c17] at H
        have c17b0 : decide (x19_1 < (t259.length : Int)) = false := decide_eq_false c17
        clear c17
        replace H := Option.bind_eq_some_iff.mp H
        obtain ⟨⟨t268, t271⟩, A270, H⟩ := H
        replace H : (trustquorumlaw02_mixed.l1 k1 t268 (t268.length : Int) 0 s0_0 t271 a1_0 l1_1 l1_2 a1_0 x259001_1 ([] : List (S27))) = some (r1, r2, r3, r4) := H
        have A27 := Aside0.mk A270
        clear A270
        have H' := Aside0.mk H
        clear H
        have hnb28 := NB256_257.out
        have hnc28 := NB257_256.out
        have hnb29 := NB256_258.out
        have hnc29 := NB258_256.out
        have hnb30 := NB256_0.out
        have hnc30 := NB0_256.out
        have hcz31_0 : wr.cell? ⟨gb256, 0, none⟩ = some (.int .i64 a1_0) := (blk_cell BK256.out 0).trans rfl
        have hcz31_1 : wr.cell? ⟨gb256, 1, none⟩ = some (.slice A1_1 l1_1.length c1_1) := (blk_cell BK256.out 1).trans rfl
        have hcz31_2 : wr.cell? ⟨gb256, 2, none⟩ = some (.slice A1_2 l1_2.length c1_2) := (blk_cell BK256.out 2).trans rfl
        have hfz31_0 := blk_frozen BK256.out 0
        have hfz31_1 := blk_frozen BK256.out 1
        have hfz31_2 := blk_frozen BK256.out 2
        go_wp2_with (first | ((with_reducible refine gate_callee (f := 36) rfl ?_); refine goesL_ (some 38) rfl rfl Try.func36 (by kernel_rfl) rfl #[.pointer (some ⟨g, 0, none⟩), .int .i64 (l1_2.length : Int)] rfl (by (try simp only [List.map_toArray, List.map_cons, List.map_nil]); first | done | rfl | (simp only [List.length_drop, List.length_take]; rfl)) ?_; (with_reducible refine (trustquorummake_Tape_Order.calls k1 g s0_0 t262 (l1_2.length : Int) t268 t271 w0 _ ?side1 ?side2 A27.out).mono ?_); (case side1 => repeat (first | (with_reducible first | exact HI0.out | apply IsS43.alloc | apply IsS43.drewN | apply IsS43.drew | apply IsS43.set_1 | refine IsS43.far ?_ NB0_256.out _ | refine IsS43.far ?_ NB0_257.out _ | refine IsS43.far ?_ NB0_258.out _) | exact HI0.out)); (case side2 => repeat (first | (with_reducible first | exact HB.out | apply below_alloc | apply pw_below_drewN | apply below_drew1 | refine below_set ?_ (IsS43.ge HI0.out) | refine below_set ?_ GE256.out | refine below_set ?_ GE257.out | refine below_set ?_ GE258.out) | exact HB.out)); rintro e w32 ⟨v269, rfl, ho0, hi, hb, hk⟩; refine ⟨_, rfl, ?_⟩; have n0_ := Aside0.mk (Kd.R_mono (Kd.R_told (Kd.R_oldK (IsS43.apart (show IsS43 w0 _ g s0_0 t262 from by repeat (first | (with_reducible first | exact HI0.out | apply IsS43.alloc | apply IsS43.drewN | apply IsS43.drew | apply IsS43.set_1 | refine IsS43.far ?_ NB0_256.out _ | refine IsS43.far ?_ NB0_257.out _ | refine IsS43.far ?_ NB0_258.out _) | exact HI0.out)) (by (with_reducible repeat (first | apply Kd.R_alloc | apply Kd.R_drewN | apply Kd.R_drew)); exact HO_17.out) (by decide)) hk) (Kd.R_base ho0)) (fun _ h_ => h_.1)); have n1_ := Aside0.mk (Kd.R_mono (Kd.R_told (Kd.R_oldK (IsS43.apart (show IsS43 w0 _ g s0_0 t262 from by repeat (first | (with_reducible first | exact HI0.out | apply IsS43.alloc | apply IsS43.drewN | apply IsS43.drew | apply IsS43.set_1 | refine IsS43.far ?_ NB0_256.out _ | refine IsS43.far ?_ NB0_257.out _ | refine IsS43.far ?_ NB0_258.out _) | exact HI0.out)) (by (with_reducible repeat (first | apply Kd.R_alloc | apply Kd.R_drewN | apply Kd.R_drew)); exact HO_259001.out) (by decide)) hk) (Kd.R_base ho0)) (fun _ h_ => h_.1)); have n2_ := Aside0.mk (KeepBut.blk hk (g' := gb256) (o := .cells #[.int .i64 a1_0, .slice A1_1 l1_1.length c1_1, .slice A1_2 l1_2.length c1_2] 27 (0, 0)) (by (with_reducible repeat (first | refine blk_drewN ?_ _ | refine blk_drew ?_ | refine blk_alloc ?_ _)); exact BK256.out) NB256_0.out (by simp)); have n3_ := Aside0.mk (KeepBut.blk hk (g' := gb257) (o := .cells #[.int .i64 0, .slice none 0 0, .slice none 0 0] 27 (0, 0)) (by (with_reducible repeat (first | refine blk_drewN ?_ _ | refine blk_drew ?_ | refine blk_alloc ?_ _)); exact BK257.out) NB257_0.out (by simp)); have n4_ := Aside0.mk (KeepBut.blk hk (g' := gb258) (o := .cells #[.int .i64 a1_0, u259001, .slice none 0 0] 27 (0, 0)) (by (with_reducible repeat (first | refine blk_drewN ?_ _ | refine blk_drew ?_ | refine blk_alloc ?_ _)); exact BK258.out) NB258_0.out (by simp)); have n5_ := Aside0.mk (Kd.R_lower (Kd.R_new' (Kd.R_new' ho0 (Kd.R_lt (by (with_reducible repeat (first | apply Kd.R_alloc | apply Kd.R_drewN | apply Kd.R_drew)); exact HO_17.out))) (Kd.R_lt (by (with_reducible repeat (first | apply Kd.R_alloc | apply Kd.R_drewN | apply Kd.R_drew)); exact HO_259001.out))) (keep_size (w := w) (g := g) (row := none) (by repeat (first | (with_reducible first | exact HK.out | apply KeepBut.set_ | apply keep_drewN | apply keep_drew | apply keep_alloc | refine keep_far ?_ GW256.out _ | refine keep_far ?_ GW257.out _ | refine keep_far ?_ GW258.out _) | exact HK.out)))); have n6_ := Aside0.mk (KeepBut.trans (by repeat (first | (with_reducible first | exact HK.out | apply KeepBut.set_ | apply keep_drewN | apply keep_drew | apply keep_alloc | refine keep_far ?_ GW256.out _ | refine keep_far ?_ GW257.out _ | refine keep_far ?_ GW258.out _) | exact HK.out)) hk (.inl rfl)); have n7_ := Aside0.mk (hb); have n8_ := Aside0.mk (hi); clear HO_17; clear HO_259001; clear BK256; clear BK257; clear BK258; clear HK; clear HB; clear HI0; have HO_17 := n0_; have HO_259001 := n1_; have BK256 := n2_; have BK257 := n3_; have BK258 := n4_; have HO270 := n5_; have HK := n6_; have HB := n7_; have HI0 := n8_; clear n0_ n1_ n2_ n3_ n4_ n5_ n6_ n7_ n8_; (try clear hb); (try clear hb2); (try clear hk); (try clear hi); (try clear ho0); obtain ⟨Ao33, co33, eo33⟩ := Kd.R_slice HO270.out; subst eo33))
        go_loopg [40] k1 (fun kq v40 w' => ∃ (x40_2 : Int) (x1001_2 : Int) (x259002_2 : List (S27)) (u259002 : Value), v40 = .int .i64 x40_2 ∧ Aside0 (trustquorumlaw02_mixed.l1 kq t268 (t268.length : Int) x40_2 s0_0 x1001_2 a1_0 l1_1 l1_2 a1_0 x259001_1 x259002_2 = some (r1, r2, r3, r4)) ∧ Aside0 (kq ≤ k1) ∧ Aside0 (Kd.R (Kd.int .i64) 3 w' w.heap.size (fun k_ => some k_ ≠ (u259001 : Value).ownBlock) (.slice Ao33 t268.length co33) t268) ∧ Aside0 (Kd.R (Kd.int .i64) 3 w' w.heap.size (fun k_ => some k_ ≠ ((.slice Ao33 t268.length co33) : Value).ownBlock) u259001 x259001_1) ∧ Aside0 (Kd.R k27 27 w' w.heap.size (fun k_ => some k_ ≠ ((.slice Ao33 t268.length co33) : Value).ownBlock ∧ some k_ ≠ (u259001 : Value).ownBlock ∧ k_ ≠ gb256 ∧ k_ ≠ gb257 ∧ k_ ≠ gb258) u259002 x259002_2) ∧ Aside0 (w'.heap[gb256]? = some (.cells #[.int .i64 a1_0, (.slice A1_1 l1_1.length c1_1), (.slice A1_2 l1_2.length c1_2)] 27 (0, 0))) ∧ Aside0 (w'.heap[gb257]? = some (.cells #[.int .i64 0, (.slice none 0 0), (.slice none 0 0)] 27 (0, 0))) ∧ Aside0 (w'.heap[gb258]? = some (.cells #[.int .i64 a1_0, u259001, u259002] 27 (0, 0))) ∧ Aside0 (IsS43 w0 w' g s0_0 x1001_2) ∧ Aside0 (KeepBut w w' g none) ∧ Aside0 (Below w0.heap.size w0 w'))
        case atStart => exact ⟨(0), (t271), (([] : List (S27))), (.slice none 0 0), (by first | rfl | (simp; done) | (simp [*]; done) | (refine congrArg (Value.int .i64) ?_; unfold wrap64; omega)), H', ⟨Nat.le_refl _⟩, ⟨by (with_reducible repeat (first | apply Kd.R_alloc | apply Kd.R_drewN | apply Kd.R_drew)); exact Kd.R_mono HO270.out (fun _ hk => hk.2)⟩, ⟨by (with_reducible repeat (first | apply Kd.R_alloc | apply Kd.R_drewN | apply Kd.R_drew)); exact Kd.R_mono HO_259001.out (fun _ hk => hk.2)⟩, ⟨by first | exact Kd.R_nil _ _ _ _ _ | exact Kd.N_nil _ _ _ _ _ | exact Kd.V_nil _ _ _ _ _ | exact Kd.Q_nil _ _ _ _ _ | exact Kd.S_nil _ _ _ _ _⟩, ⟨by (with_reducible repeat (first | refine blk_drewN ?_ _ | refine blk_drew ?_ | refine blk_alloc ?_ _)); exact BK256.out⟩, ⟨by (with_reducible repeat (first | refine blk_drewN ?_ _ | refine blk_drew ?_ | refine blk_alloc ?_ _)); exact BK257.out⟩, ⟨by (with_reducible repeat (first | refine blk_drewN ?_ _ | refine blk_drew ?_ | refine blk_alloc ?_ _)); exact BK258.out⟩, ⟨by repeat (first | (with_reducible first | exact HI0.out | apply IsS43.alloc | apply IsS43.drewN | apply IsS43.drew | apply IsS43.set_1 | refine IsS43.far ?_ NB0_256.out _ | refine IsS43.far ?_ NB0_257.out _ | refine IsS43.far ?_ NB0_258.out _) | exact HI0.out)⟩, ⟨by repeat (first | (with_reducible first | exact HK.out | apply KeepBut.set_ | apply keep_drewN | apply keep_drew | apply keep_alloc | refine keep_far ?_ GW256.out _ | refine keep_far ?_ GW257.out _ | refine keep_far ?_ GW258.out _) | exact HK.out)⟩, ⟨by repeat (first | (with_reducible first | exact HB.out | apply below_alloc | apply pw_below_drewN | apply below_drew1 | refine below_set ?_ (IsS43.ge HI0.out) | refine below_set ?_ GE256.out | refine below_set ?_ GE257.out | refine below_set ?_ GE258.out) | exact HB.out)⟩⟩
        case round =>
          clear H'
          try clear c1
          try clear c2
          try clear p2
          try clear q2
          try clear hx2
          try clear c3
          try clear c6
          try clear p6
          try clear c7
          try clear c10
          try clear c11
          try clear c12
          try clear c16
          try clear c17
          try clear c17b0
          try clear c18
          try clear c18b0
          try clear c19
          try clear c19b0
          try clear c20
          try clear c20b0
          try clear c21
          try clear c21b0
          try clear c22
          try clear p26
          try clear q26
          try clear hx26
          try clear c28
          try clear c29
          try clear c30
          try clear hcz13_0
          try clear hcz13_1
          try clear hcz13_2
          try clear hcz14_0
          try clear hcz14_1
          try clear hcz14_2
          try clear hcz31_0
          try clear hcz31_1
          try clear hcz31_2
          try clear hcz8_0
          try clear hcz8_1
          try clear hcz8_2
          try clear hfz13_0
          try clear hfz13_1
          try clear hfz13_2
          try clear hfz14_0
          try clear hfz14_1
          try clear hfz14_2
          try clear hfz31_0
          try clear hfz31_1
          try clear hfz31_2
          try clear hfz8_0
          try clear hfz8_1
          try clear hfz8_2
          try clear hx263_0
          try clear hx264_0
          try clear p2
          try clear p263
          try clear p264
          try clear p6
          try clear q263
          try clear q264
          obtain ⟨x40_2, x1001_2, x259002_2, u259002, rfl, HA, HK2, HO_38, HO_259001, HO_259002, BK256, BK257, BK258, HI0, HK, HB⟩ := hrel
          cases gk with
          | zero => exact absurd HA.out (by simp [trustquorumlaw02_mixed.l1])
          | succ k2 =>
            have H := HA.out
            clear HA
            simp only [trustquorumlaw02_mixed.l1] at H
            by_cases c34 : x40_2 < (t268.length : Int)
            · rw [if_pos c34] at H
              have c34b0 : decide (x40_2 < (t268.length : Int)) = true := decide_eq_true c34
              clear c34
              by_cases c35 : 0 ≤ x40_2
              · rw [if_pos c35] at H
                have c35b0 : decide (0 ≤ x40_2) = true := decide_eq_true c35
                clear c35
                by_cases c36 : x40_2 < (t268.length : Int)
                · rw [if_pos c36] at H
                  have c36b0 : decide (x40_2 < (t268.length : Int)) = true := decide_eq_true c36
                  clear c36
                  by_cases c37 : 0 ≤ (rd t268 x40_2)
                  · rw [if_pos c37] at H
                    have c37b0 : decide (0 ≤ (rd t268 x40_2)) = true := decide_eq_true c37
                    clear c37
                    by_cases c38 : (rd t268 x40_2) < (l1_2.length : Int)
                    · rw [if_pos c38] at H
                      have c38b0 : decide ((rd t268 x40_2) < (l1_2.length : Int)) = true := decide_eq_true c38
                      clear c38
                      replace H := Option.bind_eq_some_iff.mp H
                      obtain ⟨⟨t274, t275, t278, t281⟩, A390, H⟩ := H
                      replace H : (if x259002_2.length < 2513169434916 then (trustquorumlaw02_mixed.l1 k2 t268 (t268.length : Int) (wrap64 (x40_2 + 1)) s0_0 t281 a1_0 l1_1 l1_2 a1_0 x259001_1 (x259002_2 ++ [(⟨t274, t275, t278⟩ : S27)])) else (none)) = some (r1, r2, r3, r4) := H
                      have A39 := Aside0.mk A390
                      clear A390
                      by_cases c40 : x259002_2.length < 2513169434916
                      · rw [if_pos c40] at H
                        have LMc40 := Aside0.mk c40
                        clear c40
                        obtain ⟨y282, hy282⟩ : ∃ y_ : List (S27), y_ = (x259002_2 ++ [(⟨t274, t275, t278⟩ : S27)]) := ⟨_, rfl⟩
                        replace H : (trustquorumlaw02_mixed.l1 k2 t268 (t268.length : Int) (wrap64 (x40_2 + 1)) s0_0 t281 a1_0 l1_1 l1_2 a1_0 x259001_1 y282) = some (r1, r2, r3, r4) := by first | (rw [hy282]; with_reducible exact H) | (have H2_ := (Option.bind_some _ _).symm.trans H; rw [hy282]; with_reducible exact H2_) | (have H2_ := (Option.bind_some _ _).symm.trans H; with_reducible exact H2_) | with_reducible exact H | (rw [hy282]; exact H) | exact H
                        have Ny282 := Aside0.mk hy282
                        clear hy282
                        have H' := Aside0.mk H
                        clear H
                        have p272 : 0 ≤ (x40_2 : Int) := of_decide_eq_true (by first | (with_reducible assumption) | assumption)
                        have q272 : x40_2 < (t268.length : Int) := of_decide_eq_true (by first | (with_reducible assumption) | assumption)
                        obtain ⟨ad272, e272, hx272_0⟩ := Kd.at_int (Kd.R_reads' HO_38.out).2.2 x40_2 p272 q272
                        cases e272
                        replace p272 := eq_true p272
                        replace q272 := eq_true q272
                        try go_wp2
                        have n0_ := Aside0.mk (Kd.R_drew HO_38.out)
                        have n1_ := Aside0.mk (Kd.R_drew HO_259001.out)
                        have n2_ := Aside0.mk (Kd.R_drew HO_259002.out)
                        have n3_ := Aside0.mk (blk_drew BK256.out)
                        have n4_ := Aside0.mk (blk_drew BK257.out)
                        have n5_ := Aside0.mk (blk_drew BK258.out)
                        have n6_ := Aside0.mk (IsS43.drew HI0.out)
                        have n7_ := Aside0.mk (keep_drew HK.out)
                        have n8_ := Aside0.mk (below_drew1 HB.out)
                        clear HO_38
                        clear HO_259001
                        clear HO_259002
                        clear BK256
                        clear BK257
                        clear BK258
                        clear HI0
                        clear HK
                        clear HB
                        have HO_38 := n0_
                        have HO_259001 := n1_
                        have HO_259002 := n2_
                        have BK256 := n3_
                        have BK257 := n4_
                        have BK258 := n5_
                        have HI0 := n6_
                        have HK := n7_
                        have HB := n8_
                        clear n0_ n1_ n2_ n3_ n4_ n5_ n6_ n7_ n8_
                        have p273 : 0 ≤ ((rd t268 x40_2) : Int) := of_decide_eq_true (by first | (with_reducible assumption) | assumption)
                        have q273 : (rd t268 x40_2) < (l1_2.length : Int) := of_decide_eq_true (by first | (with_reducible assumption) | assumption)
                        obtain ⟨ad273, A273_1, c273_1, A273_2, c273_2, e273, hx273_0, hx273_1, hx273_2, hl273_1, hi273_1, hl273_2, hi273_2⟩ := atF_T27 HR1_2.out HK.out (rd t268 x40_2) p273 q273
                        have hw273_2 := hx273_2
                        have hw273_1 := hx273_1
                        have hw273_0 := hx273_0
                        cases e273
                        have hne273_2 := (show (⟨(ad273.add (((rd t268 x40_2)).toNat * 3)).block, (ad273.add (((rd t268 x40_2)).toNat * 3)).off + 2, none⟩ : Addr).block ≠ g from by first | (rw [add_block]; exact Kd.foot_ne HR1_2.out (by omega) (by decide)) | (show (Addr.add _ _).block ≠ _; rw [add_block]; exact Kd.foot_ne HR1_2.out (by omega) (by decide)) | exact Kd.foot_ne HR1_2.out (by omega) (by decide) | (dsimp only; exact Kd.foot_ne HR1_2.out (by omega) (by decide)))
                        have hlt273_2 := (Kd.foot_lt HR1_2.out (by omega) (by decide))
                        have hne273_1 := (show (⟨(ad273.add (((rd t268 x40_2)).toNat * 3)).block, (ad273.add (((rd t268 x40_2)).toNat * 3)).off + 1, none⟩ : Addr).block ≠ g from by first | (rw [add_block]; exact Kd.foot_ne HR1_2.out (by omega) (by decide)) | (show (Addr.add _ _).block ≠ _; rw [add_block]; exact Kd.foot_ne HR1_2.out (by omega) (by decide)) | exact Kd.foot_ne HR1_2.out (by omega) (by decide) | (dsimp only; exact Kd.foot_ne HR1_2.out (by omega) (by decide)))
                        have hlt273_1 := (Kd.foot_lt HR1_2.out (by omega) (by decide))
                        have hne273_0 := (show ((ad273.add (((rd t268 x40_2)).toNat * 3)) : Addr).block ≠ g from by first | (rw [add_block]; exact Kd.foot_ne HR1_2.out (by omega) (by decide)) | (show (Addr.add _ _).block ≠ _; rw [add_block]; exact Kd.foot_ne HR1_2.out (by omega) (by decide)) | exact Kd.foot_ne HR1_2.out (by omega) (by decide) | (dsimp only; exact Kd.foot_ne HR1_2.out (by omega) (by decide)))
                        have hlt273_0 := (Kd.foot_lt HR1_2.out (by omega) (by decide))
                        have HR273_1 := Aside0.mk hi273_1
                        have HC273_1 := Aside0.mk hl273_1
                        clear hi273_1 hl273_1
                        have HR273_2 := Aside0.mk hi273_2
                        have HC273_2 := Aside0.mk hl273_2
                        clear hi273_2 hl273_2
                        replace p273 := eq_true p273
                        replace q273 := eq_true q273
                        refine start_ (n := 13) (S := fun w' => w'.cell? ⟨gb258, 0, none⟩ = some (.int .i64 a1_0) ∧ w'.cell? ⟨gb258, 1, none⟩ = some (u259001) ∧ w'.cell? ⟨gb258, 2, none⟩ = some (u259002) ∧ w'.cell? ⟨gb256, 0, none⟩ = some (.int .i64 a1_0) ∧ w'.cell? ⟨gb256, 1, none⟩ = some (.slice A1_1 l1_1.length c1_1) ∧ w'.cell? ⟨gb256, 2, none⟩ = some (.slice (some ad273) l1_2.length c1_2) ∧ w'.cell? (ad273.add (((rd t268 x40_2)).toNat * 3)) = some (.int .i64 ((rd_T27 l1_2 (rd t268 x40_2)).f0)) ∧ w'.cell? ⟨(ad273.add (((rd t268 x40_2)).toNat * 3)).block, (ad273.add (((rd t268 x40_2)).toNat * 3)).off + 1, none⟩ = some (.slice A273_1 ((rd_T27 l1_2 (rd t268 x40_2)).f1).length c273_1) ∧ w'.cell? ⟨(ad273.add (((rd t268 x40_2)).toNat * 3)).block, (ad273.add (((rd t268 x40_2)).toNat * 3)).off + 2, none⟩ = some (.slice A273_2 ((rd_T27 l1_2 (rd t268 x40_2)).f2).length c273_2)) (ds := [10, 12]) #[false, false, false, false, false, false, false, false, false, false, false, false, false] (by kernel_rfl) rfl rfl ⟨(blk_cell BK258.out 0).trans rfl, (blk_cell BK258.out 1).trans rfl, (blk_cell BK258.out 2).trans rfl, (blk_cell BK256.out 0).trans rfl, (blk_cell BK256.out 1).trans rfl, (blk_cell BK256.out 2).trans rfl, hx273_0, hx273_1, hx273_2⟩ (fun hHeld => ?_); refine with_tabW trustquorumlaw02_mixed.tab10 trustquorumlaw02_mixed.bits10 (fun HT_ HW_ => ?_)
                        generalize wr.drew = w41 at HO_38 HO_259001 HO_259002 BK256 BK257 BK258 HI0 HK HB HR273_1 HR273_2 hx273_0 hx273_1 hx273_2 hHeld ⊢
                        refine pure_ (i := 0) (N := some 44) (v := ?_) (a' := ?_) #[true, false, false, false, false, false, false, false, false, false, false, false, false] rfl rfl (any_of HT_.out (by kernel_rfl)) (fun _ _ _ h => h) (Or.inl ⟨by rfl, ?_⟩) ?_ ?_
                        rotate_left
                        · intro w'
                          go_simp
                          with_reducible rfl
                        rotate_left
                        · simp only [Act.put, List.setIfInBounds_toArray, List.set_cons_zero, List.set_cons_succ, i64_w, i32_w]
                          rfl
                        refine pure_ (i := 2) (N := some 46) (v := ?_) (a' := ?_) #[true, false, true, false, false, false, false, false, false, false, false, false, false] rfl rfl (any_of HT_.out (by kernel_rfl)) (fun _ _ _ h => h) (Or.inl ⟨by rfl, ?_⟩) ?_ ?_
                        rotate_left
                        · intro w'
                          go_simp
                          with_reducible rfl
                        rotate_left
                        · simp only [Act.put, List.setIfInBounds_toArray, List.set_cons_zero, List.set_cons_succ, i64_w, i32_w]
                          rfl
                        refine pure_ (i := 3) (N := some 47) (v := ?_) (a' := ?_) #[true, false, true, true, false, false, false, false, false, false, false, false, false] rfl rfl (any_of HT_.out (by kernel_rfl)) (fun _ _ _ h => h) (Or.inl ⟨by rfl, ?_⟩) ?_ ?_
                        rotate_left
                        · intro w'
                          go_simp
                          with_reducible rfl
                        rotate_left
                        · simp only [Act.put, List.setIfInBounds_toArray, List.set_cons_zero, List.set_cons_succ, i64_w, i32_w]
                          rfl
                        refine pure_ (i := 5) (N := some 49) (v := ?_) (a' := ?_) #[true, false, true, true, false, true, false, false, false, false, false, false, false] rfl rfl (any_of HT_.out (by kernel_rfl)) (fun _ _ _ h => h) (Or.inl ⟨by rfl, ?_⟩) ?_ ?_
                        rotate_left
                        · intro w'
                          go_simp
                          with_reducible rfl
                        rotate_left
                        · simp only [Act.put, List.setIfInBounds_toArray, List.set_cons_zero, List.set_cons_succ, i64_w, i32_w]
                          rfl
                        refine take_ (i := 1) (N := some 45) (v := ?_) (a' := ?_) #[true, true, true, true, false, true, false, false, false, false, false, false, false] rfl rfl (take_ofW HT_.out HW_.out (by kernel_rfl)) (fun _ _ _ h => h) (Or.inl ⟨by rfl, ?_⟩) hHeld ?_ ?_
                        rotate_left
                        · rintro w' ⟨s0, s1, s2, s3, s4, s5, s6, s7, s8⟩
                          go_simp
                          with_reducible rfl
                        rotate_left
                        · simp only [Act.put, List.setIfInBounds_toArray, List.set_cons_zero, List.set_cons_succ, i64_w, i32_w]
                          rfl
                        refine take_ (i := 4) (N := some 48) (v := ?_) (a' := ?_) #[true, true, true, true, true, true, false, false, false, false, false, false, false] rfl rfl (take_ofW HT_.out HW_.out (by kernel_rfl)) (fun _ _ _ h => h) (Or.inl ⟨by rfl, ?_⟩) hHeld ?_ ?_
                        rotate_left
                        · rintro w' ⟨s0, s1, s2, s3, s4, s5, s6, s7, s8⟩
                          go_simp
                          with_reducible rfl
                        rotate_left
                        · simp only [Act.put, List.setIfInBounds_toArray, List.set_cons_zero, List.set_cons_succ, i64_w, i32_w]
                          rfl
                        refine pure_ (i := 6) (N := some 50) (v := ?_) (a' := ?_) #[true, true, true, true, true, true, true, false, false, false, false, false, false] rfl rfl (any_of HT_.out (by kernel_rfl)) (fun _ _ _ h => h) (Or.inl ⟨by rfl, ?_⟩) ?_ ?_
                        rotate_left
                        · intro w'
                          go_simp
                          with_reducible rfl
                        rotate_left
                        · simp only [Act.put, List.setIfInBounds_toArray, List.set_cons_zero, List.set_cons_succ, i64_w, i32_w]
                          rfl
                        refine take_ (i := 7) (N := some 51) (v := ?_) (a' := ?_) #[true, true, true, true, true, true, true, true, false, false, false, false, false] rfl rfl (take_ofW HT_.out HW_.out (by kernel_rfl)) (fun _ _ _ h => h) (Or.inl ⟨by rfl, ?_⟩) hHeld ?_ ?_
                        rotate_left
                        · rintro w' ⟨s0, s1, s2, s3, s4, s5, s6, s7, s8⟩
                          go_simp
                          with_reducible rfl
                        rotate_left
                        · simp only [Act.put, List.setIfInBounds_toArray, List.set_cons_zero, List.set_cons_succ, i64_w, i32_w]
                          rfl
                        refine one_ (i := 8) (N := some 52) #[true, true, true, true, true, true, true, true, true, false, false, false, false] rfl rfl (one_of HT_.out (by kernel_rfl)) (by decide) (fun K hK => ?_)
                        refine goes_ Try.func16 (by kernel_rfl) rfl #[.pointer (some ⟨g, 0, none⟩), .agg #[.int .i64 ((rd_T27 l1_2 (rd t268 x40_2)).f0), .slice A273_1 ((rd_T27 l1_2 (rd t268 x40_2)).f1).length c273_1, .slice A273_2 ((rd_T27 l1_2 (rd t268 x40_2)).f2).length c273_2]] (by rfl) rfl rfl (by (try simp only [List.map_toArray, List.map_cons, List.map_nil]); first | done | rfl | (simp only [List.length_drop, List.length_take]; rfl)) ?_
                        with_reducible refine (ih k2 (by have := HK1.out; have := HK2.out; omega) g s0_0 x1001_2 ((rd_T27 l1_2 (rd t268 x40_2)).f0) _ _ ((rd_T27 l1_2 (rd t268 x40_2)).f1) _ _ ((rd_T27 l1_2 (rd t268 x40_2)).f2) t274 t275 t278 t281 w0 _ ?side1 ?side2 ?side3 ?side4 ?side5 ?side6 ?side7 A39.out).mono ?_
                        (case side1 => repeat (first | (with_reducible first | exact HI0.out | apply IsS43.alloc | apply IsS43.drewN | apply IsS43.drew | apply IsS43.set_1 | refine IsS43.far ?_ NB0_256.out _ | refine IsS43.far ?_ NB0_257.out _ | refine IsS43.far ?_ NB0_258.out _) | exact HI0.out))
                        (case side2 => repeat (first | (with_reducible first | exact HB.out | apply below_alloc | apply pw_below_drewN | apply below_drew1 | refine below_set ?_ (IsS43.ge HI0.out) | refine below_set ?_ GE256.out | refine below_set ?_ GE257.out | refine below_set ?_ GE258.out) | exact HB.out))
                        (case side3 => exact Kd.C_foot_now HR273_1.out (by repeat (first | (with_reducible first | exact HK.out | apply KeepBut.set_ | apply keep_drewN | apply keep_drew | apply keep_alloc | refine keep_far ?_ GW256.out _ | refine keep_far ?_ GW257.out _ | refine keep_far ?_ GW258.out _) | exact HK.out)))
                        (case side4 => exact HC273_1.out)
                        (case side5 => exact fun ad_ he_ hn_ => Kd.foot_ne (ad := ad_) (by rw [← he_]; exact HR273_1.out) hn_ (by decide))
                        (case side6 => exact Kd.C_foot_step HR273_2.out (by repeat (first | (with_reducible first | exact HK.out | apply KeepBut.set_ | apply keep_drewN | apply keep_drew | apply keep_alloc | refine keep_far ?_ GW256.out _ | refine keep_far ?_ GW257.out _ | refine keep_far ?_ GW258.out _) | exact HK.out)))
                        (case side7 => exact HC273_2.out)
                        rintro e w42 ⟨v276, v279, rfl, ho0, ho1, hi, hb, hk⟩
                        have HS6_ := keep_cell hk (hHeld.2.2.2.2.2.2.1) (by first | (rw [add_block]; exact hne273_0) | (show (Addr.add _ _).block ≠ _; rw [add_block]; exact hne273_0) | exact hne273_0)
                        have HS7_ := keep_cell hk (hHeld.2.2.2.2.2.2.2.1) (by first | (rw [add_block]; exact hne273_1) | (show (Addr.add _ _).block ≠ _; rw [add_block]; exact hne273_1) | exact hne273_1)
                        have HS8_ := keep_cell hk (hHeld.2.2.2.2.2.2.2.2) (by first | (rw [add_block]; exact hne273_2) | (show (Addr.add _ _).block ≠ _; rw [add_block]; exact hne273_2) | exact hne273_2)
                        refine ⟨_, rfl, ?_⟩
                        have n0_ := Aside0.mk (Kd.R_mono (Kd.R_told (Kd.R_oldK (IsS43.apart (show IsS43 w0 _ g s0_0 x1001_2 from by repeat (first | (with_reducible first | exact HI0.out | apply IsS43.alloc | apply IsS43.drewN | apply IsS43.drew | apply IsS43.set_1 | refine IsS43.far ?_ NB0_256.out _ | refine IsS43.far ?_ NB0_257.out _ | refine IsS43.far ?_ NB0_258.out _) | exact HI0.out)) (by (with_reducible repeat (first | apply Kd.R_alloc | apply Kd.R_drewN | apply Kd.R_drew)); exact HO_38.out) (by decide)) hk) (Kd.R_base ho0)) (fun _ h_ => h_.1))
                        have n1_ := Aside0.mk (Kd.R_mono (Kd.R_told (Kd.R_oldK (IsS43.apart (show IsS43 w0 _ g s0_0 x1001_2 from by repeat (first | (with_reducible first | exact HI0.out | apply IsS43.alloc | apply IsS43.drewN | apply IsS43.drew | apply IsS43.set_1 | refine IsS43.far ?_ NB0_256.out _ | refine IsS43.far ?_ NB0_257.out _ | refine IsS43.far ?_ NB0_258.out _) | exact HI0.out)) (by (with_reducible repeat (first | apply Kd.R_alloc | apply Kd.R_drewN | apply Kd.R_drew)); exact HO_259001.out) (by decide)) hk) (Kd.R_base ho0)) (fun _ h_ => h_.1))
                        have n2_ := Aside0.mk (Kd.R_mono (Kd.R_told (Kd.R_told (Kd.R_oldK (IsS43.apart (show IsS43 w0 _ g s0_0 x1001_2 from by repeat (first | (with_reducible first | exact HI0.out | apply IsS43.alloc | apply IsS43.drewN | apply IsS43.drew | apply IsS43.set_1 | refine IsS43.far ?_ NB0_256.out _ | refine IsS43.far ?_ NB0_257.out _ | refine IsS43.far ?_ NB0_258.out _) | exact HI0.out)) (by (with_reducible repeat (first | apply Kd.R_alloc | apply Kd.R_drewN | apply Kd.R_drew)); exact HO_259002.out) (by decide)) hk) (Kd.R_base ho0)) (Kd.R_base ho1)) (fun _ h_ => h_.1))
                        have n3_ := Aside0.mk (KeepBut.blk hk (g' := gb256) (o := .cells #[.int .i64 a1_0, .slice A1_1 l1_1.length c1_1, .slice (some ad273) l1_2.length c1_2] 27 (0, 0)) (by (with_reducible repeat (first | refine blk_drewN ?_ _ | refine blk_drew ?_ | refine blk_alloc ?_ _)); exact BK256.out) NB256_0.out (by simp))
                        have n4_ := Aside0.mk (KeepBut.blk hk (g' := gb257) (o := .cells #[.int .i64 0, .slice none 0 0, .slice none 0 0] 27 (0, 0)) (by (with_reducible repeat (first | refine blk_drewN ?_ _ | refine blk_drew ?_ | refine blk_alloc ?_ _)); exact BK257.out) NB257_0.out (by simp))
                        have n5_ := Aside0.mk (KeepBut.blk hk (g' := gb258) (o := .cells #[.int .i64 a1_0, u259001, u259002] 27 (0, 0)) (by (with_reducible repeat (first | refine blk_drewN ?_ _ | refine blk_drew ?_ | refine blk_alloc ?_ _)); exact BK258.out) NB258_0.out (by simp))
                        have n6_ := Aside0.mk (Kd.R_lower (Kd.R_new' (Kd.R_new' ho0 (Kd.R_lt (by (with_reducible repeat (first | apply Kd.R_alloc | apply Kd.R_drewN | apply Kd.R_drew)); exact HO_38.out))) (Kd.R_lt (by (with_reducible repeat (first | apply Kd.R_alloc | apply Kd.R_drewN | apply Kd.R_drew)); exact HO_259001.out))) (keep_size (w := w) (g := g) (row := none) (by repeat (first | (with_reducible first | exact HK.out | apply KeepBut.set_ | apply keep_drewN | apply keep_drew | apply keep_alloc | refine keep_far ?_ GW256.out _ | refine keep_far ?_ GW257.out _ | refine keep_far ?_ GW258.out _) | exact HK.out))))
                        have n7_ := Aside0.mk (Kd.R_lower (Kd.R_newB (Kd.R_newB (Kd.R_newB (Kd.R_new' (Kd.R_new' (Kd.R_new' ho1 (Kd.R_lt (by (with_reducible repeat (first | apply Kd.R_alloc | apply Kd.R_drewN | apply Kd.R_drew)); exact HO_38.out))) (Kd.R_lt (by (with_reducible repeat (first | apply Kd.R_alloc | apply Kd.R_drewN | apply Kd.R_drew)); exact HO_259001.out))) (Kd.R_lt (by (with_reducible repeat (first | apply Kd.R_alloc | apply Kd.R_drewN | apply Kd.R_drew)); exact HO_259002.out))) (g := gb256) (o := .cells #[.int .i64 a1_0, .slice A1_1 l1_1.length c1_1, .slice (some ad273) l1_2.length c1_2] 27 (0, 0)) (by (with_reducible repeat (first | refine blk_drewN ?_ _ | refine blk_drew ?_ | refine blk_alloc ?_ _)); exact BK256.out)) (g := gb257) (o := .cells #[.int .i64 0, .slice none 0 0, .slice none 0 0] 27 (0, 0)) (by (with_reducible repeat (first | refine blk_drewN ?_ _ | refine blk_drew ?_ | refine blk_alloc ?_ _)); exact BK257.out)) (g := gb258) (o := .cells #[.int .i64 a1_0, u259001, u259002] 27 (0, 0)) (by (with_reducible repeat (first | refine blk_drewN ?_ _ | refine blk_drew ?_ | refine blk_alloc ?_ _)); exact BK258.out)) (keep_size (w := w) (g := g) (row := none) (by repeat (first | (with_reducible first | exact HK.out | apply KeepBut.set_ | apply keep_drewN | apply keep_drew | apply keep_alloc | refine keep_far ?_ GW256.out _ | refine keep_far ?_ GW257.out _ | refine keep_far ?_ GW258.out _) | exact HK.out))))
                        have n8_ := Aside0.mk (KeepBut.trans (by repeat (first | (with_reducible first | exact HK.out | apply KeepBut.set_ | apply keep_drewN | apply keep_drew | apply keep_alloc | refine keep_far ?_ GW256.out _ | refine keep_far ?_ GW257.out _ | refine keep_far ?_ GW258.out _) | exact HK.out)) hk (.inl rfl))
                        have n9_ := Aside0.mk (hb)
                        have n10_ := Aside0.mk (hi)
                        clear HO_38
                        clear HO_259001
                        clear HO_259002
                        clear BK256
                        clear BK257
                        clear BK258
                        clear HK
                        clear HB
                        clear HI0
                        have HO_38 := n0_
                        have HO_259001 := n1_
                        have HO_259002 := n2_
                        have BK256 := n3_
                        have BK257 := n4_
                        have BK258 := n5_
                        have HO277 := n6_
                        have HO280 := n7_
                        have HK := n8_
                        have HB := n9_
                        have HI0 := n10_
                        clear n0_ n1_ n2_ n3_ n4_ n5_ n6_ n7_ n8_ n9_ n10_
                        (try clear hb)
                        (try clear hb2)
                        (try clear hk)
                        (try clear hi)
                        (try clear ho0)
                        (try clear ho1)
                        obtain ⟨Ao44, co44, eo44⟩ := Kd.R_slice HO277.out
                        (first | subst eo44 | (injection eo44 with f1_ f2_ f3_; have f4_ := f1_.symm; have f5_ := f3_.symm; clear f1_ f2_ f3_; subst f4_; subst f5_))
                        obtain ⟨Ao45, co45, eo45⟩ := Kd.R_slice HO280.out
                        (first | subst eo45 | (injection eo45 with f1_ f2_ f3_; have f4_ := f1_.symm; have f5_ := f3_.symm; clear f1_ f2_ f3_; subst f4_; subst f5_))
                        refine hK.out _ _ ⟨(blk_cell BK258.out 0).trans rfl, (blk_cell BK258.out 1).trans rfl, (blk_cell BK258.out 2).trans rfl, (blk_cell BK256.out 0).trans rfl, (blk_cell BK256.out 1).trans rfl, (blk_cell BK256.out 2).trans rfl, HS6_, HS7_, HS8_⟩ (fun hHeld => ?_)
                        clear hK K
                        refine norm_ (a' := ?_) ?_ ?_
                        rotate_left
                        · show Act.put _ (some 52) _ = _
                          simp only [Act.put, List.setIfInBounds_toArray, List.set_cons_zero, List.set_cons_succ, i64_w, i32_w]
                          rfl
                        refine one_ (i := 9) (N := some 53) #[true, true, true, true, true, true, true, true, true, true, false, false, false] rfl rfl (one_of HT_.out (by kernel_rfl)) (by decide) (fun K hK => ?_)
                        refine value_ (w1 := ?_) (v := ?_) (by rfl) rfl ?_ ?_
                        rotate_left 2
                        · go_simp
                          constructor
                          · rfl
                          · rfl
                        refine hK.out _ _ ⟨(blk_cell (blk_alloc BK258.out _) 0).trans rfl, (blk_cell (blk_alloc BK258.out _) 1).trans rfl, (blk_cell (blk_alloc BK258.out _) 2).trans rfl, (blk_cell (blk_alloc BK256.out _) 0).trans rfl, (blk_cell (blk_alloc BK256.out _) 1).trans rfl, (blk_cell (blk_alloc BK256.out _) 2).trans rfl, (World.cell?_alloc_lt _ _ _ (World.block_lt_of_cell? _ _ (hHeld.2.2.2.2.2.2.1))).trans (hHeld.2.2.2.2.2.2.1), (World.cell?_alloc_lt _ _ _ (World.block_lt_of_cell? _ _ (hHeld.2.2.2.2.2.2.2.1))).trans (hHeld.2.2.2.2.2.2.2.1), (World.cell?_alloc_lt _ _ _ (World.block_lt_of_cell? _ _ (hHeld.2.2.2.2.2.2.2.2))).trans (hHeld.2.2.2.2.2.2.2.2)⟩ (fun hHeld => ?_)
                        clear hK K
                        refine norm_ (a' := ?_) ?_ ?_
                        rotate_left
                        · show Act.put _ (some 53) _ = _
                          simp only [Act.put, List.setIfInBounds_toArray, List.set_cons_zero, List.set_cons_succ, i64_w, i32_w]
                          rfl
                        refine last_ (i := 10) (N := some 54) #[true, true, true, true, true, true, true, true, true, true, true, false, false] rfl rfl (one_of HT_.out (by kernel_rfl)) (by decide) (fun K hK => ?_)
                        refine Kd.R_append_step k27 w.heap.size (by rfl) (.tmp 45) (.tmp 53) 25 27 (.agg #[(.int .i64 0), (.slice none 0 0), (.slice none 0 0)]) 56 rfl Try.underlying25 info27 rfl (by decide) (by omega) u259002 x259002_2 (⟨t274, t275, t278⟩ : S27) [.int .i64 t274, .slice Ao44 t275.length co44, .slice Ao45 t278.length co45] (fun k_ => some k_ ≠ (.slice (some ad272) t268.length co33 : Value).ownBlock ∧ some k_ ≠ (u259001 : Value).ownBlock ∧ k_ ≠ gb256 ∧ k_ ≠ gb257 ∧ k_ ≠ gb258) (fun k_ => ((fun k_ => some k_ ≠ (.slice (some ad272) t268.length co33 : Value).ownBlock ∧ some k_ ≠ (u259001 : Value).ownBlock ∧ k_ ≠ gb256 ∧ k_ ≠ gb257 ∧ k_ ≠ gb258)) k_ ∧ some k_ ≠ (u259002 : Value).ownBlock) rfl rfl ?aP (fun _ hk => hk) ?aF ?aO (Below.refl _ _) ?aS ?aL ?_
                        (case aP => exact k27_mkM _ _ _ (⟨t274, t275, t278⟩ : S27) (Kd.R_mono (Kd.R_types (Kd.R_types (Kd.R_types (Kd.R_apart' (HO277.out) (Kd.R_typed HO_259002.out) (by decide)) BK256.out (by decide)) BK257.out (by decide)) BK258.out (by decide)) (fun k_ hk => ⟨⟨hk.1.1.1.1.1.2, ⟨hk.1.1.1.1.2, ⟨hk.1.1.2, ⟨hk.1.2, hk.2⟩⟩⟩⟩, hk.1.1.1.2⟩)) (Kd.R_mono (HO280.out) (fun k_ hk => ⟨⟨hk.1.1.1.1.1.2, ⟨hk.1.1.1.1.2, ⟨hk.1.1.2, ⟨hk.1.2, hk.2⟩⟩⟩⟩, hk.1.1.1.2⟩)))
                        (case aF => exact (fun k_ hk => ⟨Kd.fresh' (Kd.R_lt (by (with_reducible repeat (first | apply Kd.R_alloc | apply Kd.R_drewN | apply Kd.R_drew)); exact HO_38.out)) k_ hk, Kd.fresh' (Kd.R_lt (by (with_reducible repeat (first | apply Kd.R_alloc | apply Kd.R_drewN | apply Kd.R_drew)); exact HO_259001.out)) k_ hk, Kd.freshB (g := gb256) (o := .cells #[.int .i64 a1_0, .slice A1_1 l1_1.length c1_1, .slice (some ad273) l1_2.length c1_2] 27 (0, 0)) (by (with_reducible repeat (first | refine blk_drewN ?_ _ | refine blk_drew ?_ | refine blk_alloc ?_ _)); exact BK256.out) k_ hk, Kd.freshB (g := gb257) (o := .cells #[.int .i64 0, .slice none 0 0, .slice none 0 0] 27 (0, 0)) (by (with_reducible repeat (first | refine blk_drewN ?_ _ | refine blk_drew ?_ | refine blk_alloc ?_ _)); exact BK257.out) k_ hk, Kd.freshB (g := gb258) (o := .cells #[.int .i64 a1_0, u259001, u259002] 27 (0, 0)) (by (with_reducible repeat (first | refine blk_drewN ?_ _ | refine blk_drew ?_ | refine blk_alloc ?_ _)); exact BK258.out) k_ hk⟩))
                        (case aO => exact (by (with_reducible repeat (first | apply Kd.R_alloc | apply Kd.R_drewN | apply Kd.R_drew)); exact Kd.R_mono HO_259002.out (fun _ hk => ⟨hk.1.1.1, ⟨hk.1.1.2.1, ⟨hk.1.1.2.2.1, ⟨hk.1.1.2.2.2.1, hk.1.1.2.2.2.2⟩⟩⟩⟩)))
                        (case aS => exact (keep_size (w := w) (g := g) (row := none) (by repeat (first | (with_reducible first | exact HK.out | apply KeepBut.set_ | apply keep_drewN | apply keep_drew | apply keep_alloc | refine keep_far ?_ GW256.out _ | refine keep_far ?_ GW257.out _ | refine keep_far ?_ GW258.out _) | exact HK.out))))
                        (case aL => have := LMc40.out; omega)
                        intro v283 w43 ho hb hg hat
                        rw [← Ny282.out] at ho
                        have n0_ := Aside0.mk (Kd.R_over' (by (with_reducible repeat (first | apply Kd.R_alloc | apply Kd.R_drewN | apply Kd.R_drew)); exact HO_38.out) (Kd.R_typed (by (with_reducible repeat (first | apply Kd.R_alloc | apply Kd.R_drewN | apply Kd.R_drew)); exact HO_259002.out)) (by decide) hg)
                        have n1_ := Aside0.mk (Kd.R_over' (by (with_reducible repeat (first | apply Kd.R_alloc | apply Kd.R_drewN | apply Kd.R_drew)); exact HO_259001.out) (Kd.R_typed (by (with_reducible repeat (first | apply Kd.R_alloc | apply Kd.R_drewN | apply Kd.R_drew)); exact HO_259002.out)) (by decide) hg)
                        have n2_ := Aside0.mk (blk_grown (g := gb256) (o := .cells #[.int .i64 a1_0, .slice A1_1 l1_1.length c1_1, .slice (some ad273) l1_2.length c1_2] 27 (0, 0)) (by (with_reducible repeat (first | refine blk_drewN ?_ _ | refine blk_drew ?_ | refine blk_alloc ?_ _)); exact BK256.out) hg (Kd.R_away HO_259002.out (fun _ hk => hk.1.1.2.2.1)))
                        have n3_ := Aside0.mk (blk_grown (g := gb257) (o := .cells #[.int .i64 0, .slice none 0 0, .slice none 0 0] 27 (0, 0)) (by (with_reducible repeat (first | refine blk_drewN ?_ _ | refine blk_drew ?_ | refine blk_alloc ?_ _)); exact BK257.out) hg (Kd.R_away HO_259002.out (fun _ hk => hk.1.1.2.2.2.1)))
                        have n4_ := Aside0.mk (blk_grown (g := gb258) (o := .cells #[.int .i64 a1_0, u259001, u259002] 27 (0, 0)) (by (with_reducible repeat (first | refine blk_drewN ?_ _ | refine blk_drew ?_ | refine blk_alloc ?_ _)); exact BK258.out) hg (Kd.R_away HO_259002.out (fun _ hk => hk.1.1.2.2.2.2)))
                        have n5_ := Aside0.mk (IsS43.grown (by repeat (first | (with_reducible first | exact HI0.out | apply IsS43.alloc | apply IsS43.drewN | apply IsS43.drew | apply IsS43.set_1 | refine IsS43.far ?_ NB0_256.out _ | refine IsS43.far ?_ NB0_257.out _ | refine IsS43.far ?_ NB0_258.out _) | exact HI0.out)) hg (IsS43.own_ne HI0.out HO_259002.out (by decide)))
                        have n6_ := Aside0.mk (below_weaken (by repeat (first | (with_reducible first | exact HB.out | apply below_alloc | apply pw_below_drewN | apply below_drew1 | refine below_set ?_ (IsS43.ge HI0.out) | refine below_set ?_ GE256.out | refine below_set ?_ GE257.out | refine below_set ?_ GE258.out) | exact HB.out)) HL.out hb)
                        have n7_ := Aside0.mk (KeepBut.trans (by repeat (first | (with_reducible first | exact HK.out | apply KeepBut.set_ | apply keep_drewN | apply keep_drew | apply keep_alloc | refine keep_far ?_ GW256.out _ | refine keep_far ?_ GW257.out _ | refine keep_far ?_ GW258.out _) | exact HK.out)) (KeepBut.of_grown hg g) (Kd.R_base2 HO_259002.out))
                        have n8_ := Aside0.mk (ho)
                        clear HO_38
                        clear HO_259001
                        clear BK256
                        clear BK257
                        clear BK258
                        clear HI0
                        clear HB
                        clear HK
                        clear HO_259002
                        clear HO277
                        clear HO280
                        have HO_38 := n0_
                        have HO_259001 := n1_
                        have BK256 := n2_
                        have BK257 := n3_
                        have BK258 := n4_
                        have HI0 := n5_
                        have HB := n6_
                        have HK := n7_
                        have HO284 := n8_
                        clear n0_ n1_ n2_ n3_ n4_ n5_ n6_ n7_ n8_
                        clear ho hb hg hat
                        obtain ⟨Ao46, co46, eo46⟩ := Kd.R_slice HO284.out
                        (first | subst eo46 | (injection eo46 with f1_ f2_ f3_; have f4_ := f1_.symm; have f5_ := f3_.symm; clear f1_ f2_ f3_; subst f4_; subst f5_))
                        refine hK.out _ _ ?_
                        clear hK K
                        refine norm_ (a' := ?_) ?_ ?_
                        rotate_left
                        · show Act.put _ (some 54) _ = _
                          simp only [Act.put, List.setIfInBounds_toArray, List.set_cons_zero, List.set_cons_succ, i64_w, i32_w]
                          rfl
                        refine pure_ (i := 11) (N := some 55) (v := ?_) (a' := ?_) #[true, true, true, true, true, true, true, true, true, true, true, true, false] rfl rfl (any_of HT_.out (by kernel_rfl)) (fun _ _ _ h => h) (Or.inl ⟨by rfl, ?_⟩) ?_ ?_
                        rotate_left
                        · intro w'
                          go_simp
                          with_reducible rfl
                        rotate_left
                        · simp only [Act.put, List.setIfInBounds_toArray, List.set_cons_zero, List.set_cons_succ, i64_w, i32_w]
                          rfl
                        refine last_ (i := 12) (N := none) #[true, true, true, true, true, true, true, true, true, true, true, true, true] rfl rfl (one_of HT_.out (by kernel_rfl)) (by decide) (fun K hK => ?_)
                        have hs47 : w43.cell? ⟨gb258, 2, none⟩ = some (u259002) := (blk_cell BK258.out 2).trans rfl
                        have hfs47 := blk_frozen BK258.out 2
                        have hns47_0 := NB256_258.out
                        have hns47_1 := NB257_258.out
                        have hms47_0 := NB258_256.out
                        have hms47_1 := NB258_257.out
                        refine skip_ (w1 := ?_) (by rfl) rfl ?_ ?_
                        rotate_left
                        · go_simp
                          rfl
                        refine hK.out _ _ ?_
                        clear hK K
                        refine done_ (done_of HT_.out (by kernel_rfl)) ?_
                        try go_wp2
                        go_roundg k2
                        case measure => have := HK1.out; have := HK2.out; omega
                        case rel => exact ⟨(wrap64 (x40_2 + 1)), (t281), (y282), (.slice Ao46 y282.length co46), (by first | rfl | (simp; done) | (simp [*]; done) | (refine congrArg (Value.int .i64) ?_; unfold wrap64; omega)), H', ⟨by have := HK1.out; have := HK2.out; omega⟩, ⟨by (with_reducible repeat (first | apply Kd.R_alloc | apply Kd.R_drewN | apply Kd.R_drew)); exact Kd.R_mono (Kd.R_far (p := ⟨gb258, 2, none⟩) (Kd.R_types HO_38.out BK258.out (by decide)) (fun _ hk => hk.2) (.slice Ao46 y282.length co46)) (fun _ hk => hk.1.1)⟩, ⟨by (with_reducible repeat (first | apply Kd.R_alloc | apply Kd.R_drewN | apply Kd.R_drew)); exact Kd.R_mono (Kd.R_far (p := ⟨gb258, 2, none⟩) (Kd.R_types HO_259001.out BK258.out (by decide)) (fun _ hk => hk.2) (.slice Ao46 y282.length co46)) (fun _ hk => hk.1.1)⟩, ⟨by (with_reducible repeat (first | apply Kd.R_alloc | apply Kd.R_drewN | apply Kd.R_drew)); exact Kd.R_mono (Kd.R_far (p := ⟨gb258, 2, none⟩) (Kd.R_mono HO284.out (fun k_ hk => (⟨hk, hk.2.2.2.2⟩ : _ ∧ k_ ≠ gb258))) (fun _ hk => hk.2) (.slice Ao46 y282.length co46)) (fun _ hk => ⟨hk.1.1, ⟨hk.1.2.1, ⟨hk.1.2.2.1, ⟨hk.1.2.2.2.1, hk.1.2.2.2.2⟩⟩⟩⟩)⟩, ⟨by (with_reducible repeat (first | refine blk_drewN ?_ _ | refine blk_drew ?_ | refine blk_alloc ?_ _)); refine blk_far ?_ NB256_258.out _; (with_reducible repeat (first | refine blk_drewN ?_ _ | refine blk_drew ?_ | refine blk_alloc ?_ _)); exact BK256.out⟩, ⟨by (with_reducible repeat (first | refine blk_drewN ?_ _ | refine blk_drew ?_ | refine blk_alloc ?_ _)); refine blk_far ?_ NB257_258.out _; (with_reducible repeat (first | refine blk_drewN ?_ _ | refine blk_drew ?_ | refine blk_alloc ?_ _)); exact BK257.out⟩, ⟨by (with_reducible repeat (first | refine blk_drewN ?_ _ | refine blk_drew ?_ | refine blk_alloc ?_ _)); refine blk_put (cs := #[.int .i64 a1_0, u259001, u259002]) ?_ 2 _ rfl; (with_reducible repeat (first | refine blk_drewN ?_ _ | refine blk_drew ?_ | refine blk_alloc ?_ _)); exact BK258.out⟩, ⟨by repeat (first | (with_reducible first | exact HI0.out | apply IsS43.alloc | apply IsS43.drewN | apply IsS43.drew | apply IsS43.set_1 | refine IsS43.far ?_ NB0_256.out _ | refine IsS43.far ?_ NB0_257.out _ | refine IsS43.far ?_ NB0_258.out _) | exact HI0.out)⟩, ⟨by repeat (first | (with_reducible first | exact HK.out | apply KeepBut.set_ | apply keep_drewN | apply keep_drew | apply keep_alloc | refine keep_far ?_ GW256.out _ | refine keep_far ?_ GW257.out _ | refine keep_far ?_ GW258.out _) | exact HK.out)⟩, ⟨by repeat (first | (with_reducible first | exact HB.out | apply below_alloc | apply pw_below_drewN | apply below_drew1 | refine below_set ?_ (IsS43.ge HI0.out) | refine below_set ?_ GE256.out | refine below_set ?_ GE257.out | refine below_set ?_ GE258.out) | exact HB.out)⟩⟩
                      · rw [if_neg c40] at H
                        exact absurd H (by simp)
                    · rw [if_neg c38] at H
                      exact absurd H (by simp)
                  · rw [if_neg c37] at H
                    exact absurd H (by simp)
                · rw [if_neg c36] at H
                  exact absurd H (by simp)
              · rw [if_neg c35] at H
                exact absurd H (by simp)
            · rw [if_neg c34] at H
              have c34b0 : decide (x40_2 < (t268.length : Int)) = false := decide_eq_false c34
              clear c34
              simp only [Option.some.injEq, Prod.mk.injEq] at H
              obtain ⟨rfl, rfl, rfl, rfl⟩ := H
              have hnb48 := NB258_256.out
              have hnc48 := NB256_258.out
              have hnb49 := NB258_257.out
              have hnc49 := NB257_258.out
              have hnb50 := NB258_0.out
              have hnc50 := NB0_258.out
              have hcz51_0 : wr.cell? ⟨gb258, 0, none⟩ = some (.int .i64 a1_0) := (blk_cell BK258.out 0).trans rfl
              have hcz51_1 : wr.cell? ⟨gb258, 1, none⟩ = some (u259001) := (blk_cell BK258.out 1).trans rfl
              have hcz51_2 : wr.cell? ⟨gb258, 2, none⟩ = some (u259002) := (blk_cell BK258.out 2).trans rfl
              have hfz51_0 := blk_frozen BK258.out 0
              have hfz51_1 := blk_frozen BK258.out 1
              have hfz51_2 := blk_frozen BK258.out 2
              have hnb52 := NB257_256.out
              have hnc52 := NB256_257.out
              have hnb53 := NB257_0.out
              have hnc53 := NB0_257.out
              have hcz54_0 : wr.cell? ⟨gb257, 0, none⟩ = some (.int .i64 0) := (blk_cell BK257.out 0).trans rfl
              have hcz54_1 : wr.cell? ⟨gb257, 1, none⟩ = some (.slice none 0 0) := (blk_cell BK257.out 1).trans rfl
              have hcz54_2 : wr.cell? ⟨gb257, 2, none⟩ = some (.slice none 0 0) := (blk_cell BK257.out 2).trans rfl
              have hfz54_0 := blk_frozen BK257.out 0
              have hfz54_1 := blk_frozen BK257.out 1
              have hfz54_2 := blk_frozen BK257.out 2
              obtain ⟨Ao55, co55, eo55⟩ := Kd.R_slice HO_259001.out
              subst eo55
              obtain ⟨Ao56, co56, eo56⟩ := Kd.R_slice HO_259002.out
              subst eo56
              go_wp2
              refine bodyPost_ret (results_cell_row rfl _ _ gb257 27 #[.int .i64 a1_0, .slice Ao55 x259001_1.length co55, .slice Ao56 x259002_2.length co56] (0, 0) _ rfl (by (with_reducible repeat (first | refine blk_drewN ?_ _ | refine blk_drew ?_ | refine blk_alloc ?_ _)); refine blk_put (cs := #[.int .i64 a1_0, .slice Ao55 x259001_1.length co55, .slice none 0 0]) ?_ 2 _ rfl; (with_reducible repeat (first | refine blk_drewN ?_ _ | refine blk_drew ?_ | refine blk_alloc ?_ _)); refine blk_put (cs := #[.int .i64 a1_0, .slice none 0 0, .slice none 0 0]) ?_ 1 _ rfl; (with_reducible repeat (first | refine blk_drewN ?_ _ | refine blk_drew ?_ | refine blk_alloc ?_ _)); refine blk_put (cs := #[.int .i64 0, .slice none 0 0, .slice none 0 0]) ?_ 0 _ rfl; (with_reducible repeat (first | refine blk_drewN ?_ _ | refine blk_drew ?_ | refine blk_alloc ?_ _)); exact BK257.out) Try.underlying27 rfl (by kernel_rfl)) rfl ?_
              exact ⟨_, _, by first | rfl | (simp [errW_none, errW_some] <;> rfl) | (simp [*, errW_none, errW_some] <;> rfl), by (with_reducible repeat (first | apply Kd.R_alloc | apply Kd.R_drewN | apply Kd.R_drew)); exact Kd.R_mono (Kd.R_far (p := ⟨gb257, 2, none⟩) (Kd.R_far (p := ⟨gb257, 1, none⟩) (Kd.R_far (p := ⟨gb257, 0, none⟩) (Kd.R_types HO_259001.out BK257.out (by decide)) (fun _ hk => hk.2) (.int .i64 a1_0)) (fun _ hk => hk.2) (.slice Ao55 x259001_1.length co55)) (fun _ hk => hk.2) (.slice Ao56 x259002_2.length co56)) (fun _ hk => trivial), by (with_reducible repeat (first | apply Kd.R_alloc | apply Kd.R_drewN | apply Kd.R_drew)); exact Kd.R_mono (Kd.R_far (p := ⟨gb257, 2, none⟩) (Kd.R_far (p := ⟨gb257, 1, none⟩) (Kd.R_far (p := ⟨gb257, 0, none⟩) (Kd.R_mono HO_259002.out (fun k_ hk => (⟨hk, hk.2.2.2.1⟩ : _ ∧ k_ ≠ gb257))) (fun _ hk => hk.2) (.int .i64 a1_0)) (fun _ hk => hk.2) (.slice Ao55 x259001_1.length co55)) (fun _ hk => hk.2) (.slice Ao56 x259002_2.length co56)) (fun _ hk => hk.1.2.1), by repeat (first | (with_reducible first | exact HI0.out | apply IsS43.alloc | apply IsS43.drewN | apply IsS43.drew | apply IsS43.set_1 | refine IsS43.far ?_ NB0_256.out _ | refine IsS43.far ?_ NB0_257.out _ | refine IsS43.far ?_ NB0_258.out _) | exact HI0.out), by repeat (first | (with_reducible first | exact HB.out | apply below_alloc | apply pw_below_drewN | apply below_drew1 | refine below_set ?_ (IsS43.ge HI0.out) | refine below_set ?_ GE256.out | refine below_set ?_ GE257.out | refine below_set ?_ GE258.out) | exact HB.out), by repeat (first | (with_reducible first | exact HK.out | apply KeepBut.set_ | apply keep_drewN | apply keep_drew | apply keep_alloc | refine keep_far ?_ GW256.out _ | refine keep_far ?_ GW257.out _ | refine keep_far ?_ GW258.out _) | exact HK.out)⟩

end Go.Proofs.Yteljoemeogeidaa.QThresholdOrder
