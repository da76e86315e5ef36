/- Lean functions that answer as the Go functions do which the law reaches, and proofs that the Go code comes to exactly these answers. Conditions: those that each theorem names. -/
import Derived.Test.YteljoemeogeidaaQThresholdAnswersx0
import Derived.Test.YteljoemeogeidaaQThresholdAnswersx8
namespace Go.Proofs.Yteljoemeogeidaa.QThresholdAnswers
open Go.RowKit Go.Proofs.YteljoemeogeidaaW.PrintWords Go.Proofs.YteljoemeogeidaaW.PrintLast Go.Proofs.YteljoemeogeidaaW.PrintMore
attribute [local go_sem] max2_int min2_int max_two min_two max_three min_three max_four min_four   -- for this text's walks alone
set_option linter.unusedVariables false
set_option linter.unusedSimpArgs false

/-! ### api_Trust__on_21 and threshold_Same, which call each other -/
mutual
def api_Trust__on_21.l0 : Nat → List (S27) → List (S27) → Int → Int → Option (Bool)
  | 0, _, _, _, _ => none
  | k + 1, x1, x15, x16, x17 => if x17 < x16 then (if 0 ≤ x17 then (if x17 < (x15.length : Int) then (if x17 < (x1.length : Int) then ((threshold_Same.f k ((rd_T27 x15 x17).f0) ((rd_T27 x15 x17).f1) ((rd_T27 x15 x17).f2) ((rd_T27 x1 x17).f0) ((rd_T27 x1 x17).f1) ((rd_T27 x1 x17).f2)).bind fun t287 => (if t287 = true then (api_Trust__on_21.l0 k x1 x15 x16 (wrap64 (x17 + 1))) else (some false))) else (none)) else (none)) else (none)) else (some true)
def threshold_Same.f : Nat → Int → List Int → List (S27) → Int → List Int → List (S27) → Option (Bool)
  | 0, _, _, _, _, _, _ => none
  | k + 1, a0_0, l0_1, l0_2, a1_0, l1_1, l1_2 => if a0_0 = a1_0 then ((slices_Equal_int_int.f k l0_1 l1_1).bind fun t290 => (if t290 = true then ((if (l0_2.length : Int) = (l1_2.length : Int) then (api_Trust__on_21.l0 k l1_2 l0_2 (l0_2.length : Int) 0) else (some false)).bind fun t291 => (some t291)) else (some false))) else (some false)
end
def api_Trust__on_21.f (k : Nat) (l0 : List (S27)) (l1 : List (S27))  : Option (Bool) := if (l0.length : Int) = (l1.length : Int) then (api_Trust__on_21.l0 k l1 l0 (l0.length : Int) 0) else (some false)
mutual
theorem api_Trust__on_21.mono_l : ∀ k, (∀ y0 y1 y2 y3, LeO (api_Trust__on_21.l0 k y0 y1 y2 y3) (api_Trust__on_21.l0 (k + 1) y0 y1 y2 y3))
  | 0 => fun _ _ _ _ r h => by simp [api_Trust__on_21.l0] at h
  | k + 1 => by
    have ih0 := api_Trust__on_21.mono_l k
    · intro y0 y1 y2 y3
      unfold api_Trust__on_21.l0
      repeat' first
      | (with_reducible exact ih0 _ _ _ _)
      | (with_reducible exact (threshold_Same.mono_l k) _ _ _ _ _ _)
      | (with_reducible exact LeO.refl _)
      | (with_reducible exact LeO.none _)
      | (with_reducible refine LeO.ite ?_ ?_)
      | (with_reducible refine LeO.bind ?_ (fun _ => ?_))
      | exact ih0 _ _ _ _
      | exact (threshold_Same.mono_l k) _ _ _ _ _ _
      | exact LeO.none _
      | refine LeO.ite ?_ ?_
      | refine LeO.bind ?_ (fun _ => ?_)
theorem threshold_Same.mono_l : ∀ k, (∀ y0 y1 y2 y3 y4 y5, LeO (threshold_Same.f k y0 y1 y2 y3 y4 y5) (threshold_Same.f (k + 1) y0 y1 y2 y3 y4 y5))
  | 0 => fun _ _ _ _ _ _ r h => by simp [threshold_Same.f] at h
  | k + 1 => by
    have ih0 := threshold_Same.mono_l k
    · intro y0 y1 y2 y3 y4 y5
      unfold threshold_Same.f
      repeat' first
      | (with_reducible exact ih0 _ _ _ _ _ _)
      | (with_reducible exact (api_Trust__on_21.mono_l k) _ _ _ _)
      | (with_reducible exact slices_Equal_int_int.mono _ _ _)
      | (with_reducible exact LeO.refl _)
      | (with_reducible exact LeO.none _)
      | (with_reducible refine LeO.ite ?_ ?_)
      | (with_reducible refine LeO.bind ?_ (fun _ => ?_))
      | exact ih0 _ _ _ _ _ _
      | exact (api_Trust__on_21.mono_l k) _ _ _ _
      | exact slices_Equal_int_int.mono _ _ _
      | exact LeO.none _
      | refine LeO.ite ?_ ?_
      | refine LeO.bind ?_ (fun _ => ?_)
end
theorem threshold_Same.mono : ∀ a0 a1 a2 a3 a4 a5 k, LeO (threshold_Same.f k a0 a1 a2 a3 a4 a5) (threshold_Same.f (k + 1) a0 a1 a2 a3 a4 a5) := by
  intro a0 a1 a2 a3 a4 a5 k
  have ih0 := threshold_Same.mono_l k
  exact ih0 a0 a1 a2 a3 a4 a5
theorem api_Trust__on_21.mono : ∀ a0 a1 k, LeO (api_Trust__on_21.f k a0 a1) (api_Trust__on_21.f (k + 1) a0 a1) := by
  intro a0 a1 k
  have ih0 := api_Trust__on_21.mono_l k
  unfold api_Trust__on_21.f
  repeat' first
      | (with_reducible exact ih0 _ _ _ _)
      | (with_reducible exact threshold_Same.mono _ _ _ _ _ _ _)
      | (with_reducible exact LeO.refl _)
      | (with_reducible exact LeO.none _)
      | (with_reducible refine LeO.ite ?_ ?_)
      | (with_reducible refine LeO.bind ?_ (fun _ => ?_))
      | exact ih0 _ _ _ _
      | exact threshold_Same.mono _ _ _ _ _ _ _
      | exact LeO.none _
      | refine LeO.ite ?_ ?_
      | refine LeO.bind ?_ (fun _ => ?_)
set_option maxHeartbeats 8000000 in
set_option maxRecDepth 100000 in
theorem api_Trust__on_21.calls (k : Nat) (ihS : Aside0 (∀ kk : Nat, kk < k → ∀ (a0_0 : Int) (A0_1 : Option Addr) (c0_1 : Nat) (l0_1 : List Int) (A0_2 : Option Addr) (c0_2 : Nat) (l0_2 : List (S27)) (a1_0 : Int) (A1_1 : Option Addr) (c1_1 : Nat) (l1_1 : List Int) (A1_2 : Option Addr) (c1_2 : Nat) (l1_2 : List (S27)) (r : Bool) (w : World) (hr0_1 : Kd.C (Kd.int .i64) w A0_1 l0_1.length l0_1) (hc0_1 : l0_1.length ≤ c0_1) (hr0_2 : Kd.C k27 w A0_2 l0_2.length l0_2) (hc0_2 : l0_2.length ≤ c0_2) (hr1_1 : Kd.C (Kd.int .i64) w A1_1 l1_1.length l1_1) (hc1_1 : l1_1.length ≤ c1_1) (hr1_2 : Kd.C k27 w A1_2 l1_2.length l1_2) (hc1_2 : l1_2.length ≤ c1_2) (h : threshold_Same.f kk a0_0 l0_1 l0_2 a1_0 l1_1 l1_2 = some r),
    Calls Try.prog 21 #[.agg #[.int .i64 a0_0, .slice A0_1 l0_1.length c0_1, .slice A0_2 l0_2.length c0_2], .agg #[.int .i64 a1_0, .slice A1_1 l1_1.length c1_1, .slice A1_2 l1_2.length c1_2]] w fun e w' => e = .returned (.bool r) ∧ Below w.heap.size w w')) (A0 : Option Addr) (c0 : Nat) (l0 : List (S27)) (A1 : Option Addr) (c1 : Nat) (l1 : List (S27))  (r : Bool) (w : World) (hr0 : Kd.C k27 w A0 l0.length l0) (hc0 : l0.length ≤ c0) (hr1 : Kd.C k27 w A1 l1.length l1) (hc1 : l1.length ≤ c1) (h : api_Trust__on_21.f k l0 l1 = some r) :
    Calls Try.prog 40 #[.slice A0 l0.length c0, .slice A1 l1.length c1, .func (.func 21) #[] #[]] w fun e w' => e = .returned (.bool r) ∧ Below w.heap.size w w' := by
 have hu27 := Try.underlying27; have HR0 := am hr0; have HC0 := am hc0; clear hr0 hc0; have HR1 := am hr1; have HC1 := am hc1; clear hr1 hc1; have HB := am (Below.refl w.heap.size w); have H : (if (l0.length : Int) = (l1.length : Int) then (api_Trust__on_21.l0 k l1 l0 (l0.length : Int) 0) else (some false)) = some r := h; clear h
 by_cases c4 : (l0.length : Int) = (l1.length : Int)
 ·
  rw [if_pos c4] at H; have c4b0 : ((l0.length : Int) == (l1.length : Int)) = true := beq_iff_eq.mpr c4; have c4b1 : ((l0.length : Int) != (l1.length : Int)) = false := bne_eq_false_iff_eq.mpr c4; have c4b2 : (l0.length == l1.length) = true := by first | simpa using c4 | (simp at c4 ⊢; omega)
  clear c4; have H' := am H; clear H
  go_enter Try.func40, Try.ntmps40
  go_wp2
  go_loopg [17] k (fun kq v17 w' => ∃ (x17_1 : Int), v17 = .int .i64 x17_1 ∧ Aside0 (api_Trust__on_21.l0 kq l1 l0 (l0.length : Int) x17_1 = some r) ∧ Aside0 (kq ≤ k) ∧ Aside0 (Below w.heap.size w w'))
  case atStart => exact ⟨(0), ar, H', ⟨Nat.le_refl _⟩, ⟨by exact HB.out⟩⟩
  case round =>
   clear H'; (try clear c1); (try clear p2); (try clear c4); (try clear c4b0); (try clear c4b1); (try clear c4b2); obtain ⟨x17_1, rfl, HA, HK1, HB⟩ := hrel
   cases gk with
   | zero => exact absurd HA.out (by simp [api_Trust__on_21.l0])
   | succ k1 =>
    have H := HA.out; clear HA; simp only [api_Trust__on_21.l0] at H
    by_cases c5 : x17_1 < (l0.length : Int)
    ·
     rw [if_pos c5] at H; have c5b0 : decide (x17_1 < (l0.length : Int)) = true := decide_eq_true c5; clear c5
     by_cases c6 : 0 ≤ x17_1
     ·
      rw [if_pos c6] at H; have c6b0 : decide (0 ≤ x17_1) = true := decide_eq_true c6; clear c6
      by_cases c7 : x17_1 < (l0.length : Int)
      ·
       rw [if_pos c7] at H; have c7b0 : decide (x17_1 < (l0.length : Int)) = true := decide_eq_true c7; clear c7
       by_cases c8 : x17_1 < (l1.length : Int)
       ·
        rw [if_pos c8] at H; have c8b0 : decide (x17_1 < (l1.length : Int)) = true := decide_eq_true c8; clear c8; replace H := Option.bind_eq_some_iff.mp H; obtain ⟨t287, A90, H⟩ := H; replace H : (if t287 = true then (api_Trust__on_21.l0 k1 l1 l0 (l0.length : Int) (wrap64 (x17_1 + 1))) else (some false)) = some r := H; have A9 := am A90; clear A90
        by_cases c10 : t287 = true
        ·
         subst c10; have H1 : (api_Trust__on_21.l0 k1 l1 l0 (l0.length : Int) (wrap64 (x17_1 + 1))) = some r := by rw [if_pos rfl] at H; exact H
         clear H; have H := H1; clear H1; have H' := am H; clear H; have p283 : 0 ≤ (x17_1 : Int) := od; have q283 : x17_1 < (l0.length : Int) := od; obtain ⟨ad283, A283_1, c283_1, A283_2, c283_2, e283, hx283_0, hx283_1, hx283_2, hl283_1, hi283_1, hl283_2, hi283_2⟩ := at_T27 HR0.out x17_1 p283 q283
         cases e283
         replace hx283_0 := (HB.out.cell (World.block_lt_of_cell? w _ hx283_0)).trans hx283_0; replace hx283_1 := (HB.out.cell (World.block_lt_of_cell? w _ hx283_1)).trans hx283_1; replace hx283_2 := (HB.out.cell (World.block_lt_of_cell? w _ hx283_2)).trans hx283_2; have HR283_1 := am hi283_1; have HC283_1 := am hl283_1; clear hi283_1 hl283_1; have HR283_2 := am hi283_2; have HC283_2 := am hl283_2; clear hi283_2 hl283_2; replace p283 := eq_true p283; replace q283 := eq_true q283
         go_wp2_with (first | ((with_reducible refine gate_dst (N := 8) rfl ?_); refine box_event ?hg (N := 8) ?hd (cs := #[.int .i64 0, .slice none 0 0, .slice none 0 0]) (t := 27) ?hr ?_; (case hd => rfl); (case hg => rfl); (case hr => first | (go_simp; done) | (go_simp; rfl)); intro gb284 hg w11 hbox hb; have BK284 := am (hbox); have GW284 := am ((by rw [hg]; exact (below_size HB.out) : w.heap.size ≤ gb284)); have GE284 := am ((by rw [hg]; exact (below_size HB.out) : w.heap.size ≤ gb284)); replace HB := bs HB hb; clear hb hbox hg; obtain ⟨hcz12_0, hcz12_1, hcz12_2, hfz12_0, hfz12_1, hfz12_2⟩ := blkC3 BK284.out; have p285 : 0 ≤ (x17_1 : Int) := od; have q285 : x17_1 < (l1.length : Int) := od; obtain ⟨ad285, A285_1, c285_1, A285_2, c285_2, e285, hx285_0, hx285_1, hx285_2, hl285_1, hi285_1, hl285_2, hi285_2⟩ := at_T27 HR1.out x17_1 p285 q285; cases e285; have hn285_0 : ad285.block ≠ gb284 := Nat.ne_of_lt (Nat.lt_of_lt_of_le (by have := World.block_lt_of_cell? _ _ hx285_0; first | rwa [add_block] at this | exact this) GW284.out); have hn285_1 : ad285.block ≠ gb284 := Nat.ne_of_lt (Nat.lt_of_lt_of_le (by have := World.block_lt_of_cell? _ _ hx285_0; first | rwa [add_block] at this | exact this) GW284.out); have hn285_2 : ad285.block ≠ gb284 := Nat.ne_of_lt (Nat.lt_of_lt_of_le (by have := World.block_lt_of_cell? _ _ hx285_0; first | rwa [add_block] at this | exact this) GW284.out); replace hx285_0 := (HB.out.cell (World.block_lt_of_cell? w _ hx285_0)).trans hx285_0; replace hx285_1 := (HB.out.cell (World.block_lt_of_cell? w _ hx285_1)).trans hx285_1; replace hx285_2 := (HB.out.cell (World.block_lt_of_cell? w _ hx285_2)).trans hx285_2; have HR285_1 := am hi285_1; have HC285_1 := am hl285_1; clear hi285_1 hl285_1; have HR285_2 := am hi285_2; have HC285_2 := am hl285_2; clear hi285_2 hl285_2; replace hx285_0 := (cell_far (p := ⟨gb284, 0, none⟩) (by first | (rw [add_block]; exact hn285_0) | (show (Addr.add _ _).block ≠ _; rw [add_block]; exact hn285_0) | exact hn285_0) (.int .i64 ((rd_T27 l0 x17_1).f0))).trans hx285_0; replace hx285_1 := (cell_far (p := ⟨gb284, 0, none⟩) (by first | (rw [add_block]; exact hn285_0) | (show (Addr.add _ _).block ≠ _; rw [add_block]; exact hn285_0) | exact hn285_0) (.int .i64 ((rd_T27 l0 x17_1).f0))).trans hx285_1; replace hx285_2 := (cell_far (p := ⟨gb284, 0, none⟩) (by first | (rw [add_block]; exact hn285_0) | (show (Addr.add _ _).block ≠ _; rw [add_block]; exact hn285_0) | exact hn285_0) (.int .i64 ((rd_T27 l0 x17_1).f0))).trans hx285_2; replace hx285_0 := (cell_far (p := ⟨gb284, 1, none⟩) (by first | (rw [add_block]; exact hn285_1) | (show (Addr.add _ _).block ≠ _; rw [add_block]; exact hn285_1) | exact hn285_1) (.slice A283_1 ((rd_T27 l0 x17_1).f1).length c283_1)).trans hx285_0; replace hx285_1 := (cell_far (p := ⟨gb284, 1, none⟩) (by first | (rw [add_block]; exact hn285_1) | (show (Addr.add _ _).block ≠ _; rw [add_block]; exact hn285_1) | exact hn285_1) (.slice A283_1 ((rd_T27 l0 x17_1).f1).length c283_1)).trans hx285_1; replace hx285_2 := (cell_far (p := ⟨gb284, 1, none⟩) (by first | (rw [add_block]; exact hn285_1) | (show (Addr.add _ _).block ≠ _; rw [add_block]; exact hn285_1) | exact hn285_1) (.slice A283_1 ((rd_T27 l0 x17_1).f1).length c283_1)).trans hx285_2; replace hx285_0 := (cell_far (p := ⟨gb284, 2, none⟩) (by first | (rw [add_block]; exact hn285_2) | (show (Addr.add _ _).block ≠ _; rw [add_block]; exact hn285_2) | exact hn285_2) (.slice A283_2 ((rd_T27 l0 x17_1).f2).length c283_2)).trans hx285_0; replace hx285_1 := (cell_far (p := ⟨gb284, 2, none⟩) (by first | (rw [add_block]; exact hn285_2) | (show (Addr.add _ _).block ≠ _; rw [add_block]; exact hn285_2) | exact hn285_2) (.slice A283_2 ((rd_T27 l0 x17_1).f2).length c283_2)).trans hx285_1; replace hx285_2 := (cell_far (p := ⟨gb284, 2, none⟩) (by first | (rw [add_block]; exact hn285_2) | (show (Addr.add _ _).block ≠ _; rw [add_block]; exact hn285_2) | exact hn285_2) (.slice A283_2 ((rd_T27 l0 x17_1).f2).length c283_2)).trans hx285_2; clear hn285_0; clear hn285_1; clear hn285_2; replace p285 := eq_true p285; replace q285 := eq_true q285) | ((with_reducible refine gate_dst (N := 9) rfl ?_); refine box_event ?hg (N := 9) ?hd (cs := #[.int .i64 0, .slice none 0 0, .slice none 0 0]) (t := 27) ?hr ?_; (case hd => rfl); (case hg => rfl); (case hr => first | (go_simp; done) | (go_simp; rfl)); intro gb286 hg w13 hbox hb; have BK286 := am (hbox); have GW286 := am ((by rw [hg]; exact (below_size (by repeat (first | (with_reducible first | exact HB.out | apply below_alloc | apply pw_below_drewN | apply below_drew1 | refine below_set ?_ GE284.out) | exact HB.out))) : w.heap.size ≤ gb286)); have GE286 := am ((by rw [hg]; exact (below_size (by repeat (first | (with_reducible first | exact HB.out | apply below_alloc | apply pw_below_drewN | apply below_drew1 | refine below_set ?_ GE284.out) | exact HB.out))) : w.heap.size ≤ gb286)); replace HB := am (below_step (by repeat (first | (with_reducible first | exact HB.out | apply below_alloc | apply pw_below_drewN | apply below_drew1 | refine below_set ?_ GE284.out) | exact HB.out)) hb); have NB284_286 := am ((by rw [hg]; exact Nat.ne_of_lt (blk_lt (g := gb284) (o := .cells #[.int .i64 ((rd_T27 l0 x17_1).f0), .slice A283_1 ((rd_T27 l0 x17_1).f1).length c283_1, .slice A283_2 ((rd_T27 l0 x17_1).f2).length c283_2] 27 (0, 0)) (by (with_reducible repeat first | apply blk_drewN | apply blk_drew | apply blk_alloc); refine blk_put (cs := #[.int .i64 ((rd_T27 l0 x17_1).f0), .slice A283_1 ((rd_T27 l0 x17_1).f1).length c283_1, .slice none 0 0]) ?_ 2 _ rfl; (with_reducible repeat first | apply blk_drewN | apply blk_drew | apply blk_alloc); refine blk_put (cs := #[.int .i64 ((rd_T27 l0 x17_1).f0), .slice none 0 0, .slice none 0 0]) ?_ 1 _ rfl; (with_reducible repeat first | apply blk_drewN | apply blk_drew | apply blk_alloc); refine blk_put (cs := #[.int .i64 0, .slice none 0 0, .slice none 0 0]) ?_ 0 _ rfl; (with_reducible repeat first | apply blk_drewN | apply blk_drew | apply blk_alloc); exact BK284.out)) : gb284 ≠ gb286)); have NB286_284 := am ((by rw [hg]; exact Nat.ne_of_gt (blk_lt (g := gb284) (o := .cells #[.int .i64 ((rd_T27 l0 x17_1).f0), .slice A283_1 ((rd_T27 l0 x17_1).f1).length c283_1, .slice A283_2 ((rd_T27 l0 x17_1).f2).length c283_2] 27 (0, 0)) (by (with_reducible repeat first | apply blk_drewN | apply blk_drew | apply blk_alloc); refine blk_put (cs := #[.int .i64 ((rd_T27 l0 x17_1).f0), .slice A283_1 ((rd_T27 l0 x17_1).f1).length c283_1, .slice none 0 0]) ?_ 2 _ rfl; (with_reducible repeat first | apply blk_drewN | apply blk_drew | apply blk_alloc); refine blk_put (cs := #[.int .i64 ((rd_T27 l0 x17_1).f0), .slice none 0 0, .slice none 0 0]) ?_ 1 _ rfl; (with_reducible repeat first | apply blk_drewN | apply blk_drew | apply blk_alloc); refine blk_put (cs := #[.int .i64 0, .slice none 0 0, .slice none 0 0]) ?_ 0 _ rfl; (with_reducible repeat first | apply blk_drewN | apply blk_drew | apply blk_alloc); exact BK284.out)) : gb286 ≠ gb284)); replace BK284 := am (blk_below (g := gb284) (o := .cells #[.int .i64 ((rd_T27 l0 x17_1).f0), .slice A283_1 ((rd_T27 l0 x17_1).f1).length c283_1, .slice A283_2 ((rd_T27 l0 x17_1).f2).length c283_2] 27 (0, 0)) (by (with_reducible repeat first | apply blk_drewN | apply blk_drew | apply blk_alloc); refine blk_put (cs := #[.int .i64 ((rd_T27 l0 x17_1).f0), .slice A283_1 ((rd_T27 l0 x17_1).f1).length c283_1, .slice none 0 0]) ?_ 2 _ rfl; (with_reducible repeat first | apply blk_drewN | apply blk_drew | apply blk_alloc); refine blk_put (cs := #[.int .i64 ((rd_T27 l0 x17_1).f0), .slice none 0 0, .slice none 0 0]) ?_ 1 _ rfl; (with_reducible repeat first | apply blk_drewN | apply blk_drew | apply blk_alloc); refine blk_put (cs := #[.int .i64 0, .slice none 0 0, .slice none 0 0]) ?_ 0 _ rfl; (with_reducible repeat first | apply blk_drewN | apply blk_drew | apply blk_alloc); exact BK284.out) hb); clear hb hbox hg; have hnb14 := NB286_284.out; have hnc14 := NB284_286.out; obtain ⟨hcz15_0, hcz15_1, hcz15_2, hfz15_0, hfz15_1, hfz15_2⟩ := blkC3 BK286.out; have hcz16_0 : w13.cell? ⟨gb284, 0, none⟩ = some (.int .i64 ((rd_T27 l0 x17_1).f0)) := (blk_cell BK284.out 0).trans rfl; have hcz16_1 : w13.cell? ⟨gb284, 1, none⟩ = some (.slice A283_1 ((rd_T27 l0 x17_1).f1).length c283_1) := (blk_cell BK284.out 1).trans rfl; have hcz16_2 : w13.cell? ⟨gb284, 2, none⟩ = some (.slice A283_2 ((rd_T27 l0 x17_1).f2).length c283_2) := (blk_cell BK284.out 2).trans rfl; have hfz16_0 := blk_frozen BK284.out 0; have hfz16_1 := blk_frozen BK284.out 1; have hfz16_2 := blk_frozen BK284.out 2) | ((with_reducible refine gate_via (f := 21) (i := 26) rfl rfl ?_); refine goesV_ (some 29) rfl rfl Try.func21 (by kernel_rfl) rfl #[.agg #[.int .i64 ((rd_T27 l0 x17_1).f0), .slice A283_1 ((rd_T27 l0 x17_1).f1).length c283_1, .slice A283_2 ((rd_T27 l0 x17_1).f2).length c283_2], .agg #[.int .i64 ((rd_T27 l1 x17_1).f0), .slice A285_1 ((rd_T27 l1 x17_1).f1).length c285_1, .slice A285_2 ((rd_T27 l1 x17_1).f2).length c285_2]] (s := .tmp 26) rfl rfl ax ?_; (with_reducible refine (ihS.out k1 (by have := HK1.out; omega) ((rd_T27 l0 x17_1).f0) _ _ ((rd_T27 l0 x17_1).f1) _ _ ((rd_T27 l0 x17_1).f2) ((rd_T27 l1 x17_1).f0) _ _ ((rd_T27 l1 x17_1).f1) _ _ ((rd_T27 l1 x17_1).f2) true _ ?side1 ?side2 ?side3 ?side4 ?side5 ?side6 ?side7 ?side8 A9.out).mono ?_); (case side1 => exact Kd.C_below HR283_1.out (by repeat (first | (with_reducible first | exact HB.out | apply below_alloc | apply pw_below_drewN | apply below_drew1 | refine below_set ?_ GE284.out | refine below_set ?_ GE286.out) | exact HB.out))); (case side2 => exact HC283_1.out); (case side3 => exact Kd.C_below HR283_2.out (by repeat (first | (with_reducible first | exact HB.out | apply below_alloc | apply pw_below_drewN | apply below_drew1 | refine below_set ?_ GE284.out | refine below_set ?_ GE286.out) | exact HB.out))); (case side4 => exact HC283_2.out); (case side5 => exact Kd.C_below HR285_1.out (by repeat (first | (with_reducible first | exact HB.out | apply below_alloc | apply pw_below_drewN | apply below_drew1 | refine below_set ?_ GE284.out | refine below_set ?_ GE286.out) | exact HB.out))); (case side6 => exact HC285_1.out); (case side7 => exact Kd.C_below HR285_2.out (by repeat (first | (with_reducible first | exact HB.out | apply below_alloc | apply pw_below_drewN | apply below_drew1 | refine below_set ?_ GE284.out | refine below_set ?_ GE286.out) | exact HB.out))); (case side8 => exact HC285_2.out); rintro e w17 ⟨rfl, hb⟩; refine ⟨_, rfl, ?_⟩; replace BK284 := am (blk_below (g := gb284) (o := .cells #[.int .i64 ((rd_T27 l0 x17_1).f0), .slice A283_1 ((rd_T27 l0 x17_1).f1).length c283_1, .slice A283_2 ((rd_T27 l0 x17_1).f2).length c283_2] 27 (0, 0)) (by (with_reducible repeat first | apply blk_drewN | apply blk_drew | apply blk_alloc); refine blk_far ?_ NB284_286.out _; (with_reducible repeat first | apply blk_drewN | apply blk_drew | apply blk_alloc); refine blk_far ?_ NB284_286.out _; (with_reducible repeat first | apply blk_drewN | apply blk_drew | apply blk_alloc); refine blk_far ?_ NB284_286.out _; (with_reducible repeat first | apply blk_drewN | apply blk_drew | apply blk_alloc); exact BK284.out) hb); replace BK286 := am (blk_below (g := gb286) (o := .cells #[.int .i64 ((rd_T27 l1 x17_1).f0), .slice A285_1 ((rd_T27 l1 x17_1).f1).length c285_1, .slice A285_2 ((rd_T27 l1 x17_1).f2).length c285_2] 27 (0, 0)) (by (with_reducible repeat first | apply blk_drewN | apply blk_drew | apply blk_alloc); refine blk_put (cs := #[.int .i64 ((rd_T27 l1 x17_1).f0), .slice A285_1 ((rd_T27 l1 x17_1).f1).length c285_1, .slice none 0 0]) ?_ 2 _ rfl; (with_reducible repeat first | apply blk_drewN | apply blk_drew | apply blk_alloc); refine blk_put (cs := #[.int .i64 ((rd_T27 l1 x17_1).f0), .slice none 0 0, .slice none 0 0]) ?_ 1 _ rfl; (with_reducible repeat first | apply blk_drewN | apply blk_drew | apply blk_alloc); refine blk_put (cs := #[.int .i64 0, .slice none 0 0, .slice none 0 0]) ?_ 0 _ rfl; (with_reducible repeat first | apply blk_drewN | apply blk_drew | apply blk_alloc); exact BK286.out) hb); replace HB := am (below_step (by repeat (first | (with_reducible first | exact HB.out | apply below_alloc | apply pw_below_drewN | apply below_drew1 | refine below_set ?_ GE284.out | refine below_set ?_ GE286.out) | exact HB.out)) hb); (try clear hb); (try clear hb2); (try clear hk); (try clear hi)))
         go_roundg k1
         case measure => have := HK1.out; omega
         case rel => exact ⟨(wrap64 (x17_1 + 1)), ar, H', ⟨by have := HK1.out; omega⟩, ⟨by exact HB.out⟩⟩
        ·
         replace c10 := Bool.eq_false_iff.mpr c10; subst c10; have H1 : (some false) = some r := by rw [if_neg (show ¬ (false = true) by decide)] at H; exact H
         clear H; have H := H1; clear H1; obtain rfl := Option.some.inj H; have p283 : 0 ≤ (x17_1 : Int) := od; have q283 : x17_1 < (l0.length : Int) := od; obtain ⟨ad283, A283_1, c283_1, A283_2, c283_2, e283, hx283_0, hx283_1, hx283_2, hl283_1, hi283_1, hl283_2, hi283_2⟩ := at_T27 HR0.out x17_1 p283 q283
         cases e283
         replace hx283_0 := (HB.out.cell (World.block_lt_of_cell? w _ hx283_0)).trans hx283_0; replace hx283_1 := (HB.out.cell (World.block_lt_of_cell? w _ hx283_1)).trans hx283_1; replace hx283_2 := (HB.out.cell (World.block_lt_of_cell? w _ hx283_2)).trans hx283_2; have HR283_1 := am hi283_1; have HC283_1 := am hl283_1; clear hi283_1 hl283_1; have HR283_2 := am hi283_2; have HC283_2 := am hl283_2; clear hi283_2 hl283_2; replace p283 := eq_true p283; replace q283 := eq_true q283
         go_wp2_with (first | ((with_reducible refine gate_dst (N := 8) rfl ?_); refine box_event ?hg (N := 8) ?hd (cs := #[.int .i64 0, .slice none 0 0, .slice none 0 0]) (t := 27) ?hr ?_; (case hd => rfl); (case hg => rfl); (case hr => first | (go_simp; done) | (go_simp; rfl)); intro gb284 hg w18 hbox hb; have BK284 := am (hbox); have GW284 := am ((by rw [hg]; exact (below_size HB.out) : w.heap.size ≤ gb284)); have GE284 := am ((by rw [hg]; exact (below_size HB.out) : w.heap.size ≤ gb284)); replace HB := bs HB hb; clear hb hbox hg; obtain ⟨hcz19_0, hcz19_1, hcz19_2, hfz19_0, hfz19_1, hfz19_2⟩ := blkC3 BK284.out; have p285 : 0 ≤ (x17_1 : Int) := od; have q285 : x17_1 < (l1.length : Int) := od; obtain ⟨ad285, A285_1, c285_1, A285_2, c285_2, e285, hx285_0, hx285_1, hx285_2, hl285_1, hi285_1, hl285_2, hi285_2⟩ := at_T27 HR1.out x17_1 p285 q285; cases e285; have hn285_0 : ad285.block ≠ gb284 := Nat.ne_of_lt (Nat.lt_of_lt_of_le (by have := World.block_lt_of_cell? _ _ hx285_0; first | rwa [add_block] at this | exact this) GW284.out); have hn285_1 : ad285.block ≠ gb284 := Nat.ne_of_lt (Nat.lt_of_lt_of_le (by have := World.block_lt_of_cell? _ _ hx285_0; first | rwa [add_block] at this | exact this) GW284.out); have hn285_2 : ad285.block ≠ gb284 := Nat.ne_of_lt (Nat.lt_of_lt_of_le (by have := World.block_lt_of_cell? _ _ hx285_0; first | rwa [add_block] at this | exact this) GW284.out); replace hx285_0 := (HB.out.cell (World.block_lt_of_cell? w _ hx285_0)).trans hx285_0; replace hx285_1 := (HB.out.cell (World.block_lt_of_cell? w _ hx285_1)).trans hx285_1; replace hx285_2 := (HB.out.cell (World.block_lt_of_cell? w _ hx285_2)).trans hx285_2; have HR285_1 := am hi285_1; have HC285_1 := am hl285_1; clear hi285_1 hl285_1; have HR285_2 := am hi285_2; have HC285_2 := am hl285_2; clear hi285_2 hl285_2; replace hx285_0 := (cell_far (p := ⟨gb284, 0, none⟩) (by first | (rw [add_block]; exact hn285_0) | (show (Addr.add _ _).block ≠ _; rw [add_block]; exact hn285_0) | exact hn285_0) (.int .i64 ((rd_T27 l0 x17_1).f0))).trans hx285_0; replace hx285_1 := (cell_far (p := ⟨gb284, 0, none⟩) (by first | (rw [add_block]; exact hn285_0) | (show (Addr.add _ _).block ≠ _; rw [add_block]; exact hn285_0) | exact hn285_0) (.int .i64 ((rd_T27 l0 x17_1).f0))).trans hx285_1; replace hx285_2 := (cell_far (p := ⟨gb284, 0, none⟩) (by first | (rw [add_block]; exact hn285_0) | (show (Addr.add _ _).block ≠ _; rw [add_block]; exact hn285_0) | exact hn285_0) (.int .i64 ((rd_T27 l0 x17_1).f0))).trans hx285_2; replace hx285_0 := (cell_far (p := ⟨gb284, 1, none⟩) (by first | (rw [add_block]; exact hn285_1) | (show (Addr.add _ _).block ≠ _; rw [add_block]; exact hn285_1) | exact hn285_1) (.slice A283_1 ((rd_T27 l0 x17_1).f1).length c283_1)).trans hx285_0; replace hx285_1 := (cell_far (p := ⟨gb284, 1, none⟩) (by first | (rw [add_block]; exact hn285_1) | (show (Addr.add _ _).block ≠ _; rw [add_block]; exact hn285_1) | exact hn285_1) (.slice A283_1 ((rd_T27 l0 x17_1).f1).length c283_1)).trans hx285_1; replace hx285_2 := (cell_far (p := ⟨gb284, 1, none⟩) (by first | (rw [add_block]; exact hn285_1) | (show (Addr.add _ _).block ≠ _; rw [add_block]; exact hn285_1) | exact hn285_1) (.slice A283_1 ((rd_T27 l0 x17_1).f1).length c283_1)).trans hx285_2; replace hx285_0 := (cell_far (p := ⟨gb284, 2, none⟩) (by first | (rw [add_block]; exact hn285_2) | (show (Addr.add _ _).block ≠ _; rw [add_block]; exact hn285_2) | exact hn285_2) (.slice A283_2 ((rd_T27 l0 x17_1).f2).length c283_2)).trans hx285_0; replace hx285_1 := (cell_far (p := ⟨gb284, 2, none⟩) (by first | (rw [add_block]; exact hn285_2) | (show (Addr.add _ _).block ≠ _; rw [add_block]; exact hn285_2) | exact hn285_2) (.slice A283_2 ((rd_T27 l0 x17_1).f2).length c283_2)).trans hx285_1; replace hx285_2 := (cell_far (p := ⟨gb284, 2, none⟩) (by first | (rw [add_block]; exact hn285_2) | (show (Addr.add _ _).block ≠ _; rw [add_block]; exact hn285_2) | exact hn285_2) (.slice A283_2 ((rd_T27 l0 x17_1).f2).length c283_2)).trans hx285_2; clear hn285_0; clear hn285_1; clear hn285_2; replace p285 := eq_true p285; replace q285 := eq_true q285) | ((with_reducible refine gate_dst (N := 9) rfl ?_); refine box_event ?hg (N := 9) ?hd (cs := #[.int .i64 0, .slice none 0 0, .slice none 0 0]) (t := 27) ?hr ?_; (case hd => rfl); (case hg => rfl); (case hr => first | (go_simp; done) | (go_simp; rfl)); intro gb286 hg w20 hbox hb; have BK286 := am (hbox); have GW286 := am ((by rw [hg]; exact (below_size (by repeat (first | (with_reducible first | exact HB.out | apply below_alloc | apply pw_below_drewN | apply below_drew1 | refine below_set ?_ GE284.out) | exact HB.out))) : w.heap.size ≤ gb286)); have GE286 := am ((by rw [hg]; exact (below_size (by repeat (first | (with_reducible first | exact HB.out | apply below_alloc | apply pw_below_drewN | apply below_drew1 | refine below_set ?_ GE284.out) | exact HB.out))) : w.heap.size ≤ gb286)); replace HB := am (below_step (by repeat (first | (with_reducible first | exact HB.out | apply below_alloc | apply pw_below_drewN | apply below_drew1 | refine below_set ?_ GE284.out) | exact HB.out)) hb); have NB284_286 := am ((by rw [hg]; exact Nat.ne_of_lt (blk_lt (g := gb284) (o := .cells #[.int .i64 ((rd_T27 l0 x17_1).f0), .slice A283_1 ((rd_T27 l0 x17_1).f1).length c283_1, .slice A283_2 ((rd_T27 l0 x17_1).f2).length c283_2] 27 (0, 0)) (by (with_reducible repeat first | apply blk_drewN | apply blk_drew | apply blk_alloc); refine blk_put (cs := #[.int .i64 ((rd_T27 l0 x17_1).f0), .slice A283_1 ((rd_T27 l0 x17_1).f1).length c283_1, .slice none 0 0]) ?_ 2 _ rfl; (with_reducible repeat first | apply blk_drewN | apply blk_drew | apply blk_alloc); refine blk_put (cs := #[.int .i64 ((rd_T27 l0 x17_1).f0), .slice none 0 0, .slice none 0 0]) ?_ 1 _ rfl; (with_reducible repeat first | apply blk_drewN | apply blk_drew | apply blk_alloc); refine blk_put (cs := #[.int .i64 0, .slice none 0 0, .slice none 0 0]) ?_ 0 _ rfl; (with_reducible repeat first | apply blk_drewN | apply blk_drew | apply blk_alloc); exact BK284.out)) : gb284 ≠ gb286)); have NB286_284 := am ((by rw [hg]; exact Nat.ne_of_gt (blk_lt (g := gb284) (o := .cells #[.int .i64 ((rd_T27 l0 x17_1).f0), .slice A283_1 ((rd_T27 l0 x17_1).f1).length c283_1, .slice A283_2 ((rd_T27 l0 x17_1).f2).length c283_2] 27 (0, 0)) (by (with_reducible repeat first | apply blk_drewN | apply blk_drew | apply blk_alloc); refine blk_put (cs := #[.int .i64 ((rd_T27 l0 x17_1).f0), .slice A283_1 ((rd_T27 l0 x17_1).f1).length c283_1, .slice none 0 0]) ?_ 2 _ rfl; (with_reducible repeat first | apply blk_drewN | apply blk_drew | apply blk_alloc); refine blk_put (cs := #[.int .i64 ((rd_T27 l0 x17_1).f0), .slice none 0 0, .slice none 0 0]) ?_ 1 _ rfl; (with_reducible repeat first | apply blk_drewN | apply blk_drew | apply blk_alloc); refine blk_put (cs := #[.int .i64 0, .slice none 0 0, .slice none 0 0]) ?_ 0 _ rfl; (with_reducible repeat first | apply blk_drewN | apply blk_drew | apply blk_alloc); exact BK284.out)) : gb286 ≠ gb284)); replace BK284 := am (blk_below (g := gb284) (o := .cells #[.int .i64 ((rd_T27 l0 x17_1).f0), .slice A283_1 ((rd_T27 l0 x17_1).f1).length c283_1, .slice A283_2 ((rd_T27 l0 x17_1).f2).length c283_2] 27 (0, 0)) (by (with_reducible repeat first | apply blk_drewN | apply blk_drew | apply blk_alloc); refine blk_put (cs := #[.int .i64 ((rd_T27 l0 x17_1).f0), .slice A283_1 ((rd_T27 l0 x17_1).f1).length c283_1, .slice none 0 0]) ?_ 2 _ rfl; (with_reducible repeat first | apply blk_drewN | apply blk_drew | apply blk_alloc); refine blk_put (cs := #[.int .i64 ((rd_T27 l0 x17_1).f0), .slice none 0 0, .slice none 0 0]) ?_ 1 _ rfl; (with_reducible repeat first | apply blk_drewN | apply blk_drew | apply blk_alloc); refine blk_put (cs := #[.int .i64 0, .slice none 0 0, .slice none 0 0]) ?_ 0 _ rfl; (with_reducible repeat first | apply blk_drewN | apply blk_drew | apply blk_alloc); exact BK284.out) hb); clear hb hbox hg; have hnb21 := NB286_284.out; have hnc21 := NB284_286.out; obtain ⟨hcz22_0, hcz22_1, hcz22_2, hfz22_0, hfz22_1, hfz22_2⟩ := blkC3 BK286.out; have hcz23_0 : w20.cell? ⟨gb284, 0, none⟩ = some (.int .i64 ((rd_T27 l0 x17_1).f0)) := (blk_cell BK284.out 0).trans rfl; have hcz23_1 : w20.cell? ⟨gb284, 1, none⟩ = some (.slice A283_1 ((rd_T27 l0 x17_1).f1).length c283_1) := (blk_cell BK284.out 1).trans rfl; have hcz23_2 : w20.cell? ⟨gb284, 2, none⟩ = some (.slice A283_2 ((rd_T27 l0 x17_1).f2).length c283_2) := (blk_cell BK284.out 2).trans rfl; have hfz23_0 := blk_frozen BK284.out 0; have hfz23_1 := blk_frozen BK284.out 1; have hfz23_2 := blk_frozen BK284.out 2) | ((with_reducible refine gate_via (f := 21) (i := 26) rfl rfl ?_); refine goesV_ (some 29) rfl rfl Try.func21 (by kernel_rfl) rfl #[.agg #[.int .i64 ((rd_T27 l0 x17_1).f0), .slice A283_1 ((rd_T27 l0 x17_1).f1).length c283_1, .slice A283_2 ((rd_T27 l0 x17_1).f2).length c283_2], .agg #[.int .i64 ((rd_T27 l1 x17_1).f0), .slice A285_1 ((rd_T27 l1 x17_1).f1).length c285_1, .slice A285_2 ((rd_T27 l1 x17_1).f2).length c285_2]] (s := .tmp 26) rfl rfl ax ?_; (with_reducible refine (ihS.out k1 (by have := HK1.out; omega) ((rd_T27 l0 x17_1).f0) _ _ ((rd_T27 l0 x17_1).f1) _ _ ((rd_T27 l0 x17_1).f2) ((rd_T27 l1 x17_1).f0) _ _ ((rd_T27 l1 x17_1).f1) _ _ ((rd_T27 l1 x17_1).f2) false _ ?side1 ?side2 ?side3 ?side4 ?side5 ?side6 ?side7 ?side8 A9.out).mono ?_); (case side1 => exact Kd.C_below HR283_1.out (by repeat (first | (with_reducible first | exact HB.out | apply below_alloc | apply pw_below_drewN | apply below_drew1 | refine below_set ?_ GE284.out | refine below_set ?_ GE286.out) | exact HB.out))); (case side2 => exact HC283_1.out); (case side3 => exact Kd.C_below HR283_2.out (by repeat (first | (with_reducible first | exact HB.out | apply below_alloc | apply pw_below_drewN | apply below_drew1 | refine below_set ?_ GE284.out | refine below_set ?_ GE286.out) | exact HB.out))); (case side4 => exact HC283_2.out); (case side5 => exact Kd.C_below HR285_1.out (by repeat (first | (with_reducible first | exact HB.out | apply below_alloc | apply pw_below_drewN | apply below_drew1 | refine below_set ?_ GE284.out | refine below_set ?_ GE286.out) | exact HB.out))); (case side6 => exact HC285_1.out); (case side7 => exact Kd.C_below HR285_2.out (by repeat (first | (with_reducible first | exact HB.out | apply below_alloc | apply pw_below_drewN | apply below_drew1 | refine below_set ?_ GE284.out | refine below_set ?_ GE286.out) | exact HB.out))); (case side8 => exact HC285_2.out); rintro e w24 ⟨rfl, hb⟩; refine ⟨_, rfl, ?_⟩; replace BK284 := am (blk_below (g := gb284) (o := .cells #[.int .i64 ((rd_T27 l0 x17_1).f0), .slice A283_1 ((rd_T27 l0 x17_1).f1).length c283_1, .slice A283_2 ((rd_T27 l0 x17_1).f2).length c283_2] 27 (0, 0)) (by (with_reducible repeat first | apply blk_drewN | apply blk_drew | apply blk_alloc); refine blk_far ?_ NB284_286.out _; (with_reducible repeat first | apply blk_drewN | apply blk_drew | apply blk_alloc); refine blk_far ?_ NB284_286.out _; (with_reducible repeat first | apply blk_drewN | apply blk_drew | apply blk_alloc); refine blk_far ?_ NB284_286.out _; (with_reducible repeat first | apply blk_drewN | apply blk_drew | apply blk_alloc); exact BK284.out) hb); replace BK286 := am (blk_below (g := gb286) (o := .cells #[.int .i64 ((rd_T27 l1 x17_1).f0), .slice A285_1 ((rd_T27 l1 x17_1).f1).length c285_1, .slice A285_2 ((rd_T27 l1 x17_1).f2).length c285_2] 27 (0, 0)) (by (with_reducible repeat first | apply blk_drewN | apply blk_drew | apply blk_alloc); refine blk_put (cs := #[.int .i64 ((rd_T27 l1 x17_1).f0), .slice A285_1 ((rd_T27 l1 x17_1).f1).length c285_1, .slice none 0 0]) ?_ 2 _ rfl; (with_reducible repeat first | apply blk_drewN | apply blk_drew | apply blk_alloc); refine blk_put (cs := #[.int .i64 ((rd_T27 l1 x17_1).f0), .slice none 0 0, .slice none 0 0]) ?_ 1 _ rfl; (with_reducible repeat first | apply blk_drewN | apply blk_drew | apply blk_alloc); refine blk_put (cs := #[.int .i64 0, .slice none 0 0, .slice none 0 0]) ?_ 0 _ rfl; (with_reducible repeat first | apply blk_drewN | apply blk_drew | apply blk_alloc); exact BK286.out) hb); replace HB := am (below_step (by repeat (first | (with_reducible first | exact HB.out | apply below_alloc | apply pw_below_drewN | apply below_drew1 | refine below_set ?_ GE284.out | refine below_set ?_ GE286.out) | exact HB.out)) hb); (try clear hb); (try clear hb2); (try clear hk); (try clear hi)))
         go_ret
         exact ⟨er, by exact HB.out⟩
       ·
        rw [if_neg c8] at H; exact absurd H (by simp)
      ·
       rw [if_neg c7] at H; exact absurd H (by simp)
     ·
      rw [if_neg c6] at H; exact absurd H (by simp)
    ·
     rw [if_neg c5] at H; have c5b0 : decide (x17_1 < (l0.length : Int)) = false := decide_eq_false c5; clear c5; obtain rfl := Option.some.inj H
     go_wp2
     go_ret
     exact ⟨er, by exact HB.out⟩
 ·
  rw [if_neg c4] at H; have c4b0 : ((l0.length : Int) == (l1.length : Int)) = false := beq_eq_false_iff_ne.mpr c4; have c4b1 : ((l0.length : Int) != (l1.length : Int)) = true := bne_iff_ne.mpr c4; have c4b2 : (l0.length == l1.length) = false := by first | simpa using c4 | (simp at c4 ⊢; omega)
  obtain rfl := Option.some.inj H
  go_enter Try.func40, Try.ntmps40
  go_wp2
  go_ret
  exact ⟨er, by exact HB.out⟩

/-! ### threshold_Same -/
set_option maxHeartbeats 8000000 in
set_option maxRecDepth 100000 in
theorem threshold_Same.calls (k : Nat) : ∀ (a0_0 : Int) (A0_1 : Option Addr) (c0_1 : Nat) (l0_1 : List Int) (A0_2 : Option Addr) (c0_2 : Nat) (l0_2 : List (S27)) (a1_0 : Int) (A1_1 : Option Addr) (c1_1 : Nat) (l1_1 : List Int) (A1_2 : Option Addr) (c1_2 : Nat) (l1_2 : List (S27)) (r : Bool) (w : World) (hr0_1 : Kd.C (Kd.int .i64) w A0_1 l0_1.length l0_1) (hc0_1 : l0_1.length ≤ c0_1) (hr0_2 : Kd.C k27 w A0_2 l0_2.length l0_2) (hc0_2 : l0_2.length ≤ c0_2) (hr1_1 : Kd.C (Kd.int .i64) w A1_1 l1_1.length l1_1) (hc1_1 : l1_1.length ≤ c1_1) (hr1_2 : Kd.C k27 w A1_2 l1_2.length l1_2) (hc1_2 : l1_2.length ≤ c1_2) (h : threshold_Same.f k a0_0 l0_1 l0_2 a1_0 l1_1 l1_2 = some r),
    Calls Try.prog 21 #[.agg #[.int .i64 a0_0, .slice A0_1 l0_1.length c0_1, .slice A0_2 l0_2.length c0_2], .agg #[.int .i64 a1_0, .slice A1_1 l1_1.length c1_1, .slice A1_2 l1_2.length c1_2]] w fun e w' => e = .returned (.bool r) ∧ Below w.heap.size w w' := by
 induction k using Nat.strongRecOn with
 | _ k ih =>
 intro a0_0 A0_1 c0_1 l0_1 A0_2 c0_2 l0_2 a1_0 A1_1 c1_1 l1_1 A1_2 c1_2 l1_2 r w hr0_1 hc0_1 hr0_2 hc0_2 hr1_1 hc1_1 hr1_2 hc1_2 h
 cases k with
 | zero => exact absurd h (by simp [threshold_Same.f])
 | succ k =>
 simp only [threshold_Same.f] at h; have hu27 := Try.underlying27; have HR0_1 := am hr0_1; have HC0_1 := am hc0_1; clear hr0_1 hc0_1; have HR0_2 := am hr0_2; have HC0_2 := am hc0_2; clear hr0_2 hc0_2; have HR1_1 := am hr1_1; have HC1_1 := am hc1_1; clear hr1_1 hc1_1; have HR1_2 := am hr1_2; have HC1_2 := am hc1_2; clear hr1_2 hc1_2; have HB := am (Below.refl w.heap.size w); have H : (if a0_0 = a1_0 then ((slices_Equal_int_int.f k l0_1 l1_1).bind fun t290 => (if t290 = true then ((api_Trust__on_21.f k l0_2 l1_2).bind fun t291 => (some t291)) else (some false))) else (some false)) = some r := h; clear h
 by_cases c3 : a0_0 = a1_0
 ·
  rw [if_pos c3] at H; have c3b0 : (a0_0 == a1_0) = true := beq_iff_eq.mpr c3; have c3b1 : (a0_0 != a1_0) = false := bne_eq_false_iff_eq.mpr c3; clear c3; replace H := Option.bind_eq_some_iff.mp H; obtain ⟨t290, A40, H⟩ := H; replace H : (if t290 = true then ((api_Trust__on_21.f k l0_2 l1_2).bind fun t291 => (some t291)) else (some false)) = some r := H; have A4 := am A40; clear A40
  by_cases c5 : t290 = true
  ·
   subst c5; have H1 : ((api_Trust__on_21.f k l0_2 l1_2).bind fun t291 => (some t291)) = some r := by rw [if_pos rfl] at H; exact H
   clear H; have H := H1; clear H1; replace H := Option.bind_eq_some_iff.mp H; obtain ⟨t291, A60, H⟩ := H; replace H : (some t291) = some r := H; have A6 := am A60; clear A60; obtain rfl := Option.some.inj H
   go_enter Try.func21, Try.ntmps21
   go_wp2_with (first | ((with_reducible refine gate_dst (N := 2) rfl ?_); refine box_event ?hg (N := 2) ?hd (cs := #[.int .i64 a0_0, .slice A0_1 l0_1.length c0_1, .slice A0_2 l0_2.length c0_2]) (t := 27) ?hr ?_; (case hd => rfl); (case hg => rfl); (case hr => first | (go_simp; done) | (go_simp; rfl)); intro gb288 hg w7 hbox hb; have BK288 := am (hbox); have GW288 := am ((by rw [hg]; exact (below_size HB.out) : w.heap.size ≤ gb288)); have GE288 := am ((by rw [hg]; exact (below_size HB.out) : w.heap.size ≤ gb288)); replace HB := bs HB hb; clear hb hbox hg) | ((with_reducible refine gate_dst (N := 3) rfl ?_); refine box_event ?hg (N := 3) ?hd (cs := #[.int .i64 a1_0, .slice A1_1 l1_1.length c1_1, .slice A1_2 l1_2.length c1_2]) (t := 27) ?hr ?_; (case hd => rfl); (case hg => rfl); (case hr => first | (go_simp; done) | (go_simp; rfl)); intro gb289 hg w8 hbox hb; have BK289 := am (hbox); have GW289 := am ((by rw [hg]; exact (below_size HB.out) : w.heap.size ≤ gb289)); have GE289 := am ((by rw [hg]; exact (below_size HB.out) : w.heap.size ≤ gb289)); replace HB := bs HB hb; have NB288_289 := am ((by rw [hg]; exact Nat.ne_of_lt (blk_lt BK288.out) : gb288 ≠ gb289)); have NB289_288 := am ((by rw [hg]; exact Nat.ne_of_gt (blk_lt BK288.out) : gb289 ≠ gb288)); replace BK288 := bb BK288 hb; clear hb hbox hg; have hnb9 := NB288_289.out; have hnc9 := NB289_288.out; obtain ⟨hcz10_0, hcz10_1, hcz10_2, hfz10_0, hfz10_1, hfz10_2⟩ := blkC3 BK288.out; obtain ⟨hcz11_0, hcz11_1, hcz11_2, hfz11_0, hfz11_1, hfz11_2⟩ := blkC3 BK289.out) | (go_at_call 39; (with_reducible refine (slices_Equal_int_int.calls k _ _ l0_1 _ _ l1_1 true _ ?side1 ?side2 ?side3 ?side4 A4.out).mono ?_); (case side1 => exact (Kd.C_below HR0_1.out HB.out)); (case side2 => exact HC0_1.out); (case side3 => exact (Kd.C_below HR1_1.out HB.out)); (case side4 => exact HC1_1.out); rintro e w' ⟨rfl, ⟨nd, rfl⟩⟩) | (go_at_call 40; (with_reducible refine (api_Trust__on_21.calls k ⟨fun kk hk => ih kk (by omega)⟩ _ _ l0_2 _ _ l1_2  t291 _ ?side1 ?side2 ?side3 ?side4 A6.out).mono ?_); (case side1 => repeat (first | exact (Kd.C_below HR0_2.out (by repeat (first | (with_reducible first | exact HB.out | apply below_alloc | apply pw_below_drewN | apply below_drew1 | refine below_set ?_ GE288.out | refine below_set ?_ GE289.out) | exact HB.out))) | (with_reducible refine Kd.C_alloc ?_ _) | (with_reducible refine Kd.C_drewN ?_ _) | (with_reducible refine Kd.C_drew ?_))); (case side2 => exact HC0_2.out); (case side3 => repeat (first | exact (Kd.C_below HR1_2.out (by repeat (first | (with_reducible first | exact HB.out | apply below_alloc | apply pw_below_drewN | apply below_drew1 | refine below_set ?_ GE288.out | refine below_set ?_ GE289.out) | exact HB.out))) | (with_reducible refine Kd.C_alloc ?_ _) | (with_reducible refine Kd.C_drewN ?_ _) | (with_reducible refine Kd.C_drew ?_))); (case side4 => exact HC1_2.out); rintro e w12 ⟨rfl, hb⟩; replace BK288 := am (blk_below (g := gb288) (o := .cells #[.int .i64 a0_0, .slice A0_1 l0_1.length c0_1, .slice A0_2 l0_2.length c0_2] 27 (0, 0)) (by (with_reducible repeat first | apply blk_drewN | apply blk_drew | apply blk_alloc); exact BK288.out) hb); replace BK289 := am (blk_below (g := gb289) (o := .cells #[.int .i64 a1_0, .slice A1_1 l1_1.length c1_1, .slice A1_2 l1_2.length c1_2] 27 (0, 0)) (by (with_reducible repeat first | apply blk_drewN | apply blk_drew | apply blk_alloc); exact BK289.out) hb); replace HB := am (below_step (by repeat (first | (with_reducible first | exact HB.out | apply below_alloc | apply pw_below_drewN | apply below_drew1 | refine below_set ?_ GE288.out | refine below_set ?_ GE289.out) | exact HB.out)) hb); (try clear hb); (try clear hb2); (try clear hk); (try clear hi)))
   go_ret
   exact ⟨er, by exact HB.out⟩
  ·
   replace c5 := Bool.eq_false_iff.mpr c5; subst c5; have H1 : (some false) = some r := by rw [if_neg (show ¬ (false = true) by decide)] at H; exact H
   clear H; have H := H1; clear H1; obtain rfl := Option.some.inj H
   go_enter Try.func21, Try.ntmps21
   go_wp2_with (first | ((with_reducible refine gate_dst (N := 2) rfl ?_); refine box_event ?hg (N := 2) ?hd (cs := #[.int .i64 a0_0, .slice A0_1 l0_1.length c0_1, .slice A0_2 l0_2.length c0_2]) (t := 27) ?hr ?_; (case hd => rfl); (case hg => rfl); (case hr => first | (go_simp; done) | (go_simp; rfl)); intro gb288 hg w13 hbox hb; have BK288 := am (hbox); have GW288 := am ((by rw [hg]; exact (below_size HB.out) : w.heap.size ≤ gb288)); have GE288 := am ((by rw [hg]; exact (below_size HB.out) : w.heap.size ≤ gb288)); replace HB := bs HB hb; clear hb hbox hg) | ((with_reducible refine gate_dst (N := 3) rfl ?_); refine box_event ?hg (N := 3) ?hd (cs := #[.int .i64 a1_0, .slice A1_1 l1_1.length c1_1, .slice A1_2 l1_2.length c1_2]) (t := 27) ?hr ?_; (case hd => rfl); (case hg => rfl); (case hr => first | (go_simp; done) | (go_simp; rfl)); intro gb289 hg w14 hbox hb; have BK289 := am (hbox); have GW289 := am ((by rw [hg]; exact (below_size HB.out) : w.heap.size ≤ gb289)); have GE289 := am ((by rw [hg]; exact (below_size HB.out) : w.heap.size ≤ gb289)); replace HB := bs HB hb; have NB288_289 := am ((by rw [hg]; exact Nat.ne_of_lt (blk_lt BK288.out) : gb288 ≠ gb289)); have NB289_288 := am ((by rw [hg]; exact Nat.ne_of_gt (blk_lt BK288.out) : gb289 ≠ gb288)); replace BK288 := bb BK288 hb; clear hb hbox hg; have hnb15 := NB288_289.out; have hnc15 := NB289_288.out; obtain ⟨hcz16_0, hcz16_1, hcz16_2, hfz16_0, hfz16_1, hfz16_2⟩ := blkC3 BK288.out; obtain ⟨hcz17_0, hcz17_1, hcz17_2, hfz17_0, hfz17_1, hfz17_2⟩ := blkC3 BK289.out) | (go_at_call 39; (with_reducible refine (slices_Equal_int_int.calls k _ _ l0_1 _ _ l1_1 false _ ?side1 ?side2 ?side3 ?side4 A4.out).mono ?_); (case side1 => exact (Kd.C_below HR0_1.out HB.out)); (case side2 => exact HC0_1.out); (case side3 => exact (Kd.C_below HR1_1.out HB.out)); (case side4 => exact HC1_1.out); rintro e w' ⟨rfl, ⟨nd, rfl⟩⟩))
   go_ret
   exact ⟨er, by repeat (first | (with_reducible first | exact HB.out | apply below_alloc | apply pw_below_drewN | apply below_drew1 | refine below_set ?_ GE288.out | refine below_set ?_ GE289.out) | exact HB.out)⟩
 ·
  rw [if_neg c3] at H; have c3b0 : (a0_0 == a1_0) = false := beq_eq_false_iff_ne.mpr c3; have c3b1 : (a0_0 != a1_0) = true := bne_iff_ne.mpr c3; obtain rfl := Option.some.inj H
  go_enter Try.func21, Try.ntmps21
  go_wp2_with (first | ((with_reducible refine gate_dst (N := 2) rfl ?_); refine box_event ?hg (N := 2) ?hd (cs := #[.int .i64 a0_0, .slice A0_1 l0_1.length c0_1, .slice A0_2 l0_2.length c0_2]) (t := 27) ?hr ?_; (case hd => rfl); (case hg => rfl); (case hr => first | (go_simp; done) | (go_simp; rfl)); intro gb288 hg w18 hbox hb; have BK288 := am (hbox); have GW288 := am ((by rw [hg]; exact (below_size HB.out) : w.heap.size ≤ gb288)); have GE288 := am ((by rw [hg]; exact (below_size HB.out) : w.heap.size ≤ gb288)); replace HB := bs HB hb; clear hb hbox hg) | ((with_reducible refine gate_dst (N := 3) rfl ?_); refine box_event ?hg (N := 3) ?hd (cs := #[.int .i64 a1_0, .slice A1_1 l1_1.length c1_1, .slice A1_2 l1_2.length c1_2]) (t := 27) ?hr ?_; (case hd => rfl); (case hg => rfl); (case hr => first | (go_simp; done) | (go_simp; rfl)); intro gb289 hg w19 hbox hb; have BK289 := am (hbox); have GW289 := am ((by rw [hg]; exact (below_size HB.out) : w.heap.size ≤ gb289)); have GE289 := am ((by rw [hg]; exact (below_size HB.out) : w.heap.size ≤ gb289)); replace HB := bs HB hb; have NB288_289 := am ((by rw [hg]; exact Nat.ne_of_lt (blk_lt BK288.out) : gb288 ≠ gb289)); have NB289_288 := am ((by rw [hg]; exact Nat.ne_of_gt (blk_lt BK288.out) : gb289 ≠ gb288)); replace BK288 := bb BK288 hb; clear hb hbox hg; have hnb20 := NB288_289.out; have hnc20 := NB289_288.out; obtain ⟨hcz21_0, hcz21_1, hcz21_2, hfz21_0, hfz21_1, hfz21_2⟩ := blkC3 BK288.out; obtain ⟨hcz22_0, hcz22_1, hcz22_2, hfz22_0, hfz22_1, hfz22_2⟩ := blkC3 BK289.out))
  go_ret
  exact ⟨er, by exact HB.out⟩
/-! ### trustquorummake_entries: function 41 -/
mutual
def trustquorummake_entries.l0 : Nat → Int → Int → Int → List Int → List (S27) → Option (Int)
  | 0, _, _, _, _, _ => none
  | k + 1, x1, x5, x293000, x293001, x293002 => if x5 < (x293002.length : Int) then (if x1 ≤ 400 then (if 0 ≤ x5 then ((trustquorummake_entries.f k ((rd_T27 x293002 x5).f0) ((rd_T27 x293002 x5).f1) ((rd_T27 x293002 x5).f2) x1).bind fun t294 => (trustquorummake_entries.l0 k t294 (wrap64 (x5 + 1)) x293000 x293001 x293002)) else (none)) else (some x1)) else (some x1)
def trustquorummake_entries.f : Nat → Int → List Int → List (S27) → Int → Option (Int)
  | 0, _, _, _, _ => none
  | k + 1, a0_0, l0_1, l0_2, a1 => trustquorummake_entries.l0 k (wrap64 (a1 + (wrap64 (1 + (l0_1.length : Int))))) 0 a0_0 l0_1 l0_2
end
theorem trustquorummake_entries.mono_l : ∀ k, (∀ y0 y1 y2 y3, LeO (trustquorummake_entries.f k y0 y1 y2 y3) (trustquorummake_entries.f (k + 1) y0 y1 y2 y3)) ∧ (∀ y0 y1 y2 y3 y4, LeO (trustquorummake_entries.l0 k y0 y1 y2 y3 y4) (trustquorummake_entries.l0 (k + 1) y0 y1 y2 y3 y4))
  | 0 => ⟨fun _ _ _ _ r h => by simp [trustquorummake_entries.f] at h, fun _ _ _ _ _ r h => by simp [trustquorummake_entries.l0] at h⟩
  | k + 1 => by
    obtain ⟨ih0, ih1⟩ := trustquorummake_entries.mono_l k
    refine ⟨?_, ?_⟩
    · intro y0 y1 y2 y3
      unfold trustquorummake_entries.f
      repeat' first
      | (with_reducible exact ih0 _ _ _ _)
      | (with_reducible exact ih1 _ _ _ _ _)
      | (with_reducible exact LeO.refl _)
      | (with_reducible exact LeO.none _)
      | (with_reducible refine LeO.ite ?_ ?_)
      | (with_reducible refine LeO.bind ?_ (fun _ => ?_))
      | exact ih0 _ _ _ _
      | exact ih1 _ _ _ _ _
      | exact LeO.none _
      | refine LeO.ite ?_ ?_
      | refine LeO.bind ?_ (fun _ => ?_)
    · intro y0 y1 y2 y3 y4
      unfold trustquorummake_entries.l0
      repeat' first
      | (with_reducible exact ih0 _ _ _ _)
      | (with_reducible exact ih1 _ _ _ _ _)
      | (with_reducible exact LeO.refl _)
      | (with_reducible exact LeO.none _)
      | (with_reducible refine LeO.ite ?_ ?_)
      | (with_reducible refine LeO.bind ?_ (fun _ => ?_))
      | exact ih0 _ _ _ _
      | exact ih1 _ _ _ _ _
      | exact LeO.none _
      | refine LeO.ite ?_ ?_
      | refine LeO.bind ?_ (fun _ => ?_)
theorem trustquorummake_entries.mono : ∀ a0 a1 a2 a3 k, LeO (trustquorummake_entries.f k a0 a1 a2 a3) (trustquorummake_entries.f (k + 1) a0 a1 a2 a3) := by
  intro a0 a1 a2 a3 k
  obtain ⟨ih0, ih1⟩ := trustquorummake_entries.mono_l k
  exact ih0 a0 a1 a2 a3
set_option maxHeartbeats 8000000 in
set_option maxRecDepth 100000 in
theorem trustquorummake_entries.calls (k : Nat) : ∀ (a0_0 : Int) (A0_1 : Option Addr) (c0_1 : Nat) (l0_1 : List Int) (A0_2 : Option Addr) (c0_2 : Nat) (l0_2 : List (S27)) (a1 : Int) (r : Int) (w : World) (hr0_1 : Kd.C (Kd.int .i64) w A0_1 l0_1.length l0_1) (hc0_1 : l0_1.length ≤ c0_1) (hr0_2 : Kd.C k27 w A0_2 l0_2.length l0_2) (hc0_2 : l0_2.length ≤ c0_2) (h : trustquorummake_entries.f k a0_0 l0_1 l0_2 a1 = some r),
    Calls Try.prog 41 #[.agg #[.int .i64 a0_0, .slice A0_1 l0_1.length c0_1, .slice A0_2 l0_2.length c0_2], .int .i64 a1] w fun e w' => e = .returned (.int .i64 r) ∧ Below w.heap.size w w' := by
 induction k using Nat.strongRecOn with
 | _ k ih =>
 intro a0_0 A0_1 c0_1 l0_1 A0_2 c0_2 l0_2 a1 r w hr0_1 hc0_1 hr0_2 hc0_2 h
 cases k with
 | zero => exact absurd h (by simp [trustquorummake_entries.f])
 | succ k =>
 simp only [trustquorummake_entries.f] at h; have hu27 := Try.underlying27; have HR0_1 := am hr0_1; have HC0_1 := am hc0_1; clear hr0_1 hc0_1; have HR0_2 := am hr0_2; have HC0_2 := am hc0_2; clear hr0_2 hc0_2; have HB := am (Below.refl w.heap.size w); have H : (trustquorummake_entries.l0 k (wrap64 (a1 + (wrap64 (1 + (l0_1.length : Int))))) 0 a0_0 l0_1 l0_2) = some r := h; clear h; have H' := am H; clear H
 go_enter Try.func41, Try.ntmps41
 go_wp2_with (first | ((with_reducible refine gate_dst (N := 2) rfl ?_); refine box_event ?hg (N := 2) ?hd (cs := #[.int .i64 a0_0, .slice A0_1 l0_1.length c0_1, .slice A0_2 l0_2.length c0_2]) (t := 27) ?hr ?_; (case hd => rfl); (case hg => rfl); (case hr => first | (go_simp; done) | (go_simp; rfl)); intro gb292 hg w3 hbox hb; have BK292 := am (hbox); have GW292 := am ((by rw [hg]; exact (below_size HB.out) : w.heap.size ≤ gb292)); have GE292 := am ((by rw [hg]; exact (below_size HB.out) : w.heap.size ≤ gb292)); replace HB := bs HB hb; clear hb hbox hg; obtain ⟨hcz4_0, hcz4_1, hcz4_2, hfz4_0, hfz4_1, hfz4_2⟩ := blkC3 BK292.out))
 go_loopg [1, 5] k (fun kq v1 v5 w' => ∃ (x1_1 : Int) (x5_1 : Int), v1 = .int .i64 x1_1 ∧ v5 = .int .i64 x5_1 ∧ Aside0 (trustquorummake_entries.l0 kq x1_1 x5_1 a0_0 l0_1 l0_2 = some r) ∧ Aside0 (kq ≤ k) ∧ Aside0 (w'.heap[gb292]? = some (.cells #[.int .i64 a0_0, (.slice A0_1 l0_1.length c0_1), (.slice A0_2 l0_2.length c0_2)] 27 (0, 0))) ∧ Aside0 (Below w.heap.size w w'))
 case atStart => exact ⟨(wrap64 (a1 + (wrap64 (1 + (l0_1.length : Int))))), (0), ar, ar, H', ⟨Nat.le_refl _⟩, ⟨by exact BK292.out⟩, ⟨by exact HB.out⟩⟩
 case round =>
  clear H'; (try clear p2); (try clear c4); (try clear hcz4_0 hcz4_1 hcz4_2 hfz4_0 hfz4_1 hfz4_2); obtain ⟨x1_1, x5_1, rfl, rfl, HA, HK1, BK292, HB⟩ := hrel
  cases gk with
  | zero => exact absurd HA.out (by simp [trustquorummake_entries.l0])
  | succ k1 =>
   have H := HA.out; clear HA; simp only [trustquorummake_entries.l0] at H
   by_cases c5 : x5_1 < (l0_2.length : Int)
   ·
    rw [if_pos c5] at H; have c5b0 : decide (x5_1 < (l0_2.length : Int)) = true := decide_eq_true c5; clear c5
    by_cases c6 : x1_1 ≤ 400
    ·
     rw [if_pos c6] at H; have c6b0 : decide (x1_1 ≤ 400) = true := decide_eq_true c6; clear c6
     by_cases c7 : 0 ≤ x5_1
     ·
      rw [if_pos c7] at H; have c7b0 : decide (0 ≤ x5_1) = true := decide_eq_true c7; clear c7; replace H := Option.bind_eq_some_iff.mp H; obtain ⟨t294, A80, H⟩ := H; replace H : (trustquorummake_entries.l0 k1 t294 (wrap64 (x5_1 + 1)) a0_0 l0_1 l0_2) = some r := H; have A8 := am A80; clear A80; have H' := am H; clear H; obtain ⟨hcz9_0, hcz9_1, hcz9_2, hfz9_0, hfz9_1, hfz9_2⟩ := blkC3 BK292.out; have p293 : 0 ≤ (x5_1 : Int) := od; have q293 : x5_1 < (l0_2.length : Int) := od; obtain ⟨ad293, A293_1, c293_1, A293_2, c293_2, e293, hx293_0, hx293_1, hx293_2, hl293_1, hi293_1, hl293_2, hi293_2⟩ := at_T27 HR0_2.out x5_1 p293 q293
      cases e293
      replace hx293_0 := (HB.out.cell (World.block_lt_of_cell? w _ hx293_0)).trans hx293_0; replace hx293_1 := (HB.out.cell (World.block_lt_of_cell? w _ hx293_1)).trans hx293_1; replace hx293_2 := (HB.out.cell (World.block_lt_of_cell? w _ hx293_2)).trans hx293_2; have HR293_1 := am hi293_1; have HC293_1 := am hl293_1; clear hi293_1 hl293_1; have HR293_2 := am hi293_2; have HC293_2 := am hl293_2; clear hi293_2 hl293_2; replace p293 := eq_true p293; replace q293 := eq_true q293
      go_wp2_with (first | ((with_reducible refine gate_callee (f := 41) rfl ?_); refine goesL_ (some 29) rfl rfl Try.func41 (by kernel_rfl) rfl #[.agg #[.int .i64 ((rd_T27 l0_2 x5_1).f0), .slice A293_1 ((rd_T27 l0_2 x5_1).f1).length c293_1, .slice A293_2 ((rd_T27 l0_2 x5_1).f2).length c293_2], .int .i64 x1_1] rfl ax ?_; (with_reducible refine (ih k1 (by have := HK1.out; omega) ((rd_T27 l0_2 x5_1).f0) _ _ ((rd_T27 l0_2 x5_1).f1) _ _ ((rd_T27 l0_2 x5_1).f2) x1_1 t294 _ ?side1 ?side2 ?side3 ?side4 A8.out).mono ?_); (case side1 => exact (Kd.C_below HR293_1.out HB.out)); (case side2 => exact HC293_1.out); (case side3 => exact (Kd.C_below HR293_2.out HB.out)); (case side4 => exact HC293_2.out); rintro e w10 ⟨rfl, hb⟩; refine ⟨_, rfl, ?_⟩; replace BK292 := bb BK292 hb; replace HB := bs HB hb; (try clear hb); (try clear hb2); (try clear hk); (try clear hi)))
      go_roundg k1
      case measure => have := HK1.out; omega
      case rel => exact ⟨(t294), (wrap64 (x5_1 + 1)), ar, ar, H', ⟨by have := HK1.out; omega⟩, ⟨by exact BK292.out⟩, ⟨by exact HB.out⟩⟩
     ·
      rw [if_neg c7] at H; exact absurd H (by simp)
    ·
     rw [if_neg c6] at H; have c6b0 : decide (x1_1 ≤ 400) = false := decide_eq_false c6; clear c6; obtain rfl := Option.some.inj H; obtain ⟨hcz11_0, hcz11_1, hcz11_2, hfz11_0, hfz11_1, hfz11_2⟩ := blkC3 BK292.out
     go_wp2
     go_ret
     exact ⟨er, by exact HB.out⟩
   ·
    rw [if_neg c5] at H; have c5b0 : decide (x5_1 < (l0_2.length : Int)) = false := decide_eq_false c5; clear c5; obtain rfl := Option.some.inj H; obtain ⟨hcz12_0, hcz12_1, hcz12_2, hfz12_0, hfz12_1, hfz12_2⟩ := blkC3 BK292.out
    go_wp2
    go_ret
    exact ⟨er, by exact HB.out⟩
/-! ### trustquorummake_SmallTrust: function 22 -/
def trustquorummake_SmallTrust.f (k : Nat) (a0_0 : Int) (l0_1 : List Int) (l0_2 : List (S27)) : Option (Bool) := (trustquorummake_entries.f k a0_0 l0_1 l0_2 0).bind fun t296 => (some (decide (t296 ≤ 400)))
theorem trustquorummake_SmallTrust.mono : ∀ a0 a1 a2 k, LeO (trustquorummake_SmallTrust.f k a0 a1 a2) (trustquorummake_SmallTrust.f (k + 1) a0 a1 a2) := by
  intro a0 a1 a2 k
  unfold trustquorummake_SmallTrust.f
  repeat' first
      | (with_reducible exact trustquorummake_entries.mono _ _ _ _ _)
      | (with_reducible exact LeO.refl _)
      | (with_reducible exact LeO.none _)
      | (with_reducible refine LeO.ite ?_ ?_)
      | (with_reducible refine LeO.bind ?_ (fun _ => ?_))
      | exact trustquorummake_entries.mono _ _ _ _ _
      | exact LeO.none _
      | refine LeO.ite ?_ ?_
      | refine LeO.bind ?_ (fun _ => ?_)
set_option maxHeartbeats 8000000 in
set_option maxRecDepth 100000 in
theorem trustquorummake_SmallTrust.calls (k : Nat) (a0_0 : Int) (A0_1 : Option Addr) (c0_1 : Nat) (l0_1 : List Int) (A0_2 : Option Addr) (c0_2 : Nat) (l0_2 : List (S27)) (r : Bool) (w : World) (hr0_1 : Kd.C (Kd.int .i64) w A0_1 l0_1.length l0_1) (hc0_1 : l0_1.length ≤ c0_1) (hr0_2 : Kd.C k27 w A0_2 l0_2.length l0_2) (hc0_2 : l0_2.length ≤ c0_2) (h : trustquorummake_SmallTrust.f k a0_0 l0_1 l0_2 = some r) :
    Calls Try.prog 22 #[.agg #[.int .i64 a0_0, .slice A0_1 l0_1.length c0_1, .slice A0_2 l0_2.length c0_2]] w fun e w' => e = .returned (.bool r) ∧ Below w.heap.size w w' := by
 have hu27 := Try.underlying27; have HR0_1 := am hr0_1; have HC0_1 := am hc0_1; clear hr0_1 hc0_1; have HR0_2 := am hr0_2; have HC0_2 := am hc0_2; clear hr0_2 hc0_2; have HB := am (Below.refl w.heap.size w); have H : ((trustquorummake_entries.f k a0_0 l0_1 l0_2 0).bind fun t296 => (some (decide (t296 ≤ 400)))) = some r := h; clear h; replace H := Option.bind_eq_some_iff.mp H; obtain ⟨t296, A20, H⟩ := H; replace H : (some (decide (t296 ≤ 400))) = some r := H; have A2 := am A20; clear A20; obtain rfl := Option.some.inj H
 go_enter Try.func22, Try.ntmps22
 go_wp2_with (first | ((with_reducible refine gate_dst (N := 1) rfl ?_); refine box_event ?hg (N := 1) ?hd (cs := #[.int .i64 a0_0, .slice A0_1 l0_1.length c0_1, .slice A0_2 l0_2.length c0_2]) (t := 27) ?hr ?_; (case hd => rfl); (case hg => rfl); (case hr => first | (go_simp; done) | (go_simp; rfl)); intro gb295 hg w3 hbox hb; have BK295 := am (hbox); have GW295 := am ((by rw [hg]; exact (below_size HB.out) : w.heap.size ≤ gb295)); have GE295 := am ((by rw [hg]; exact (below_size HB.out) : w.heap.size ≤ gb295)); replace HB := bs HB hb; clear hb hbox hg; obtain ⟨hcz4_0, hcz4_1, hcz4_2, hfz4_0, hfz4_1, hfz4_2⟩ := blkC3 BK295.out) | ((with_reducible refine gate_callee (f := 41) rfl ?_); refine goesL_ (some 4) rfl rfl Try.func41 (by kernel_rfl) rfl #[.agg #[.int .i64 a0_0, .slice A0_1 l0_1.length c0_1, .slice A0_2 l0_2.length c0_2], .int .i64 0] rfl ax ?_; (with_reducible refine (trustquorummake_entries.calls k a0_0 _ _ l0_1 _ _ l0_2 0 t296 _ ?side1 ?side2 ?side3 ?side4 A2.out).mono ?_); (case side1 => exact (Kd.C_below HR0_1.out HB.out)); (case side2 => exact HC0_1.out); (case side3 => exact (Kd.C_below HR0_2.out HB.out)); (case side4 => exact HC0_2.out); rintro e w5 ⟨rfl, hb⟩; refine ⟨_, rfl, ?_⟩; replace BK295 := bb BK295 hb; replace HB := bs HB hb; (try clear hb); (try clear hb2); (try clear hk); (try clear hi)))
 go_ret
 exact ⟨er, by exact HB.out⟩
end Go.Proofs.Yteljoemeogeidaa.QThresholdAnswers
