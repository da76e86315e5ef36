/- Lean functions that answer as the Go functions do which the law reaches, and proofs that the Go code comes to exactly these answers. Conditions: those that each theorem names. -/
import Derived.Test.YteljoemeogeidaaQThresholdAnswersx0
import Derived.Test.YteljoemeogeidaaQThresholdAnswersx4
namespace Go.Proofs.Yteljoemeogeidaa.QThresholdAnswers
open Go.RowKit Go.Proofs.YteljoemeogeidaaW.PrintWords Go.Proofs.YteljoemeogeidaaW.PrintLast Go.Proofs.YteljoemeogeidaaW.PrintMore
attribute [local go_sem] max2_int min2_int max_two min_two max_three min_three max_four min_four   -- for this text's walks alone
set_option linter.unusedVariables false
set_option linter.unusedSimpArgs false

/-! ### threshold_Satisfied: function 11 -/
mutual
def threshold_Satisfied.l0 : Nat → Int → Int → List Int → Int → Int → Int → List Int → List (S27) → Option (Bool)
  | 0, _, _, _, _, _, _, _, _ => none
  | k + 1, x1, x5, x14, x15, x16, x200000, x200001, x200002 => if x16 < x15 then (if 0 ≤ x16 then (if x16 < (x14.length : Int) then ((nodeset_Has.f x1 (rd x14 x16)).bind fun t202 => (if t202 = true then (threshold_Satisfied.l0 k x1 (wrap64 (x5 + 1)) x14 x15 (wrap64 (x16 + 1)) x200000 x200001 x200002) else (threshold_Satisfied.l0 k x1 x5 x14 x15 (wrap64 (x16 + 1)) x200000 x200001 x200002))) else (none)) else (none)) else (threshold_Satisfied.l1 k x1 x5 x200002 (x200002.length : Int) 0 x200000 x200001 x200002)
def threshold_Satisfied.l1 : Nat → Int → Int → List (S27) → Int → Int → Int → List Int → List (S27) → Option (Bool)
  | 0, _, _, _, _, _, _, _, _ => none
  | k + 1, x1, x5, x27, x28, x29, x200000, x200001, x200002 => if x29 < x28 then (if 0 ≤ x29 then (if x29 < (x27.length : Int) then ((threshold_Satisfied.f k ((rd_T27 x27 x29).f0) ((rd_T27 x27 x29).f1) ((rd_T27 x27 x29).f2) x1).bind fun t205 => (if t205 = true then (threshold_Satisfied.l1 k x1 (wrap64 (x5 + 1)) x27 x28 (wrap64 (x29 + 1)) x200000 x200001 x200002) else (threshold_Satisfied.l1 k x1 x5 x27 x28 (wrap64 (x29 + 1)) x200000 x200001 x200002))) else (none)) else (none)) else (some (decide (x5 ≥ x200000)))
def threshold_Satisfied.f : Nat → Int → List Int → List (S27) → Int → Option (Bool)
  | 0, _, _, _, _ => none
  | k + 1, a0_0, l0_1, l0_2, a1 => (nodeset_Valid.f a1).bind fun t200 => (if t200 = true then (threshold_Satisfied.l0 k a1 0 l0_1 (l0_1.length : Int) 0 a0_0 l0_1 l0_2) else (some false))
end
theorem threshold_Satisfied.mono_l : ∀ k, (∀ y0 y1 y2 y3, LeO (threshold_Satisfied.f k y0 y1 y2 y3) (threshold_Satisfied.f (k + 1) y0 y1 y2 y3)) ∧ (∀ y0 y1 y2 y3 y4 y5 y6 y7, LeO (threshold_Satisfied.l0 k y0 y1 y2 y3 y4 y5 y6 y7) (threshold_Satisfied.l0 (k + 1) y0 y1 y2 y3 y4 y5 y6 y7)) ∧ (∀ y0 y1 y2 y3 y4 y5 y6 y7, LeO (threshold_Satisfied.l1 k y0 y1 y2 y3 y4 y5 y6 y7) (threshold_Satisfied.l1 (k + 1) y0 y1 y2 y3 y4 y5 y6 y7))
  | 0 => ⟨fun _ _ _ _ r h => by simp [threshold_Satisfied.f] at h, fun _ _ _ _ _ _ _ _ r h => by simp [threshold_Satisfied.l0] at h, fun _ _ _ _ _ _ _ _ r h => by simp [threshold_Satisfied.l1] at h⟩
  | k + 1 => by
    obtain ⟨ih0, ih1, ih2⟩ := threshold_Satisfied.mono_l k
    refine ⟨?_, ?_, ?_⟩
    · intro y0 y1 y2 y3
      unfold threshold_Satisfied.f
      repeat' first
      | (with_reducible exact ih0 _ _ _ _)
      | (with_reducible exact ih1 _ _ _ _ _ _ _ _)
      | (with_reducible exact ih2 _ _ _ _ _ _ _ _)
      | (with_reducible exact LeO.refl _)
      | (with_reducible exact LeO.none _)
      | (with_reducible refine LeO.ite ?_ ?_)
      | (with_reducible refine LeO.bind ?_ (fun _ => ?_))
      | exact ih0 _ _ _ _
      | exact ih1 _ _ _ _ _ _ _ _
      | exact ih2 _ _ _ _ _ _ _ _
      | exact LeO.none _
      | refine LeO.ite ?_ ?_
      | refine LeO.bind ?_ (fun _ => ?_)
    · intro y0 y1 y2 y3 y4 y5 y6 y7
      unfold threshold_Satisfied.l0
      repeat' first
      | (with_reducible exact ih0 _ _ _ _)
      | (with_reducible exact ih1 _ _ _ _ _ _ _ _)
      | (with_reducible exact ih2 _ _ _ _ _ _ _ _)
      | (with_reducible exact LeO.refl _)
      | (with_reducible exact LeO.none _)
      | (with_reducible refine LeO.ite ?_ ?_)
      | (with_reducible refine LeO.bind ?_ (fun _ => ?_))
      | exact ih0 _ _ _ _
      | exact ih1 _ _ _ _ _ _ _ _
      | exact ih2 _ _ _ _ _ _ _ _
      | exact LeO.none _
      | refine LeO.ite ?_ ?_
      | refine LeO.bind ?_ (fun _ => ?_)
    · intro y0 y1 y2 y3 y4 y5 y6 y7
      unfold threshold_Satisfied.l1
      repeat' first
      | (with_reducible exact ih0 _ _ _ _)
      | (with_reducible exact ih1 _ _ _ _ _ _ _ _)
      | (with_reducible exact ih2 _ _ _ _ _ _ _ _)
      | (with_reducible exact LeO.refl _)
      | (with_reducible exact LeO.none _)
      | (with_reducible refine LeO.ite ?_ ?_)
      | (with_reducible refine LeO.bind ?_ (fun _ => ?_))
      | exact ih0 _ _ _ _
      | exact ih1 _ _ _ _ _ _ _ _
      | exact ih2 _ _ _ _ _ _ _ _
      | exact LeO.none _
      | refine LeO.ite ?_ ?_
      | refine LeO.bind ?_ (fun _ => ?_)
theorem threshold_Satisfied.mono : ∀ a0 a1 a2 a3 k, LeO (threshold_Satisfied.f k a0 a1 a2 a3) (threshold_Satisfied.f (k + 1) a0 a1 a2 a3) := by
  intro a0 a1 a2 a3 k
  obtain ⟨ih0, ih1, ih2⟩ := threshold_Satisfied.mono_l k
  exact ih0 a0 a1 a2 a3
set_option maxHeartbeats 8000000 in
set_option maxRecDepth 100000 in
theorem threshold_Satisfied.calls (k : Nat) : ∀ (a0_0 : Int) (A0_1 : Option Addr) (c0_1 : Nat) (l0_1 : List Int) (A0_2 : Option Addr) (c0_2 : Nat) (l0_2 : List (S27)) (a1 : Int) (r : Bool) (w : World) (hr0_1 : Kd.C (Kd.int .i64) w A0_1 l0_1.length l0_1) (hc0_1 : l0_1.length ≤ c0_1) (hr0_2 : Kd.C k27 w A0_2 l0_2.length l0_2) (hc0_2 : l0_2.length ≤ c0_2) (h : threshold_Satisfied.f k a0_0 l0_1 l0_2 a1 = some r),
    Calls Try.prog 11 #[.agg #[.int .i64 a0_0, .slice A0_1 l0_1.length c0_1, .slice A0_2 l0_2.length c0_2], .int .i64 a1] w fun e w' => e = .returned (.bool r) ∧ Below w.heap.size w w' := by
 induction k using Nat.strongRecOn with
 | _ k ih =>
 intro a0_0 A0_1 c0_1 l0_1 A0_2 c0_2 l0_2 a1 r w hr0_1 hc0_1 hr0_2 hc0_2 h
 cases k with
 | zero => exact absurd h (by simp [threshold_Satisfied.f])
 | succ k =>
 simp only [threshold_Satisfied.f] at h; have hu27 := Try.underlying27; have HR0_1 := am hr0_1; have HC0_1 := am hc0_1; clear hr0_1 hc0_1; have HR0_2 := am hr0_2; have HC0_2 := am hc0_2; clear hr0_2 hc0_2; have HB := am (Below.refl w.heap.size w); have H : ((nodeset_Valid.f a1).bind fun t200 => (if t200 = true then (threshold_Satisfied.l0 k a1 0 l0_1 (l0_1.length : Int) 0 a0_0 l0_1 l0_2) else (some false))) = some r := h; clear h; replace H := Option.bind_eq_some_iff.mp H; obtain ⟨t200, A30, H⟩ := H; replace H : (if t200 = true then (threshold_Satisfied.l0 k a1 0 l0_1 (l0_1.length : Int) 0 a0_0 l0_1 l0_2) else (some false)) = some r := H; have A3 := am A30; clear A30
 by_cases c4 : t200 = true
 ·
  subst c4; have H1 : (threshold_Satisfied.l0 k a1 0 l0_1 (l0_1.length : Int) 0 a0_0 l0_1 l0_2) = some r := by rw [if_pos rfl] at H; exact H
  clear H; have H := H1; clear H1; have H' := am H; clear H
  go_enter Try.func11, Try.ntmps11
  go_wp2_with (first | ((with_reducible refine gate_dst (N := 2) rfl ?_); refine box_event ?hg (N := 2) ?hd (cs := #[.int .i64 a0_0, .slice A0_1 l0_1.length c0_1, .slice A0_2 l0_2.length c0_2]) (t := 27) ?hr ?_; (case hd => rfl); (case hg => rfl); (case hr => first | (go_simp; done) | (go_simp; rfl)); intro gb199 hg w5 hbox hb; have BK199 := am (hbox); have GW199 := am ((by rw [hg]; exact (below_size HB.out) : w.heap.size ≤ gb199)); have GE199 := am ((by rw [hg]; exact (below_size HB.out) : w.heap.size ≤ gb199)); replace HB := bs HB hb; clear hb hbox hg) | ((with_reducible refine gate_callee (f := 33) rfl ?_); refine goesL_ (some 11) rfl rfl Try.func33 (by kernel_rfl) rfl #[.int .i64 a1] rfl ax ?_; (with_reducible refine (nodeset_Valid.calls a1 true _ A3.out).mono ?_); rintro e w' ⟨rfl, ⟨nd, rfl⟩⟩; refine ⟨_, rfl, ?_⟩; have hcz6_0 : w5.cell? ⟨gb199, 0, none⟩ = some (.int .i64 a0_0) := (blk_cell BK199.out 0).trans rfl; have hcz6_1 : w5.cell? ⟨gb199, 1, none⟩ = some (.slice A0_1 l0_1.length c0_1) := (blk_cell BK199.out 1).trans rfl; have hcz6_2 : w5.cell? ⟨gb199, 2, none⟩ = some (.slice A0_2 l0_2.length c0_2) := (blk_cell BK199.out 2).trans rfl; have hfz6_0 := blk_frozen BK199.out 0; have hfz6_1 := blk_frozen BK199.out 1; have hfz6_2 := blk_frozen BK199.out 2))
  go_loopg [5, 16] k (fun kq v5 v16 w' => ∃ (x5_1 : Int) (x16_1 : Int), v5 = .int .i64 x5_1 ∧ v16 = .int .i64 x16_1 ∧ Aside0 (threshold_Satisfied.l0 kq a1 x5_1 l0_1 (l0_1.length : Int) x16_1 a0_0 l0_1 l0_2 = some r) ∧ Aside0 (kq ≤ k) ∧ Aside0 (w'.heap[gb199]? = some (.cells #[.int .i64 a0_0, (.slice A0_1 l0_1.length c0_1), (.slice A0_2 l0_2.length c0_2)] 27 (0, 0))) ∧ Aside0 (Below w.heap.size w w'))
  case atStart => exact ⟨(0), (0), ar, ar, H', ⟨Nat.le_refl _⟩, ⟨by (with_reducible repeat first | apply blk_drewN | apply blk_drew | apply blk_alloc); exact BK199.out⟩, ⟨by repeat (first | (with_reducible first | exact HB.out | apply below_alloc | apply pw_below_drewN | apply below_drew1 | refine below_set ?_ GE199.out) | exact HB.out)⟩⟩
  case round =>
   clear H'; (try clear c1); (try clear p2); (try clear c3); (try clear c4); (try clear p6); (try clear hcz6_0 hcz6_1 hcz6_2 hfz6_0 hfz6_1 hfz6_2); obtain ⟨x5_1, x16_1, rfl, rfl, HA, HK1, BK199, HB⟩ := hrel
   cases gk with
   | zero => exact absurd HA.out (by simp [threshold_Satisfied.l0])
   | succ k1 =>
    have H := HA.out; clear HA; simp only [threshold_Satisfied.l0] at H
    by_cases c7 : x16_1 < (l0_1.length : Int)
    ·
     rw [if_pos c7] at H; have c7b0 : decide (x16_1 < (l0_1.length : Int)) = true := decide_eq_true c7; clear c7
     by_cases c8 : 0 ≤ x16_1
     ·
      rw [if_pos c8] at H; have c8b0 : decide (0 ≤ x16_1) = true := decide_eq_true c8; clear c8
      by_cases c9 : x16_1 < (l0_1.length : Int)
      ·
       rw [if_pos c9] at H; have c9b0 : decide (x16_1 < (l0_1.length : Int)) = true := decide_eq_true c9; clear c9; replace H := Option.bind_eq_some_iff.mp H; obtain ⟨t202, A100, H⟩ := H; replace H : (if t202 = true then (threshold_Satisfied.l0 k1 a1 (wrap64 (x5_1 + 1)) l0_1 (l0_1.length : Int) (wrap64 (x16_1 + 1)) a0_0 l0_1 l0_2) else (threshold_Satisfied.l0 k1 a1 x5_1 l0_1 (l0_1.length : Int) (wrap64 (x16_1 + 1)) a0_0 l0_1 l0_2)) = some r := H; have A10 := am A100; clear A100
       by_cases c11 : t202 = true
       ·
        subst c11; have H1 : (threshold_Satisfied.l0 k1 a1 (wrap64 (x5_1 + 1)) l0_1 (l0_1.length : Int) (wrap64 (x16_1 + 1)) a0_0 l0_1 l0_2) = some r := by rw [if_pos rfl] at H; exact H
        clear H; have H := H1; clear H1; have H' := am H; clear H; have p201 : 0 ≤ (x16_1 : Int) := od; have q201 : x16_1 < (l0_1.length : Int) := od; obtain ⟨ad201, e201, hx201_0⟩ := Kd.at_int HR0_1.out x16_1 p201 q201
        cases e201
        replace hx201_0 := (HB.out.cell (World.block_lt_of_cell? w _ hx201_0)).trans hx201_0; replace p201 := eq_true p201; replace q201 := eq_true q201
        go_wp2_with (first | ((with_reducible refine gate_callee (f := 34) rfl ?_); refine goesL_ (some 22) rfl rfl Try.func34 (by kernel_rfl) rfl #[.int .i64 a1, .int .i64 (rd l0_1 x16_1)] rfl ax ?_; (with_reducible refine (nodeset_Has.calls a1 (rd l0_1 x16_1) true _ A10.out).mono ?_); rintro e w' ⟨rfl, ⟨nd, rfl⟩⟩; refine ⟨_, rfl, ?_⟩))
        go_roundg k1
        case measure => have := HK1.out; omega
        case rel => exact ⟨(wrap64 (x5_1 + 1)), (wrap64 (x16_1 + 1)), ar, ar, H', ⟨by have := HK1.out; omega⟩, ⟨by (with_reducible repeat first | apply blk_drewN | apply blk_drew | apply blk_alloc); exact BK199.out⟩, ⟨by repeat (first | (with_reducible first | exact HB.out | apply below_alloc | apply pw_below_drewN | apply below_drew1 | refine below_set ?_ GE199.out) | exact HB.out)⟩⟩
       ·
        replace c11 := Bool.eq_false_iff.mpr c11; subst c11; have H1 : (threshold_Satisfied.l0 k1 a1 x5_1 l0_1 (l0_1.length : Int) (wrap64 (x16_1 + 1)) a0_0 l0_1 l0_2) = some r := by rw [if_neg (show ¬ (false = true) by decide)] at H; exact H
        clear H; have H := H1; clear H1; have H' := am H; clear H; have p201 : 0 ≤ (x16_1 : Int) := od; have q201 : x16_1 < (l0_1.length : Int) := od; obtain ⟨ad201, e201, hx201_0⟩ := Kd.at_int HR0_1.out x16_1 p201 q201
        cases e201
        replace hx201_0 := (HB.out.cell (World.block_lt_of_cell? w _ hx201_0)).trans hx201_0; replace p201 := eq_true p201; replace q201 := eq_true q201
        go_wp2_with (first | ((with_reducible refine gate_callee (f := 34) rfl ?_); refine goesL_ (some 22) rfl rfl Try.func34 (by kernel_rfl) rfl #[.int .i64 a1, .int .i64 (rd l0_1 x16_1)] rfl ax ?_; (with_reducible refine (nodeset_Has.calls a1 (rd l0_1 x16_1) false _ A10.out).mono ?_); rintro e w' ⟨rfl, ⟨nd, rfl⟩⟩; refine ⟨_, rfl, ?_⟩))
        go_roundg k1
        case measure => have := HK1.out; omega
        case rel => exact ⟨(x5_1), (wrap64 (x16_1 + 1)), ar, ar, H', ⟨by have := HK1.out; omega⟩, ⟨by (with_reducible repeat first | apply blk_drewN | apply blk_drew | apply blk_alloc); exact BK199.out⟩, ⟨by repeat (first | (with_reducible first | exact HB.out | apply below_alloc | apply pw_below_drewN | apply below_drew1 | refine below_set ?_ GE199.out) | exact HB.out)⟩⟩
      ·
       rw [if_neg c9] at H; exact absurd H (by simp)
     ·
      rw [if_neg c8] at H; exact absurd H (by simp)
    ·
     rw [if_neg c7] at H; have c7b0 : decide (x16_1 < (l0_1.length : Int)) = false := decide_eq_false c7; clear c7; have H' := am H; clear H; obtain ⟨hcz12_0, hcz12_1, hcz12_2, hfz12_0, hfz12_1, hfz12_2⟩ := blkC3 BK199.out
     go_wp2
     go_loopg [5, 29] k1 (fun kq v5 v29 w' => ∃ (x5_2 : Int) (x29_2 : Int), v5 = .int .i64 x5_2 ∧ v29 = .int .i64 x29_2 ∧ Aside0 (threshold_Satisfied.l1 kq a1 x5_2 l0_2 (l0_2.length : Int) x29_2 a0_0 l0_1 l0_2 = some r) ∧ Aside0 (kq ≤ k1) ∧ Aside0 (w'.heap[gb199]? = some (.cells #[.int .i64 a0_0, (.slice A0_1 l0_1.length c0_1), (.slice A0_2 l0_2.length c0_2)] 27 (0, 0))) ∧ Aside0 (Below w.heap.size w w'))
     case atStart => exact ⟨(x5_1), (0), ar, ar, H', ⟨Nat.le_refl _⟩, ⟨by exact BK199.out⟩, ⟨by exact HB.out⟩⟩
     case round =>
      clear H'; (try clear c1); (try clear p2); (try clear q2); (try clear hx2); (try clear c3); (try clear c4); (try clear p6); (try clear c7); (try clear c7b0); (try clear c8); (try clear c8b0); (try clear c9); (try clear c9b0); (try clear c11); (try clear hcz12_0 hcz12_1 hcz12_2); (try clear hcz6_0 hcz6_1 hcz6_2); (try clear hfz12_0 hfz12_1 hfz12_2); (try clear hfz6_0 hfz6_1 hfz6_2); (try clear hx201_0); (try clear p2); (try clear p201); (try clear p6); (try clear q201); obtain ⟨x5_2, x29_2, rfl, rfl, HA, HK2, BK199, HB⟩ := hrel
      cases gk with
      | zero => exact absurd HA.out (by simp [threshold_Satisfied.l1])
      | succ k2 =>
       have H := HA.out; clear HA; simp only [threshold_Satisfied.l1] at H
       by_cases c13 : x29_2 < (l0_2.length : Int)
       ·
        rw [if_pos c13] at H; have c13b0 : decide (x29_2 < (l0_2.length : Int)) = true := decide_eq_true c13; clear c13
        by_cases c14 : 0 ≤ x29_2
        ·
         rw [if_pos c14] at H; have c14b0 : decide (0 ≤ x29_2) = true := decide_eq_true c14; clear c14
         by_cases c15 : x29_2 < (l0_2.length : Int)
         ·
          rw [if_pos c15] at H; have c15b0 : decide (x29_2 < (l0_2.length : Int)) = true := decide_eq_true c15; clear c15; replace H := Option.bind_eq_some_iff.mp H; obtain ⟨t205, A160, H⟩ := H; replace H : (if t205 = true then (threshold_Satisfied.l1 k2 a1 (wrap64 (x5_2 + 1)) l0_2 (l0_2.length : Int) (wrap64 (x29_2 + 1)) a0_0 l0_1 l0_2) else (threshold_Satisfied.l1 k2 a1 x5_2 l0_2 (l0_2.length : Int) (wrap64 (x29_2 + 1)) a0_0 l0_1 l0_2)) = some r := H; have A16 := am A160; clear A160
          by_cases c17 : t205 = true
          ·
           subst c17; have H1 : (threshold_Satisfied.l1 k2 a1 (wrap64 (x5_2 + 1)) l0_2 (l0_2.length : Int) (wrap64 (x29_2 + 1)) a0_0 l0_1 l0_2) = some r := by rw [if_pos rfl] at H; exact H
           clear H; have H := H1; clear H1; have H' := am H; clear H; have p203 : 0 ≤ (x29_2 : Int) := od; have q203 : x29_2 < (l0_2.length : Int) := od; obtain ⟨ad203, A203_1, c203_1, A203_2, c203_2, e203, hx203_0, hx203_1, hx203_2, hl203_1, hi203_1, hl203_2, hi203_2⟩ := at_T27 HR0_2.out x29_2 p203 q203
           cases e203
           replace hx203_0 := (HB.out.cell (World.block_lt_of_cell? w _ hx203_0)).trans hx203_0; replace hx203_1 := (HB.out.cell (World.block_lt_of_cell? w _ hx203_1)).trans hx203_1; replace hx203_2 := (HB.out.cell (World.block_lt_of_cell? w _ hx203_2)).trans hx203_2; have HR203_1 := am hi203_1; have HC203_1 := am hl203_1; clear hi203_1 hl203_1; have HR203_2 := am hi203_2; have HC203_2 := am hl203_2; clear hi203_2 hl203_2; replace p203 := eq_true p203; replace q203 := eq_true q203
           go_wp2_with (first | ((with_reducible refine gate_dst (N := 9) rfl ?_); refine box_event ?hg (N := 9) ?hd (cs := #[.int .i64 0, .slice none 0 0, .slice none 0 0]) (t := 27) ?hr ?_; (case hd => rfl); (case hg => rfl); (case hr => first | (go_simp; done) | (go_simp; rfl)); intro gb204 hg w18 hbox hb; have BK204 := am (hbox); have GW204 := am ((by rw [hg]; exact (below_size HB.out) : w.heap.size ≤ gb204)); have GE204 := am ((by rw [hg]; exact (below_size HB.out) : w.heap.size ≤ gb204)); replace HB := bs HB hb; have NB199_204 := am ((by rw [hg]; exact Nat.ne_of_lt (blk_lt BK199.out) : gb199 ≠ gb204)); have NB204_199 := am ((by rw [hg]; exact Nat.ne_of_gt (blk_lt BK199.out) : gb204 ≠ gb199)); replace BK199 := bb BK199 hb; clear hb hbox hg; have hnb19 := NB204_199.out; have hnc19 := NB199_204.out; obtain ⟨hcz20_0, hcz20_1, hcz20_2, hfz20_0, hfz20_1, hfz20_2⟩ := blkC3 BK204.out) | ((with_reducible refine gate_callee (f := 11) rfl ?_); refine goesL_ (some 35) rfl rfl Try.func11 (by kernel_rfl) rfl #[.agg #[.int .i64 ((rd_T27 l0_2 x29_2).f0), .slice A203_1 ((rd_T27 l0_2 x29_2).f1).length c203_1, .slice A203_2 ((rd_T27 l0_2 x29_2).f2).length c203_2], .int .i64 a1] rfl ax ?_; (with_reducible refine (ih k2 (by have := HK1.out; have := HK2.out; omega) ((rd_T27 l0_2 x29_2).f0) _ _ ((rd_T27 l0_2 x29_2).f1) _ _ ((rd_T27 l0_2 x29_2).f2) a1 true _ ?side1 ?side2 ?side3 ?side4 A16.out).mono ?_); (case side1 => exact Kd.C_below HR203_1.out (by repeat (first | (with_reducible first | exact HB.out | apply below_alloc | apply pw_below_drewN | apply below_drew1 | refine below_set ?_ GE199.out | refine below_set ?_ GE204.out) | exact HB.out))); (case side2 => exact HC203_1.out); (case side3 => exact Kd.C_below HR203_2.out (by repeat (first | (with_reducible first | exact HB.out | apply below_alloc | apply pw_below_drewN | apply below_drew1 | refine below_set ?_ GE199.out | refine below_set ?_ GE204.out) | exact HB.out))); (case side4 => exact HC203_2.out); rintro e w21 ⟨rfl, hb⟩; refine ⟨_, rfl, ?_⟩; replace BK199 := am (blk_below (g := gb199) (o := .cells #[.int .i64 a0_0, .slice A0_1 l0_1.length c0_1, .slice (some ad203) l0_2.length c0_2] 27 (0, 0)) (by (with_reducible repeat first | apply blk_drewN | apply blk_drew | apply blk_alloc); refine blk_far ?_ NB199_204.out _; (with_reducible repeat first | apply blk_drewN | apply blk_drew | apply blk_alloc); refine blk_far ?_ NB199_204.out _; (with_reducible repeat first | apply blk_drewN | apply blk_drew | apply blk_alloc); refine blk_far ?_ NB199_204.out _; (with_reducible repeat first | apply blk_drewN | apply blk_drew | apply blk_alloc); exact BK199.out) hb); replace BK204 := am (blk_below (g := gb204) (o := .cells #[.int .i64 ((rd_T27 l0_2 x29_2).f0), .slice A203_1 ((rd_T27 l0_2 x29_2).f1).length c203_1, .slice A203_2 ((rd_T27 l0_2 x29_2).f2).length c203_2] 27 (0, 0)) (by (with_reducible repeat first | apply blk_drewN | apply blk_drew | apply blk_alloc); refine blk_put (cs := #[.int .i64 ((rd_T27 l0_2 x29_2).f0), .slice A203_1 ((rd_T27 l0_2 x29_2).f1).length c203_1, .slice none 0 0]) ?_ 2 _ rfl; (with_reducible repeat first | apply blk_drewN | apply blk_drew | apply blk_alloc); refine blk_put (cs := #[.int .i64 ((rd_T27 l0_2 x29_2).f0), .slice none 0 0, .slice none 0 0]) ?_ 1 _ rfl; (with_reducible repeat first | apply blk_drewN | apply blk_drew | apply blk_alloc); refine blk_put (cs := #[.int .i64 0, .slice none 0 0, .slice none 0 0]) ?_ 0 _ rfl; (with_reducible repeat first | apply blk_drewN | apply blk_drew | apply blk_alloc); exact BK204.out) hb); replace HB := am (below_step (by repeat (first | (with_reducible first | exact HB.out | apply below_alloc | apply pw_below_drewN | apply below_drew1 | refine below_set ?_ GE199.out | refine below_set ?_ GE204.out) | exact HB.out)) hb); (try clear hb); (try clear hb2); (try clear hk); (try clear hi)))
           go_roundg k2
           case measure => have := HK1.out; have := HK2.out; omega
           case rel => exact ⟨(wrap64 (x5_2 + 1)), (wrap64 (x29_2 + 1)), ar, ar, H', ⟨by have := HK1.out; have := HK2.out; omega⟩, ⟨by exact BK199.out⟩, ⟨by exact HB.out⟩⟩
          ·
           replace c17 := Bool.eq_false_iff.mpr c17; subst c17; have H1 : (threshold_Satisfied.l1 k2 a1 x5_2 l0_2 (l0_2.length : Int) (wrap64 (x29_2 + 1)) a0_0 l0_1 l0_2) = some r := by rw [if_neg (show ¬ (false = true) by decide)] at H; exact H
           clear H; have H := H1; clear H1; have H' := am H; clear H; have p203 : 0 ≤ (x29_2 : Int) := od; have q203 : x29_2 < (l0_2.length : Int) := od; obtain ⟨ad203, A203_1, c203_1, A203_2, c203_2, e203, hx203_0, hx203_1, hx203_2, hl203_1, hi203_1, hl203_2, hi203_2⟩ := at_T27 HR0_2.out x29_2 p203 q203
           cases e203
           replace hx203_0 := (HB.out.cell (World.block_lt_of_cell? w _ hx203_0)).trans hx203_0; replace hx203_1 := (HB.out.cell (World.block_lt_of_cell? w _ hx203_1)).trans hx203_1; replace hx203_2 := (HB.out.cell (World.block_lt_of_cell? w _ hx203_2)).trans hx203_2; have HR203_1 := am hi203_1; have HC203_1 := am hl203_1; clear hi203_1 hl203_1; have HR203_2 := am hi203_2; have HC203_2 := am hl203_2; clear hi203_2 hl203_2; replace p203 := eq_true p203; replace q203 := eq_true q203
           go_wp2_with (first | ((with_reducible refine gate_dst (N := 9) rfl ?_); refine box_event ?hg (N := 9) ?hd (cs := #[.int .i64 0, .slice none 0 0, .slice none 0 0]) (t := 27) ?hr ?_; (case hd => rfl); (case hg => rfl); (case hr => first | (go_simp; done) | (go_simp; rfl)); intro gb204 hg w22 hbox hb; have BK204 := am (hbox); have GW204 := am ((by rw [hg]; exact (below_size HB.out) : w.heap.size ≤ gb204)); have GE204 := am ((by rw [hg]; exact (below_size HB.out) : w.heap.size ≤ gb204)); replace HB := bs HB hb; have NB199_204 := am ((by rw [hg]; exact Nat.ne_of_lt (blk_lt BK199.out) : gb199 ≠ gb204)); have NB204_199 := am ((by rw [hg]; exact Nat.ne_of_gt (blk_lt BK199.out) : gb204 ≠ gb199)); replace BK199 := bb BK199 hb; clear hb hbox hg; have hnb23 := NB204_199.out; have hnc23 := NB199_204.out; obtain ⟨hcz24_0, hcz24_1, hcz24_2, hfz24_0, hfz24_1, hfz24_2⟩ := blkC3 BK204.out) | ((with_reducible refine gate_callee (f := 11) rfl ?_); refine goesL_ (some 35) rfl rfl Try.func11 (by kernel_rfl) rfl #[.agg #[.int .i64 ((rd_T27 l0_2 x29_2).f0), .slice A203_1 ((rd_T27 l0_2 x29_2).f1).length c203_1, .slice A203_2 ((rd_T27 l0_2 x29_2).f2).length c203_2], .int .i64 a1] rfl ax ?_; (with_reducible refine (ih k2 (by have := HK1.out; have := HK2.out; omega) ((rd_T27 l0_2 x29_2).f0) _ _ ((rd_T27 l0_2 x29_2).f1) _ _ ((rd_T27 l0_2 x29_2).f2) a1 false _ ?side1 ?side2 ?side3 ?side4 A16.out).mono ?_); (case side1 => exact Kd.C_below HR203_1.out (by repeat (first | (with_reducible first | exact HB.out | apply below_alloc | apply pw_below_drewN | apply below_drew1 | refine below_set ?_ GE199.out | refine below_set ?_ GE204.out) | exact HB.out))); (case side2 => exact HC203_1.out); (case side3 => exact Kd.C_below HR203_2.out (by repeat (first | (with_reducible first | exact HB.out | apply below_alloc | apply pw_below_drewN | apply below_drew1 | refine below_set ?_ GE199.out | refine below_set ?_ GE204.out) | exact HB.out))); (case side4 => exact HC203_2.out); rintro e w25 ⟨rfl, hb⟩; refine ⟨_, rfl, ?_⟩; replace BK199 := am (blk_below (g := gb199) (o := .cells #[.int .i64 a0_0, .slice A0_1 l0_1.length c0_1, .slice (some ad203) l0_2.length c0_2] 27 (0, 0)) (by (with_reducible repeat first | apply blk_drewN | apply blk_drew | apply blk_alloc); refine blk_far ?_ NB199_204.out _; (with_reducible repeat first | apply blk_drewN | apply blk_drew | apply blk_alloc); refine blk_far ?_ NB199_204.out _; (with_reducible repeat first | apply blk_drewN | apply blk_drew | apply blk_alloc); refine blk_far ?_ NB199_204.out _; (with_reducible repeat first | apply blk_drewN | apply blk_drew | apply blk_alloc); exact BK199.out) hb); replace BK204 := am (blk_below (g := gb204) (o := .cells #[.int .i64 ((rd_T27 l0_2 x29_2).f0), .slice A203_1 ((rd_T27 l0_2 x29_2).f1).length c203_1, .slice A203_2 ((rd_T27 l0_2 x29_2).f2).length c203_2] 27 (0, 0)) (by (with_reducible repeat first | apply blk_drewN | apply blk_drew | apply blk_alloc); refine blk_put (cs := #[.int .i64 ((rd_T27 l0_2 x29_2).f0), .slice A203_1 ((rd_T27 l0_2 x29_2).f1).length c203_1, .slice none 0 0]) ?_ 2 _ rfl; (with_reducible repeat first | apply blk_drewN | apply blk_drew | apply blk_alloc); refine blk_put (cs := #[.int .i64 ((rd_T27 l0_2 x29_2).f0), .slice none 0 0, .slice none 0 0]) ?_ 1 _ rfl; (with_reducible repeat first | apply blk_drewN | apply blk_drew | apply blk_alloc); refine blk_put (cs := #[.int .i64 0, .slice none 0 0, .slice none 0 0]) ?_ 0 _ rfl; (with_reducible repeat first | apply blk_drewN | apply blk_drew | apply blk_alloc); exact BK204.out) hb); replace HB := am (below_step (by repeat (first | (with_reducible first | exact HB.out | apply below_alloc | apply pw_below_drewN | apply below_drew1 | refine below_set ?_ GE199.out | refine below_set ?_ GE204.out) | exact HB.out)) hb); (try clear hb); (try clear hb2); (try clear hk); (try clear hi)))
           go_roundg k2
           case measure => have := HK1.out; have := HK2.out; omega
           case rel => exact ⟨(x5_2), (wrap64 (x29_2 + 1)), ar, ar, H', ⟨by have := HK1.out; have := HK2.out; omega⟩, ⟨by exact BK199.out⟩, ⟨by exact HB.out⟩⟩
         ·
          rw [if_neg c15] at H; exact absurd H (by simp)
        ·
         rw [if_neg c14] at H; exact absurd H (by simp)
       ·
        rw [if_neg c13] at H; have c13b0 : decide (x29_2 < (l0_2.length : Int)) = false := decide_eq_false c13; clear c13; obtain rfl := Option.some.inj H; obtain ⟨hcz26_0, hcz26_1, hcz26_2, hfz26_0, hfz26_1, hfz26_2⟩ := blkC3 BK199.out
        go_wp2
        go_ret
        exact ⟨er, by exact HB.out⟩
 ·
  replace c4 := Bool.eq_false_iff.mpr c4; subst c4; have H1 : (some false) = some r := by rw [if_neg (show ¬ (false = true) by decide)] at H; exact H
  clear H; have H := H1; clear H1; obtain rfl := Option.some.inj H
  go_enter Try.func11, Try.ntmps11
  go_wp2_with (first | ((with_reducible refine gate_dst (N := 2) rfl ?_); refine box_event ?hg (N := 2) ?hd (cs := #[.int .i64 a0_0, .slice A0_1 l0_1.length c0_1, .slice A0_2 l0_2.length c0_2]) (t := 27) ?hr ?_; (case hd => rfl); (case hg => rfl); (case hr => first | (go_simp; done) | (go_simp; rfl)); intro gb199 hg w27 hbox hb; have BK199 := am (hbox); have GW199 := am ((by rw [hg]; exact (below_size HB.out) : w.heap.size ≤ gb199)); have GE199 := am ((by rw [hg]; exact (below_size HB.out) : w.heap.size ≤ gb199)); replace HB := bs HB hb; clear hb hbox hg) | ((with_reducible refine gate_callee (f := 33) rfl ?_); refine goesL_ (some 11) rfl rfl Try.func33 (by kernel_rfl) rfl #[.int .i64 a1] rfl ax ?_; (with_reducible refine (nodeset_Valid.calls a1 false _ A3.out).mono ?_); rintro e w' ⟨rfl, ⟨nd, rfl⟩⟩; refine ⟨_, rfl, ?_⟩))
  go_ret
  exact ⟨er, by repeat (first | (with_reducible first | exact HB.out | apply below_alloc | apply pw_below_drewN | apply below_drew1 | refine below_set ?_ GE199.out) | exact HB.out)⟩
/-! ### threshold_Blocked: function 12 -/
def threshold_Blocked.f (k : Nat) (a0_0 : Int) (l0_1 : List Int) (l0_2 : List (S27)) (a1 : Int) : Option (Bool) := (nodeset_Valid.f a1).bind fun t207 => (if t207 = true then ((threshold_Satisfied.f k a0_0 l0_1 l0_2 (wrap64 (1023 - a1))).bind fun t208 => (some (!t208))) else (some false))
theorem threshold_Blocked.mono : ∀ a0 a1 a2 a3 k, LeO (threshold_Blocked.f k a0 a1 a2 a3) (threshold_Blocked.f (k + 1) a0 a1 a2 a3) := by
  intro a0 a1 a2 a3 k
  unfold threshold_Blocked.f
  repeat' first
      | (with_reducible exact threshold_Satisfied.mono _ _ _ _ _)
      | (with_reducible exact LeO.refl _)
      | (with_reducible exact LeO.none _)
      | (with_reducible refine LeO.ite ?_ ?_)
      | (with_reducible refine LeO.bind ?_ (fun _ => ?_))
      | exact threshold_Satisfied.mono _ _ _ _ _
      | exact LeO.none _
      | refine LeO.ite ?_ ?_
      | refine LeO.bind ?_ (fun _ => ?_)
set_option maxHeartbeats 8000000 in
set_option maxRecDepth 100000 in
theorem threshold_Blocked.calls (k : Nat) (a0_0 : Int) (A0_1 : Option Addr) (c0_1 : Nat) (l0_1 : List Int) (A0_2 : Option Addr) (c0_2 : Nat) (l0_2 : List (S27)) (a1 : Int) (r : Bool) (w : World) (hr0_1 : Kd.C (Kd.int .i64) w A0_1 l0_1.length l0_1) (hc0_1 : l0_1.length ≤ c0_1) (hr0_2 : Kd.C k27 w A0_2 l0_2.length l0_2) (hc0_2 : l0_2.length ≤ c0_2) (h : threshold_Blocked.f k a0_0 l0_1 l0_2 a1 = some r) :
    Calls Try.prog 12 #[.agg #[.int .i64 a0_0, .slice A0_1 l0_1.length c0_1, .slice A0_2 l0_2.length c0_2], .int .i64 a1] w fun e w' => e = .returned (.bool r) ∧ Below w.heap.size w w' := by
 have hu27 := Try.underlying27; have HR0_1 := am hr0_1; have HC0_1 := am hc0_1; clear hr0_1 hc0_1; have HR0_2 := am hr0_2; have HC0_2 := am hc0_2; clear hr0_2 hc0_2; have HB := am (Below.refl w.heap.size w); have H : ((nodeset_Valid.f a1).bind fun t207 => (if t207 = true then ((threshold_Satisfied.f k a0_0 l0_1 l0_2 (wrap64 (1023 - a1))).bind fun t208 => (some (!t208))) else (some false))) = some r := h; clear h; replace H := Option.bind_eq_some_iff.mp H; obtain ⟨t207, A30, H⟩ := H; replace H : (if t207 = true then ((threshold_Satisfied.f k a0_0 l0_1 l0_2 (wrap64 (1023 - a1))).bind fun t208 => (some (!t208))) else (some false)) = some r := H; have A3 := am A30; clear A30
 by_cases c4 : t207 = true
 ·
  subst c4; have H1 : ((threshold_Satisfied.f k a0_0 l0_1 l0_2 (wrap64 (1023 - a1))).bind fun t208 => (some (!t208))) = some r := by rw [if_pos rfl] at H; exact H
  clear H; have H := H1; clear H1; replace H := Option.bind_eq_some_iff.mp H; obtain ⟨t208, A50, H⟩ := H; replace H : (some (!t208)) = some r := H; have A5 := am A50; clear A50; obtain rfl := Option.some.inj H
  go_enter Try.func12, Try.ntmps12
  go_wp2_with (first | ((with_reducible refine gate_dst (N := 2) rfl ?_); refine box_event ?hg (N := 2) ?hd (cs := #[.int .i64 a0_0, .slice A0_1 l0_1.length c0_1, .slice A0_2 l0_2.length c0_2]) (t := 27) ?hr ?_; (case hd => rfl); (case hg => rfl); (case hr => first | (go_simp; done) | (go_simp; rfl)); intro gb206 hg w6 hbox hb; have BK206 := am (hbox); have GW206 := am ((by rw [hg]; exact (below_size HB.out) : w.heap.size ≤ gb206)); have GE206 := am ((by rw [hg]; exact (below_size HB.out) : w.heap.size ≤ gb206)); replace HB := bs HB hb; clear hb hbox hg) | ((with_reducible refine gate_callee (f := 33) rfl ?_); refine goesL_ (some 6) rfl rfl Try.func33 (by kernel_rfl) rfl #[.int .i64 a1] rfl ax ?_; (with_reducible refine (nodeset_Valid.calls a1 true _ A3.out).mono ?_); rintro e w' ⟨rfl, ⟨nd, rfl⟩⟩; refine ⟨_, rfl, ?_⟩; have hcz7_0 : w6.cell? ⟨gb206, 0, none⟩ = some (.int .i64 a0_0) := (blk_cell BK206.out 0).trans rfl; have hcz7_1 : w6.cell? ⟨gb206, 1, none⟩ = some (.slice A0_1 l0_1.length c0_1) := (blk_cell BK206.out 1).trans rfl; have hcz7_2 : w6.cell? ⟨gb206, 2, none⟩ = some (.slice A0_2 l0_2.length c0_2) := (blk_cell BK206.out 2).trans rfl; have hfz7_0 := blk_frozen BK206.out 0; have hfz7_1 := blk_frozen BK206.out 1; have hfz7_2 := blk_frozen BK206.out 2) | (go_at_call 11; (with_reducible refine (threshold_Satisfied.calls k a0_0 _ _ l0_1 _ _ l0_2 (wrap64 (1023 - a1)) t208 _ ?side1 ?side2 ?side3 ?side4 A5.out).mono ?_); (case side1 => repeat (first | exact (Kd.C_below HR0_1.out (by repeat (first | (with_reducible first | exact HB.out | apply below_alloc | apply pw_below_drewN | apply below_drew1 | refine below_set ?_ GE206.out) | exact HB.out))) | (with_reducible refine Kd.C_alloc ?_ _) | (with_reducible refine Kd.C_drewN ?_ _) | (with_reducible refine Kd.C_drew ?_))); (case side2 => exact HC0_1.out); (case side3 => repeat (first | exact (Kd.C_below HR0_2.out (by repeat (first | (with_reducible first | exact HB.out | apply below_alloc | apply pw_below_drewN | apply below_drew1 | refine below_set ?_ GE206.out) | exact HB.out))) | (with_reducible refine Kd.C_alloc ?_ _) | (with_reducible refine Kd.C_drewN ?_ _) | (with_reducible refine Kd.C_drew ?_))); (case side4 => exact HC0_2.out); rintro e w8 ⟨rfl, hb⟩; replace BK206 := am (blk_below (g := gb206) (o := .cells #[.int .i64 a0_0, .slice A0_1 l0_1.length c0_1, .slice A0_2 l0_2.length c0_2] 27 (0, 0)) (by (with_reducible repeat first | apply blk_drewN | apply blk_drew | apply blk_alloc); exact BK206.out) hb); replace HB := am (below_step (by repeat (first | (with_reducible first | exact HB.out | apply below_alloc | apply pw_below_drewN | apply below_drew1 | refine below_set ?_ GE206.out) | exact HB.out)) hb); (try clear hb); (try clear hb2); (try clear hk); (try clear hi)))
  go_ret
  exact ⟨er, by exact HB.out⟩
 ·
  replace c4 := Bool.eq_false_iff.mpr c4; subst c4; have H1 : (some false) = some r := by rw [if_neg (show ¬ (false = true) by decide)] at H; exact H
  clear H; have H := H1; clear H1; obtain rfl := Option.some.inj H
  go_enter Try.func12, Try.ntmps12
  go_wp2_with (first | ((with_reducible refine gate_dst (N := 2) rfl ?_); refine box_event ?hg (N := 2) ?hd (cs := #[.int .i64 a0_0, .slice A0_1 l0_1.length c0_1, .slice A0_2 l0_2.length c0_2]) (t := 27) ?hr ?_; (case hd => rfl); (case hg => rfl); (case hr => first | (go_simp; done) | (go_simp; rfl)); intro gb206 hg w9 hbox hb; have BK206 := am (hbox); have GW206 := am ((by rw [hg]; exact (below_size HB.out) : w.heap.size ≤ gb206)); have GE206 := am ((by rw [hg]; exact (below_size HB.out) : w.heap.size ≤ gb206)); replace HB := bs HB hb; clear hb hbox hg) | ((with_reducible refine gate_callee (f := 33) rfl ?_); refine goesL_ (some 6) rfl rfl Try.func33 (by kernel_rfl) rfl #[.int .i64 a1] rfl ax ?_; (with_reducible refine (nodeset_Valid.calls a1 false _ A3.out).mono ?_); rintro e w' ⟨rfl, ⟨nd, rfl⟩⟩; refine ⟨_, rfl, ?_⟩))
  go_ret
  exact ⟨er, by repeat (first | (with_reducible first | exact HB.out | apply below_alloc | apply pw_below_drewN | apply below_drew1 | refine below_set ?_ GE206.out) | exact HB.out)⟩
/-! ### slices_Clone_int_int: function 38, walked by hand -/
def slices_Clone_int_int.f (l0 : List Int) : Option (List Int) := (some (([] : List Int) : List Int)).bind fun y209 => (if y209.length + l0.length < 17592186044416 then (some (y209 ++ l0)) else (none))
set_option maxHeartbeats 8000000 in
set_option maxRecDepth 100000 in
theorem slices_Clone_int_int.calls (A0 : Option Addr) (c0 : Nat) (l0 : List Int) (r : List Int) (w : World) (hr0 : Kd.C (Kd.int .i64) w A0 l0.length l0) (hc0 : l0.length ≤ c0) (h : slices_Clone_int_int.f l0 = some r) :
    Calls Try.prog 38 #[.slice A0 l0.length c0] w fun e w' => ∃ v0_ : Value, e = .returned (v0_) ∧ Kd.R (Kd.int .i64) 3 w' w.heap.size (fun _ => True) v0_ r ∧ Below w.heap.size w w' := by
 have HR0 := am hr0; have HC0 := am hc0; clear hr0 hc0; have HB := am (Below.refl w.heap.size w); have H : ((some (([] : List Int) : List Int)).bind fun y209 => (if y209.length + l0.length < 17592186044416 then (some (y209 ++ l0)) else (none))) = some r := h; clear h; obtain ⟨y209, hy209⟩ : ∃ y_ : List Int, y_ = (([] : List Int)) := ⟨_, rfl⟩; replace H : (if y209.length + l0.length < 17592186044416 then (some (y209 ++ l0)) else (none)) = some r := by first | (rw [hy209]; with_reducible exact H) | (have H2_ := (Option.bind_some _ _).symm.trans H; rw [hy209]; with_reducible exact H2_) | (have H2_ := (Option.bind_some _ _).symm.trans H; with_reducible exact H2_) | with_reducible exact H | (rw [hy209]; exact H) | exact H
 have Ny209 := am hy209; clear hy209
 by_cases c2 : y209.length + l0.length < 17592186044416
 ·
  rw [if_pos c2] at H; have LMc2 := am c2; clear c2; obtain ⟨y212, hy212⟩ : ∃ y_ : List Int, y_ = (y209 ++ l0) := ⟨_, rfl⟩; replace H : (some y212) = some r := by first | (rw [hy212]; with_reducible exact H) | (have H2_ := (Option.bind_some _ _).symm.trans H; rw [hy212]; with_reducible exact H2_) | (have H2_ := (Option.bind_some _ _).symm.trans H; with_reducible exact H2_) | with_reducible exact H | (rw [hy212]; exact H) | exact H
  have Ny212 := am hy212; clear hy212; obtain rfl := Option.some.inj H; have hcl := fun W => Lib.run_eql_slice_nil (P := Try.prog) W 22 3 A0 l0.length c0 0 0 Try.underlying22
  cases A0 with
  | none =>
   have hl0 : l0 = [] := by
    cases l0 with
    | nil => rfl
    | cons x l =>
     obtain ⟨ad, had, _⟩ := Kd.at_int HR0.out 0 (by omega) (by simp only [List.length_cons]; omega)
     cases had
   have Hy : Aside0 (y212 = []) := am (by rw [Ny212.out, Ny209.out, hl0]; rfl); clear hl0
   go_enter Try.func38, Try.ntmps38
   go_wp2
   go_ret
   exact ⟨.slice none 0 0, rfl, by rw [Hy.out]; exact Kd.R_nil _ _ _ _ _, Below.refl _ _⟩
  | some ad0 =>
   go_enter Try.func38, Try.ntmps38
   go_wp2_with (first | ((with_reducible refine gate_dst (N := 5) rfl ?_); refine Kd.R_lit (Kd.int .i64) _ 3 ?hg (N := 5) ?hd (xs := ([] : List Int)) (inner := []) (ok := fun _ => True) (okp := fun _ => True) ?hr ?hp (fun _ hk => hk) trivial (Below.refl _ _) (Nat.le_refl _) (by simp) ?_; (case hd => rfl); (case hg => rfl); (case hr => first | (go_simp; done) | (go_simp; rfl)); (case hp => exact (Reps.none _ _)); intro v210 w3 ho4 hb hg_ hnew_; clear hg_ hnew_; (first | rw [← Ny209.out] at ho4 | (simp only [Int.reduceToNat] at ho4; rw [← Ny209.out] at ho4)); have n0_ := am (Kd.R_lower ho4 (below_size (by repeat (first | (with_reducible first | exact HB.out | apply below_alloc | apply pw_below_drewN | apply below_drew1) | exact HB.out)))); have n1_ := am (below_step (by repeat (first | (with_reducible first | exact HB.out | apply below_alloc | apply pw_below_drewN | apply below_drew1) | exact HB.out)) hb); clear HB; have HO211 := n0_; have HB := n1_; clear n0_ n1_; clear hb ho4) | ((with_reducible refine gate_builtin (b := .append) (xs := #[.tmp 5, .tmp 6]) rfl ?_); at_builtin; refine Kd.R_append_rows (Kd.int .i64) (w0 := w) w.heap.size rfl (.tmp 5) (.tmp 6) 22 3 (.int .i64 0) 8 rfl Try.underlying22 info3 rfl (by decide) (by omega) v210 y209 l0 _ _ _ (fun _ => True) (fun _ => False) rfl rfl ?aO ?aR (fun _ _ h => h) (fun _ h => h.elim) ?aF ?aB ?aS ?aL ?_; (case aR => repeat (first | exact (Kd.C_below HR0.out HB.out) | (with_reducible refine Kd.C_alloc ?_ _) | (with_reducible refine Kd.C_drewN ?_ _) | (with_reducible refine Kd.C_drew ?_))); (case aB => exact (by repeat (first | (with_reducible first | exact HB.out | apply below_alloc | apply pw_below_drewN | apply below_drew1) | exact HB.out))); (case aF => exact (fun _ _ => trivial)); (case aO => exact (by (with_reducible repeat (first | apply Kd.R_alloc | apply Kd.R_drewN | apply Kd.R_drew)); exact HO211.out)); (case aS => exact (below_size (by repeat (first | (with_reducible first | exact HB.out | apply below_alloc | apply pw_below_drewN | apply below_drew1) | exact HB.out)))); (case aL => have := LMc2.out; omega); intro v213 w5 ho hb hg hat; rw [← Ny212.out] at ho; have n0_ := am (hb); have n1_ := am (ho); clear HB; clear HO211; have HB := n0_; have HO214 := n1_; clear n0_ n1_; clear ho hb hg hat))
   go_ret
   exact ⟨_, by first | rfl | (simp [errW_none, errW_some] <;> rfl) | (simp [*, errW_none, errW_some] <;> rfl), by (with_reducible repeat (first | apply Kd.R_alloc | apply Kd.R_drewN | apply Kd.R_drew)); exact HO214.out, by repeat (first | (with_reducible first | exact HB.out | apply below_alloc | apply pw_below_drewN | apply below_drew1) | exact HB.out)⟩
 ·
  rw [if_neg c2] at H; exact absurd H (by simp)
end Go.Proofs.Yteljoemeogeidaa.QThresholdAnswers
