/- Lean functions that answer as the Go functions do which the law reaches, and proofs that the Go code comes to exactly these answers. Conditions: those that each theorem names. -/
import Derived.Test.YteljoemeogeidaaQThresholdAnswersx0
import Derived.Test.YteljoemeogeidaaQThresholdAnswersx1
namespace Go.Proofs.Yteljoemeogeidaa.QThresholdAnswers
open Go.RowKit Go.Proofs.YteljoemeogeidaaW.PrintWords Go.Proofs.YteljoemeogeidaaW.PrintLast Go.Proofs.YteljoemeogeidaaW.PrintMore
attribute [local go_sem] max2_int min2_int max_two min_two max_three min_three max_four min_four   -- for this text's walks alone
set_option linter.unusedVariables false
set_option linter.unusedSimpArgs false

/-! ### trustquorumref02_Satisfied: function 30 -/
mutual
def trustquorumref02_Satisfied.l0 : Nat → Int → Int → List Int → Int → Int → Int → List Int → List (S27) → Option (Bool)
  | 0, _, _, _, _, _, _, _, _ => none
  | k + 1, x1, x5, x14, x15, x16, x404000, x404001, x404002 => if x16 < x15 then (if 0 ≤ x16 then (if x16 < (x14.length : Int) then ((trustquorumref01_Has.f x1 (rd x14 x16)).bind fun t406 => (if t406 = true then (trustquorumref02_Satisfied.l0 k x1 (wrap64 (x5 + 1)) x14 x15 (wrap64 (x16 + 1)) x404000 x404001 x404002) else (trustquorumref02_Satisfied.l0 k x1 x5 x14 x15 (wrap64 (x16 + 1)) x404000 x404001 x404002))) else (none)) else (none)) else (trustquorumref02_Satisfied.l1 k x1 x5 x404002 (x404002.length : Int) 0 x404000 x404001 x404002)
def trustquorumref02_Satisfied.l1 : Nat → Int → Int → List (S27) → Int → Int → Int → List Int → List (S27) → Option (Bool)
  | 0, _, _, _, _, _, _, _, _ => none
  | k + 1, x1, x5, x27, x28, x29, x404000, x404001, x404002 => if x29 < x28 then (if 0 ≤ x29 then (if x29 < (x27.length : Int) then ((trustquorumref02_Satisfied.f k ((rd_T27 x27 x29).f0) ((rd_T27 x27 x29).f1) ((rd_T27 x27 x29).f2) x1).bind fun t409 => (if t409 = true then (trustquorumref02_Satisfied.l1 k x1 (wrap64 (x5 + 1)) x27 x28 (wrap64 (x29 + 1)) x404000 x404001 x404002) else (trustquorumref02_Satisfied.l1 k x1 x5 x27 x28 (wrap64 (x29 + 1)) x404000 x404001 x404002))) else (none)) else (none)) else (some (decide (x5 ≥ x404000)))
def trustquorumref02_Satisfied.f : Nat → Int → List Int → List (S27) → Int → Option (Bool)
  | 0, _, _, _, _ => none
  | k + 1, a0_0, l0_1, l0_2, a1 => (trustquorumref01_Valid.f a1).bind fun t404 => (if t404 = true then (trustquorumref02_Satisfied.l0 k a1 0 l0_1 (l0_1.length : Int) 0 a0_0 l0_1 l0_2) else (some false))
end
theorem trustquorumref02_Satisfied.mono_l : ∀ k, (∀ y0 y1 y2 y3, LeO (trustquorumref02_Satisfied.f k y0 y1 y2 y3) (trustquorumref02_Satisfied.f (k + 1) y0 y1 y2 y3)) ∧ (∀ y0 y1 y2 y3 y4 y5 y6 y7, LeO (trustquorumref02_Satisfied.l0 k y0 y1 y2 y3 y4 y5 y6 y7) (trustquorumref02_Satisfied.l0 (k + 1) y0 y1 y2 y3 y4 y5 y6 y7)) ∧ (∀ y0 y1 y2 y3 y4 y5 y6 y7, LeO (trustquorumref02_Satisfied.l1 k y0 y1 y2 y3 y4 y5 y6 y7) (trustquorumref02_Satisfied.l1 (k + 1) y0 y1 y2 y3 y4 y5 y6 y7))
  | 0 => ⟨fun _ _ _ _ r h => by simp [trustquorumref02_Satisfied.f] at h, fun _ _ _ _ _ _ _ _ r h => by simp [trustquorumref02_Satisfied.l0] at h, fun _ _ _ _ _ _ _ _ r h => by simp [trustquorumref02_Satisfied.l1] at h⟩
  | k + 1 => by
    obtain ⟨ih0, ih1, ih2⟩ := trustquorumref02_Satisfied.mono_l k
    refine ⟨?_, ?_, ?_⟩
    · intro y0 y1 y2 y3
      unfold trustquorumref02_Satisfied.f
      repeat' first
      | (with_reducible exact ih0 _ _ _ _)
      | (with_reducible exact ih1 _ _ _ _ _ _ _ _)
      | (with_reducible exact ih2 _ _ _ _ _ _ _ _)
      | (with_reducible exact LeO.refl _)
      | (with_reducible exact LeO.none _)
      | (with_reducible refine LeO.ite ?_ ?_)
      | (with_reducible refine LeO.bind ?_ (fun _ => ?_))
      | exact ih0 _ _ _ _
      | exact ih1 _ _ _ _ _ _ _ _
      | exact ih2 _ _ _ _ _ _ _ _
      | exact LeO.none _
      | refine LeO.ite ?_ ?_
      | refine LeO.bind ?_ (fun _ => ?_)
    · intro y0 y1 y2 y3 y4 y5 y6 y7
      unfold trustquorumref02_Satisfied.l0
      repeat' first
      | (with_reducible exact ih0 _ _ _ _)
      | (with_reducible exact ih1 _ _ _ _ _ _ _ _)
      | (with_reducible exact ih2 _ _ _ _ _ _ _ _)
      | (with_reducible exact LeO.refl _)
      | (with_reducible exact LeO.none _)
      | (with_reducible refine LeO.ite ?_ ?_)
      | (with_reducible refine LeO.bind ?_ (fun _ => ?_))
      | exact ih0 _ _ _ _
      | exact ih1 _ _ _ _ _ _ _ _
      | exact ih2 _ _ _ _ _ _ _ _
      | exact LeO.none _
      | refine LeO.ite ?_ ?_
      | refine LeO.bind ?_ (fun _ => ?_)
    · intro y0 y1 y2 y3 y4 y5 y6 y7
      unfold trustquorumref02_Satisfied.l1
      repeat' first
      | (with_reducible exact ih0 _ _ _ _)
      | (with_reducible exact ih1 _ _ _ _ _ _ _ _)
      | (with_reducible exact ih2 _ _ _ _ _ _ _ _)
      | (with_reducible exact LeO.refl _)
      | (with_reducible exact LeO.none _)
      | (with_reducible refine LeO.ite ?_ ?_)
      | (with_reducible refine LeO.bind ?_ (fun _ => ?_))
      | exact ih0 _ _ _ _
      | exact ih1 _ _ _ _ _ _ _ _
      | exact ih2 _ _ _ _ _ _ _ _
      | exact LeO.none _
      | refine LeO.ite ?_ ?_
      | refine LeO.bind ?_ (fun _ => ?_)
theorem trustquorumref02_Satisfied.mono : ∀ a0 a1 a2 a3 k, LeO (trustquorumref02_Satisfied.f k a0 a1 a2 a3) (trustquorumref02_Satisfied.f (k + 1) a0 a1 a2 a3) := by
  intro a0 a1 a2 a3 k
  obtain ⟨ih0, ih1, ih2⟩ := trustquorumref02_Satisfied.mono_l k
  exact ih0 a0 a1 a2 a3
set_option maxHeartbeats 8000000 in
set_option maxRecDepth 100000 in
theorem trustquorumref02_Satisfied.calls (k : Nat) : ∀ (a0_0 : Int) (A0_1 : Option Addr) (c0_1 : Nat) (l0_1 : List Int) (A0_2 : Option Addr) (c0_2 : Nat) (l0_2 : List (S27)) (a1 : Int) (r : Bool) (w : World) (hr0_1 : Kd.C (Kd.int .i64) w A0_1 l0_1.length l0_1) (hc0_1 : l0_1.length ≤ c0_1) (hr0_2 : Kd.C k27 w A0_2 l0_2.length l0_2) (hc0_2 : l0_2.length ≤ c0_2) (h : trustquorumref02_Satisfied.f k a0_0 l0_1 l0_2 a1 = some r),
    Calls Try.prog 30 #[.agg #[.int .i64 a0_0, .slice A0_1 l0_1.length c0_1, .slice A0_2 l0_2.length c0_2], .int .i64 a1] w fun e w' => e = .returned (.bool r) ∧ Below w.heap.size w w' := by
 induction k using Nat.strongRecOn with
 | _ k ih =>
 intro a0_0 A0_1 c0_1 l0_1 A0_2 c0_2 l0_2 a1 r w hr0_1 hc0_1 hr0_2 hc0_2 h
 cases k with
 | zero => exact absurd h (by simp [trustquorumref02_Satisfied.f])
 | succ k =>
 simp only [trustquorumref02_Satisfied.f] at h; have hu27 := Try.underlying27; have HR0_1 := am hr0_1; have HC0_1 := am hc0_1; clear hr0_1 hc0_1; have HR0_2 := am hr0_2; have HC0_2 := am hc0_2; clear hr0_2 hc0_2; have HB := am (Below.refl w.heap.size w); have H : ((trustquorumref01_Valid.f a1).bind fun t404 => (if t404 = true then (trustquorumref02_Satisfied.l0 k a1 0 l0_1 (l0_1.length : Int) 0 a0_0 l0_1 l0_2) else (some false))) = some r := h; clear h; replace H := Option.bind_eq_some_iff.mp H; obtain ⟨t404, A30, H⟩ := H; replace H : (if t404 = true then (trustquorumref02_Satisfied.l0 k a1 0 l0_1 (l0_1.length : Int) 0 a0_0 l0_1 l0_2) else (some false)) = some r := H; have A3 := am A30; clear A30
 by_cases c4 : t404 = true
 ·
  subst c4; have H1 : (trustquorumref02_Satisfied.l0 k a1 0 l0_1 (l0_1.length : Int) 0 a0_0 l0_1 l0_2) = some r := by rw [if_pos rfl] at H; exact H
  clear H; have H := H1; clear H1; have H' := am H; clear H
  go_enter Try.func30, Try.ntmps30
  go_wp2_with (first | ((with_reducible refine gate_dst (N := 2) rfl ?_); refine box_event ?hg (N := 2) ?hd (cs := #[.int .i64 a0_0, .slice A0_1 l0_1.length c0_1, .slice A0_2 l0_2.length c0_2]) (t := 27) ?hr ?_; (case hd => rfl); (case hg => rfl); (case hr => first | (go_simp; done) | (go_simp; rfl)); intro gb403 hg w5 hbox hb; have BK403 := am (hbox); have GW403 := am ((by rw [hg]; exact (below_size HB.out) : w.heap.size ≤ gb403)); have GE403 := am ((by rw [hg]; exact (below_size HB.out) : w.heap.size ≤ gb403)); replace HB := bs HB hb; clear hb hbox hg) | ((with_reducible refine gate_callee (f := 45) rfl ?_); refine goesL_ (some 11) rfl rfl Try.func45 (by kernel_rfl) rfl #[.int .i64 a1] rfl ax ?_; (with_reducible refine (trustquorumref01_Valid.calls a1 true _ A3.out).mono ?_); rintro e w' ⟨rfl, ⟨nd, rfl⟩⟩; refine ⟨_, rfl, ?_⟩; have hcz6_0 : w5.cell? ⟨gb403, 0, none⟩ = some (.int .i64 a0_0) := (blk_cell BK403.out 0).trans rfl; have hcz6_1 : w5.cell? ⟨gb403, 1, none⟩ = some (.slice A0_1 l0_1.length c0_1) := (blk_cell BK403.out 1).trans rfl; have hcz6_2 : w5.cell? ⟨gb403, 2, none⟩ = some (.slice A0_2 l0_2.length c0_2) := (blk_cell BK403.out 2).trans rfl; have hfz6_0 := blk_frozen BK403.out 0; have hfz6_1 := blk_frozen BK403.out 1; have hfz6_2 := blk_frozen BK403.out 2))
  go_loopg [5, 16] k (fun kq v5 v16 w' => ∃ (x5_1 : Int) (x16_1 : Int), v5 = .int .i64 x5_1 ∧ v16 = .int .i64 x16_1 ∧ Aside0 (trustquorumref02_Satisfied.l0 kq a1 x5_1 l0_1 (l0_1.length : Int) x16_1 a0_0 l0_1 l0_2 = some r) ∧ Aside0 (kq ≤ k) ∧ Aside0 (w'.heap[gb403]? = some (.cells #[.int .i64 a0_0, (.slice A0_1 l0_1.length c0_1), (.slice A0_2 l0_2.length c0_2)] 27 (0, 0))) ∧ Aside0 (Below w.heap.size w w'))
  case atStart => exact ⟨(0), (0), ar, ar, H', ⟨Nat.le_refl _⟩, ⟨by (with_reducible repeat first | apply blk_drewN | apply blk_drew | apply blk_alloc); exact BK403.out⟩, ⟨by repeat (first | (with_reducible first | exact HB.out | apply below_alloc | apply pw_below_drewN | apply below_drew1 | refine below_set ?_ GE403.out) | exact HB.out)⟩⟩
  case round =>
   clear H'; (try clear p2); (try clear c3); (try clear c4); (try clear p6); (try clear hcz6_0 hcz6_1 hcz6_2 hfz6_0 hfz6_1 hfz6_2); obtain ⟨x5_1, x16_1, rfl, rfl, HA, HK1, BK403, HB⟩ := hrel
   cases gk with
   | zero => exact absurd HA.out (by simp [trustquorumref02_Satisfied.l0])
   | succ k1 =>
    have H := HA.out; clear HA; simp only [trustquorumref02_Satisfied.l0] at H
    by_cases c7 : x16_1 < (l0_1.length : Int)
    ·
     rw [if_pos c7] at H; have c7b0 : decide (x16_1 < (l0_1.length : Int)) = true := decide_eq_true c7; clear c7
     by_cases c8 : 0 ≤ x16_1
     ·
      rw [if_pos c8] at H; have c8b0 : decide (0 ≤ x16_1) = true := decide_eq_true c8; clear c8
      by_cases c9 : x16_1 < (l0_1.length : Int)
      ·
       rw [if_pos c9] at H; have c9b0 : decide (x16_1 < (l0_1.length : Int)) = true := decide_eq_true c9; clear c9; replace H := Option.bind_eq_some_iff.mp H; obtain ⟨t406, A100, H⟩ := H; replace H : (if t406 = true then (trustquorumref02_Satisfied.l0 k1 a1 (wrap64 (x5_1 + 1)) l0_1 (l0_1.length : Int) (wrap64 (x16_1 + 1)) a0_0 l0_1 l0_2) else (trustquorumref02_Satisfied.l0 k1 a1 x5_1 l0_1 (l0_1.length : Int) (wrap64 (x16_1 + 1)) a0_0 l0_1 l0_2)) = some r := H; have A10 := am A100; clear A100
       by_cases c11 : t406 = true
       ·
        subst c11; have H1 : (trustquorumref02_Satisfied.l0 k1 a1 (wrap64 (x5_1 + 1)) l0_1 (l0_1.length : Int) (wrap64 (x16_1 + 1)) a0_0 l0_1 l0_2) = some r := by rw [if_pos rfl] at H; exact H
        clear H; have H := H1; clear H1; have H' := am H; clear H; have p405 : 0 ≤ (x16_1 : Int) := od; have q405 : x16_1 < (l0_1.length : Int) := od; obtain ⟨ad405, e405, hx405_0⟩ := Kd.at_int HR0_1.out x16_1 p405 q405
        cases e405
        replace hx405_0 := (HB.out.cell (World.block_lt_of_cell? w _ hx405_0)).trans hx405_0; replace p405 := eq_true p405; replace q405 := eq_true q405
        go_wp2_with (first | ((with_reducible refine gate_callee (f := 46) rfl ?_); refine goesL_ (some 22) rfl rfl Try.func46 (by kernel_rfl) rfl #[.int .i64 a1, .int .i64 (rd l0_1 x16_1)] rfl ax ?_; (with_reducible refine (trustquorumref01_Has.calls a1 (rd l0_1 x16_1) true _ A10.out).mono ?_); rintro e w' ⟨rfl, ⟨nd, rfl⟩⟩; refine ⟨_, rfl, ?_⟩))
        go_roundg k1
        case measure => have := HK1.out; omega
        case rel => exact ⟨(wrap64 (x5_1 + 1)), (wrap64 (x16_1 + 1)), ar, ar, H', ⟨by have := HK1.out; omega⟩, ⟨by (with_reducible repeat first | apply blk_drewN | apply blk_drew | apply blk_alloc); exact BK403.out⟩, ⟨by repeat (first | (with_reducible first | exact HB.out | apply below_alloc | apply pw_below_drewN | apply below_drew1 | refine below_set ?_ GE403.out) | exact HB.out)⟩⟩
       ·
        replace c11 := Bool.eq_false_iff.mpr c11; subst c11; have H1 : (trustquorumref02_Satisfied.l0 k1 a1 x5_1 l0_1 (l0_1.length : Int) (wrap64 (x16_1 + 1)) a0_0 l0_1 l0_2) = some r := by rw [if_neg (show ¬ (false = true) by decide)] at H; exact H
        clear H; have H := H1; clear H1; have H' := am H; clear H; have p405 : 0 ≤ (x16_1 : Int) := od; have q405 : x16_1 < (l0_1.length : Int) := od; obtain ⟨ad405, e405, hx405_0⟩ := Kd.at_int HR0_1.out x16_1 p405 q405
        cases e405
        replace hx405_0 := (HB.out.cell (World.block_lt_of_cell? w _ hx405_0)).trans hx405_0; replace p405 := eq_true p405; replace q405 := eq_true q405
        go_wp2_with (first | ((with_reducible refine gate_callee (f := 46) rfl ?_); refine goesL_ (some 22) rfl rfl Try.func46 (by kernel_rfl) rfl #[.int .i64 a1, .int .i64 (rd l0_1 x16_1)] rfl ax ?_; (with_reducible refine (trustquorumref01_Has.calls a1 (rd l0_1 x16_1) false _ A10.out).mono ?_); rintro e w' ⟨rfl, ⟨nd, rfl⟩⟩; refine ⟨_, rfl, ?_⟩))
        go_roundg k1
        case measure => have := HK1.out; omega
        case rel => exact ⟨(x5_1), (wrap64 (x16_1 + 1)), ar, ar, H', ⟨by have := HK1.out; omega⟩, ⟨by (with_reducible repeat first | apply blk_drewN | apply blk_drew | apply blk_alloc); exact BK403.out⟩, ⟨by repeat (first | (with_reducible first | exact HB.out | apply below_alloc | apply pw_below_drewN | apply below_drew1 | refine below_set ?_ GE403.out) | exact HB.out)⟩⟩
      ·
       rw [if_neg c9] at H; exact absurd H (by simp)
     ·
      rw [if_neg c8] at H; exact absurd H (by simp)
    ·
     rw [if_neg c7] at H; have c7b0 : decide (x16_1 < (l0_1.length : Int)) = false := decide_eq_false c7; clear c7; have H' := am H; clear H; obtain ⟨hcz12_0, hcz12_1, hcz12_2, hfz12_0, hfz12_1, hfz12_2⟩ := blkC3 BK403.out
     go_wp2
     go_loopg [5, 29] k1 (fun kq v5 v29 w' => ∃ (x5_2 : Int) (x29_2 : Int), v5 = .int .i64 x5_2 ∧ v29 = .int .i64 x29_2 ∧ Aside0 (trustquorumref02_Satisfied.l1 kq a1 x5_2 l0_2 (l0_2.length : Int) x29_2 a0_0 l0_1 l0_2 = some r) ∧ Aside0 (kq ≤ k1) ∧ Aside0 (w'.heap[gb403]? = some (.cells #[.int .i64 a0_0, (.slice A0_1 l0_1.length c0_1), (.slice A0_2 l0_2.length c0_2)] 27 (0, 0))) ∧ Aside0 (Below w.heap.size w w'))
     case atStart => exact ⟨(x5_1), (0), ar, ar, H', ⟨Nat.le_refl _⟩, ⟨by exact BK403.out⟩, ⟨by exact HB.out⟩⟩
     case round =>
      clear H'; (try clear c1); (try clear p2); (try clear c3); (try clear c4); (try clear p4); (try clear q4); (try clear hx4); (try clear p6); (try clear c7); (try clear c7b0); (try clear c8); (try clear c8b0); (try clear c9); (try clear c9b0); (try clear c11); (try clear hcz12_0 hcz12_1 hcz12_2); (try clear hcz6_0 hcz6_1 hcz6_2); (try clear hfz12_0 hfz12_1 hfz12_2); (try clear hfz6_0 hfz6_1 hfz6_2); (try clear hx405_0); (try clear p2); (try clear p405); (try clear p6); (try clear q405); obtain ⟨x5_2, x29_2, rfl, rfl, HA, HK2, BK403, HB⟩ := hrel
      cases gk with
      | zero => exact absurd HA.out (by simp [trustquorumref02_Satisfied.l1])
      | succ k2 =>
       have H := HA.out; clear HA; simp only [trustquorumref02_Satisfied.l1] at H
       by_cases c13 : x29_2 < (l0_2.length : Int)
       ·
        rw [if_pos c13] at H; have c13b0 : decide (x29_2 < (l0_2.length : Int)) = true := decide_eq_true c13; clear c13
        by_cases c14 : 0 ≤ x29_2
        ·
         rw [if_pos c14] at H; have c14b0 : decide (0 ≤ x29_2) = true := decide_eq_true c14; clear c14
         by_cases c15 : x29_2 < (l0_2.length : Int)
         ·
          rw [if_pos c15] at H; have c15b0 : decide (x29_2 < (l0_2.length : Int)) = true := decide_eq_true c15; clear c15; replace H := Option.bind_eq_some_iff.mp H; obtain ⟨t409, A160, H⟩ := H; replace H : (if t409 = true then (trustquorumref02_Satisfied.l1 k2 a1 (wrap64 (x5_2 + 1)) l0_2 (l0_2.length : Int) (wrap64 (x29_2 + 1)) a0_0 l0_1 l0_2) else (trustquorumref02_Satisfied.l1 k2 a1 x5_2 l0_2 (l0_2.length : Int) (wrap64 (x29_2 + 1)) a0_0 l0_1 l0_2)) = some r := H; have A16 := am A160; clear A160
          by_cases c17 : t409 = true
          ·
           subst c17; have H1 : (trustquorumref02_Satisfied.l1 k2 a1 (wrap64 (x5_2 + 1)) l0_2 (l0_2.length : Int) (wrap64 (x29_2 + 1)) a0_0 l0_1 l0_2) = some r := by rw [if_pos rfl] at H; exact H
           clear H; have H := H1; clear H1; have H' := am H; clear H; have p407 : 0 ≤ (x29_2 : Int) := od; have q407 : x29_2 < (l0_2.length : Int) := od; obtain ⟨ad407, A407_1, c407_1, A407_2, c407_2, e407, hx407_0, hx407_1, hx407_2, hl407_1, hi407_1, hl407_2, hi407_2⟩ := at_T27 HR0_2.out x29_2 p407 q407
           cases e407
           replace hx407_0 := (HB.out.cell (World.block_lt_of_cell? w _ hx407_0)).trans hx407_0; replace hx407_1 := (HB.out.cell (World.block_lt_of_cell? w _ hx407_1)).trans hx407_1; replace hx407_2 := (HB.out.cell (World.block_lt_of_cell? w _ hx407_2)).trans hx407_2; have HR407_1 := am hi407_1; have HC407_1 := am hl407_1; clear hi407_1 hl407_1; have HR407_2 := am hi407_2; have HC407_2 := am hl407_2; clear hi407_2 hl407_2; replace p407 := eq_true p407; replace q407 := eq_true q407
           go_wp2_with (first | ((with_reducible refine gate_dst (N := 9) rfl ?_); refine box_event ?hg (N := 9) ?hd (cs := #[.int .i64 0, .slice none 0 0, .slice none 0 0]) (t := 27) ?hr ?_; (case hd => rfl); (case hg => rfl); (case hr => first | (go_simp; done) | (go_simp; rfl)); intro gb408 hg w18 hbox hb; have BK408 := am (hbox); have GW408 := am ((by rw [hg]; exact (below_size HB.out) : w.heap.size ≤ gb408)); have GE408 := am ((by rw [hg]; exact (below_size HB.out) : w.heap.size ≤ gb408)); replace HB := bs HB hb; have NB403_408 := am ((by rw [hg]; exact Nat.ne_of_lt (blk_lt BK403.out) : gb403 ≠ gb408)); have NB408_403 := am ((by rw [hg]; exact Nat.ne_of_gt (blk_lt BK403.out) : gb408 ≠ gb403)); replace BK403 := bb BK403 hb; clear hb hbox hg; have hnb19 := NB408_403.out; have hnc19 := NB403_408.out; obtain ⟨hcz20_0, hcz20_1, hcz20_2, hfz20_0, hfz20_1, hfz20_2⟩ := blkC3 BK408.out) | ((with_reducible refine gate_callee (f := 30) rfl ?_); refine goesL_ (some 35) rfl rfl Try.func30 (by kernel_rfl) rfl #[.agg #[.int .i64 ((rd_T27 l0_2 x29_2).f0), .slice A407_1 ((rd_T27 l0_2 x29_2).f1).length c407_1, .slice A407_2 ((rd_T27 l0_2 x29_2).f2).length c407_2], .int .i64 a1] rfl ax ?_; (with_reducible refine (ih k2 (by have := HK1.out; have := HK2.out; omega) ((rd_T27 l0_2 x29_2).f0) _ _ ((rd_T27 l0_2 x29_2).f1) _ _ ((rd_T27 l0_2 x29_2).f2) a1 true _ ?side1 ?side2 ?side3 ?side4 A16.out).mono ?_); (case side1 => exact Kd.C_below HR407_1.out (by repeat (first | (with_reducible first | exact HB.out | apply below_alloc | apply pw_below_drewN | apply below_drew1 | refine below_set ?_ GE403.out | refine below_set ?_ GE408.out) | exact HB.out))); (case side2 => exact HC407_1.out); (case side3 => exact Kd.C_below HR407_2.out (by repeat (first | (with_reducible first | exact HB.out | apply below_alloc | apply pw_below_drewN | apply below_drew1 | refine below_set ?_ GE403.out | refine below_set ?_ GE408.out) | exact HB.out))); (case side4 => exact HC407_2.out); rintro e w21 ⟨rfl, hb⟩; refine ⟨_, rfl, ?_⟩; replace BK403 := am (blk_below (g := gb403) (o := .cells #[.int .i64 a0_0, .slice A0_1 l0_1.length c0_1, .slice (some ad407) l0_2.length c0_2] 27 (0, 0)) (by (with_reducible repeat first | apply blk_drewN | apply blk_drew | apply blk_alloc); refine blk_far ?_ NB403_408.out _; (with_reducible repeat first | apply blk_drewN | apply blk_drew | apply blk_alloc); refine blk_far ?_ NB403_408.out _; (with_reducible repeat first | apply blk_drewN | apply blk_drew | apply blk_alloc); refine blk_far ?_ NB403_408.out _; (with_reducible repeat first | apply blk_drewN | apply blk_drew | apply blk_alloc); exact BK403.out) hb); replace BK408 := am (blk_below (g := gb408) (o := .cells #[.int .i64 ((rd_T27 l0_2 x29_2).f0), .slice A407_1 ((rd_T27 l0_2 x29_2).f1).length c407_1, .slice A407_2 ((rd_T27 l0_2 x29_2).f2).length c407_2] 27 (0, 0)) (by (with_reducible repeat first | apply blk_drewN | apply blk_drew | apply blk_alloc); refine blk_put (cs := #[.int .i64 ((rd_T27 l0_2 x29_2).f0), .slice A407_1 ((rd_T27 l0_2 x29_2).f1).length c407_1, .slice none 0 0]) ?_ 2 _ rfl; (with_reducible repeat first | apply blk_drewN | apply blk_drew | apply blk_alloc); refine blk_put (cs := #[.int .i64 ((rd_T27 l0_2 x29_2).f0), .slice none 0 0, .slice none 0 0]) ?_ 1 _ rfl; (with_reducible repeat first | apply blk_drewN | apply blk_drew | apply blk_alloc); refine blk_put (cs := #[.int .i64 0, .slice none 0 0, .slice none 0 0]) ?_ 0 _ rfl; (with_reducible repeat first | apply blk_drewN | apply blk_drew | apply blk_alloc); exact BK408.out) hb); replace HB := am (below_step (by repeat (first | (with_reducible first | exact HB.out | apply below_alloc | apply pw_below_drewN | apply below_drew1 | refine below_set ?_ GE403.out | refine below_set ?_ GE408.out) | exact HB.out)) hb); (try clear hb); (try clear hb2); (try clear hk); (try clear hi)))
           go_roundg k2
           case measure => have := HK1.out; have := HK2.out; omega
           case rel => exact ⟨(wrap64 (x5_2 + 1)), (wrap64 (x29_2 + 1)), ar, ar, H', ⟨by have := HK1.out; have := HK2.out; omega⟩, ⟨by exact BK403.out⟩, ⟨by exact HB.out⟩⟩
          ·
           replace c17 := Bool.eq_false_iff.mpr c17; subst c17; have H1 : (trustquorumref02_Satisfied.l1 k2 a1 x5_2 l0_2 (l0_2.length : Int) (wrap64 (x29_2 + 1)) a0_0 l0_1 l0_2) = some r := by rw [if_neg (show ¬ (false = true) by decide)] at H; exact H
           clear H; have H := H1; clear H1; have H' := am H; clear H; have p407 : 0 ≤ (x29_2 : Int) := od; have q407 : x29_2 < (l0_2.length : Int) := od; obtain ⟨ad407, A407_1, c407_1, A407_2, c407_2, e407, hx407_0, hx407_1, hx407_2, hl407_1, hi407_1, hl407_2, hi407_2⟩ := at_T27 HR0_2.out x29_2 p407 q407
           cases e407
           replace hx407_0 := (HB.out.cell (World.block_lt_of_cell? w _ hx407_0)).trans hx407_0; replace hx407_1 := (HB.out.cell (World.block_lt_of_cell? w _ hx407_1)).trans hx407_1; replace hx407_2 := (HB.out.cell (World.block_lt_of_cell? w _ hx407_2)).trans hx407_2; have HR407_1 := am hi407_1; have HC407_1 := am hl407_1; clear hi407_1 hl407_1; have HR407_2 := am hi407_2; have HC407_2 := am hl407_2; clear hi407_2 hl407_2; replace p407 := eq_true p407; replace q407 := eq_true q407
           go_wp2_with (first | ((with_reducible refine gate_dst (N := 9) rfl ?_); refine box_event ?hg (N := 9) ?hd (cs := #[.int .i64 0, .slice none 0 0, .slice none 0 0]) (t := 27) ?hr ?_; (case hd => rfl); (case hg => rfl); (case hr => first | (go_simp; done) | (go_simp; rfl)); intro gb408 hg w22 hbox hb; have BK408 := am (hbox); have GW408 := am ((by rw [hg]; exact (below_size HB.out) : w.heap.size ≤ gb408)); have GE408 := am ((by rw [hg]; exact (below_size HB.out) : w.heap.size ≤ gb408)); replace HB := bs HB hb; have NB403_408 := am ((by rw [hg]; exact Nat.ne_of_lt (blk_lt BK403.out) : gb403 ≠ gb408)); have NB408_403 := am ((by rw [hg]; exact Nat.ne_of_gt (blk_lt BK403.out) : gb408 ≠ gb403)); replace BK403 := bb BK403 hb; clear hb hbox hg; have hnb23 := NB408_403.out; have hnc23 := NB403_408.out; obtain ⟨hcz24_0, hcz24_1, hcz24_2, hfz24_0, hfz24_1, hfz24_2⟩ := blkC3 BK408.out) | ((with_reducible refine gate_callee (f := 30) rfl ?_); refine goesL_ (some 35) rfl rfl Try.func30 (by kernel_rfl) rfl #[.agg #[.int .i64 ((rd_T27 l0_2 x29_2).f0), .slice A407_1 ((rd_T27 l0_2 x29_2).f1).length c407_1, .slice A407_2 ((rd_T27 l0_2 x29_2).f2).length c407_2], .int .i64 a1] rfl ax ?_; (with_reducible refine (ih k2 (by have := HK1.out; have := HK2.out; omega) ((rd_T27 l0_2 x29_2).f0) _ _ ((rd_T27 l0_2 x29_2).f1) _ _ ((rd_T27 l0_2 x29_2).f2) a1 false _ ?side1 ?side2 ?side3 ?side4 A16.out).mono ?_); (case side1 => exact Kd.C_below HR407_1.out (by repeat (first | (with_reducible first | exact HB.out | apply below_alloc | apply pw_below_drewN | apply below_drew1 | refine below_set ?_ GE403.out | refine below_set ?_ GE408.out) | exact HB.out))); (case side2 => exact HC407_1.out); (case side3 => exact Kd.C_below HR407_2.out (by repeat (first | (with_reducible first | exact HB.out | apply below_alloc | apply pw_below_drewN | apply below_drew1 | refine below_set ?_ GE403.out | refine below_set ?_ GE408.out) | exact HB.out))); (case side4 => exact HC407_2.out); rintro e w25 ⟨rfl, hb⟩; refine ⟨_, rfl, ?_⟩; replace BK403 := am (blk_below (g := gb403) (o := .cells #[.int .i64 a0_0, .slice A0_1 l0_1.length c0_1, .slice (some ad407) l0_2.length c0_2] 27 (0, 0)) (by (with_reducible repeat first | apply blk_drewN | apply blk_drew | apply blk_alloc); refine blk_far ?_ NB403_408.out _; (with_reducible repeat first | apply blk_drewN | apply blk_drew | apply blk_alloc); refine blk_far ?_ NB403_408.out _; (with_reducible repeat first | apply blk_drewN | apply blk_drew | apply blk_alloc); refine blk_far ?_ NB403_408.out _; (with_reducible repeat first | apply blk_drewN | apply blk_drew | apply blk_alloc); exact BK403.out) hb); replace BK408 := am (blk_below (g := gb408) (o := .cells #[.int .i64 ((rd_T27 l0_2 x29_2).f0), .slice A407_1 ((rd_T27 l0_2 x29_2).f1).length c407_1, .slice A407_2 ((rd_T27 l0_2 x29_2).f2).length c407_2] 27 (0, 0)) (by (with_reducible repeat first | apply blk_drewN | apply blk_drew | apply blk_alloc); refine blk_put (cs := #[.int .i64 ((rd_T27 l0_2 x29_2).f0), .slice A407_1 ((rd_T27 l0_2 x29_2).f1).length c407_1, .slice none 0 0]) ?_ 2 _ rfl; (with_reducible repeat first | apply blk_drewN | apply blk_drew | apply blk_alloc); refine blk_put (cs := #[.int .i64 ((rd_T27 l0_2 x29_2).f0), .slice none 0 0, .slice none 0 0]) ?_ 1 _ rfl; (with_reducible repeat first | apply blk_drewN | apply blk_drew | apply blk_alloc); refine blk_put (cs := #[.int .i64 0, .slice none 0 0, .slice none 0 0]) ?_ 0 _ rfl; (with_reducible repeat first | apply blk_drewN | apply blk_drew | apply blk_alloc); exact BK408.out) hb); replace HB := am (below_step (by repeat (first | (with_reducible first | exact HB.out | apply below_alloc | apply pw_below_drewN | apply below_drew1 | refine below_set ?_ GE403.out | refine below_set ?_ GE408.out) | exact HB.out)) hb); (try clear hb); (try clear hb2); (try clear hk); (try clear hi)))
           go_roundg k2
           case measure => have := HK1.out; have := HK2.out; omega
           case rel => exact ⟨(x5_2), (wrap64 (x29_2 + 1)), ar, ar, H', ⟨by have := HK1.out; have := HK2.out; omega⟩, ⟨by exact BK403.out⟩, ⟨by exact HB.out⟩⟩
         ·
          rw [if_neg c15] at H; exact absurd H (by simp)
        ·
         rw [if_neg c14] at H; exact absurd H (by simp)
       ·
        rw [if_neg c13] at H; have c13b0 : decide (x29_2 < (l0_2.length : Int)) = false := decide_eq_false c13; clear c13; obtain rfl := Option.some.inj H; obtain ⟨hcz26_0, hcz26_1, hcz26_2, hfz26_0, hfz26_1, hfz26_2⟩ := blkC3 BK403.out
        go_wp2
        go_ret
        exact ⟨er, by exact HB.out⟩
 ·
  replace c4 := Bool.eq_false_iff.mpr c4; subst c4; have H1 : (some false) = some r := by rw [if_neg (show ¬ (false = true) by decide)] at H; exact H
  clear H; have H := H1; clear H1; obtain rfl := Option.some.inj H
  go_enter Try.func30, Try.ntmps30
  go_wp2_with (first | ((with_reducible refine gate_dst (N := 2) rfl ?_); refine box_event ?hg (N := 2) ?hd (cs := #[.int .i64 a0_0, .slice A0_1 l0_1.length c0_1, .slice A0_2 l0_2.length c0_2]) (t := 27) ?hr ?_; (case hd => rfl); (case hg => rfl); (case hr => first | (go_simp; done) | (go_simp; rfl)); intro gb403 hg w27 hbox hb; have BK403 := am (hbox); have GW403 := am ((by rw [hg]; exact (below_size HB.out) : w.heap.size ≤ gb403)); have GE403 := am ((by rw [hg]; exact (below_size HB.out) : w.heap.size ≤ gb403)); replace HB := bs HB hb; clear hb hbox hg) | ((with_reducible refine gate_callee (f := 45) rfl ?_); refine goesL_ (some 11) rfl rfl Try.func45 (by kernel_rfl) rfl #[.int .i64 a1] rfl ax ?_; (with_reducible refine (trustquorumref01_Valid.calls a1 false _ A3.out).mono ?_); rintro e w' ⟨rfl, ⟨nd, rfl⟩⟩; refine ⟨_, rfl, ?_⟩))
  go_ret
  exact ⟨er, by repeat (first | (with_reducible first | exact HB.out | apply below_alloc | apply pw_below_drewN | apply below_drew1 | refine below_set ?_ GE403.out) | exact HB.out)⟩
/-! ### trustquorumref02_Blocked: function 31 -/
def trustquorumref02_Blocked.f (k : Nat) (a0_0 : Int) (l0_1 : List Int) (l0_2 : List (S27)) (a1 : Int) : Option (Bool) := (trustquorumref01_Valid.f a1).bind fun t411 => (if t411 = true then ((trustquorumref02_Satisfied.f k a0_0 l0_1 l0_2 (wrap64 (1023 - a1))).bind fun t412 => (some (!t412))) else (some false))
theorem trustquorumref02_Blocked.mono : ∀ a0 a1 a2 a3 k, LeO (trustquorumref02_Blocked.f k a0 a1 a2 a3) (trustquorumref02_Blocked.f (k + 1) a0 a1 a2 a3) := by
  intro a0 a1 a2 a3 k
  unfold trustquorumref02_Blocked.f
  repeat' first
      | (with_reducible exact trustquorumref02_Satisfied.mono _ _ _ _ _)
      | (with_reducible exact LeO.refl _)
      | (with_reducible exact LeO.none _)
      | (with_reducible refine LeO.ite ?_ ?_)
      | (with_reducible refine LeO.bind ?_ (fun _ => ?_))
      | exact trustquorumref02_Satisfied.mono _ _ _ _ _
      | exact LeO.none _
      | refine LeO.ite ?_ ?_
      | refine LeO.bind ?_ (fun _ => ?_)
set_option maxHeartbeats 8000000 in
set_option maxRecDepth 100000 in
theorem trustquorumref02_Blocked.calls (k : Nat) (a0_0 : Int) (A0_1 : Option Addr) (c0_1 : Nat) (l0_1 : List Int) (A0_2 : Option Addr) (c0_2 : Nat) (l0_2 : List (S27)) (a1 : Int) (r : Bool) (w : World) (hr0_1 : Kd.C (Kd.int .i64) w A0_1 l0_1.length l0_1) (hc0_1 : l0_1.length ≤ c0_1) (hr0_2 : Kd.C k27 w A0_2 l0_2.length l0_2) (hc0_2 : l0_2.length ≤ c0_2) (h : trustquorumref02_Blocked.f k a0_0 l0_1 l0_2 a1 = some r) :
    Calls Try.prog 31 #[.agg #[.int .i64 a0_0, .slice A0_1 l0_1.length c0_1, .slice A0_2 l0_2.length c0_2], .int .i64 a1] w fun e w' => e = .returned (.bool r) ∧ Below w.heap.size w w' := by
 have hu27 := Try.underlying27; have HR0_1 := am hr0_1; have HC0_1 := am hc0_1; clear hr0_1 hc0_1; have HR0_2 := am hr0_2; have HC0_2 := am hc0_2; clear hr0_2 hc0_2; have HB := am (Below.refl w.heap.size w); have H : ((trustquorumref01_Valid.f a1).bind fun t411 => (if t411 = true then ((trustquorumref02_Satisfied.f k a0_0 l0_1 l0_2 (wrap64 (1023 - a1))).bind fun t412 => (some (!t412))) else (some false))) = some r := h; clear h; replace H := Option.bind_eq_some_iff.mp H; obtain ⟨t411, A30, H⟩ := H; replace H : (if t411 = true then ((trustquorumref02_Satisfied.f k a0_0 l0_1 l0_2 (wrap64 (1023 - a1))).bind fun t412 => (some (!t412))) else (some false)) = some r := H; have A3 := am A30; clear A30
 by_cases c4 : t411 = true
 ·
  subst c4; have H1 : ((trustquorumref02_Satisfied.f k a0_0 l0_1 l0_2 (wrap64 (1023 - a1))).bind fun t412 => (some (!t412))) = some r := by rw [if_pos rfl] at H; exact H
  clear H; have H := H1; clear H1; replace H := Option.bind_eq_some_iff.mp H; obtain ⟨t412, A50, H⟩ := H; replace H : (some (!t412)) = some r := H; have A5 := am A50; clear A50; obtain rfl := Option.some.inj H
  go_enter Try.func31, Try.ntmps31
  go_wp2_with (first | ((with_reducible refine gate_dst (N := 2) rfl ?_); refine box_event ?hg (N := 2) ?hd (cs := #[.int .i64 a0_0, .slice A0_1 l0_1.length c0_1, .slice A0_2 l0_2.length c0_2]) (t := 27) ?hr ?_; (case hd => rfl); (case hg => rfl); (case hr => first | (go_simp; done) | (go_simp; rfl)); intro gb410 hg w6 hbox hb; have BK410 := am (hbox); have GW410 := am ((by rw [hg]; exact (below_size HB.out) : w.heap.size ≤ gb410)); have GE410 := am ((by rw [hg]; exact (below_size HB.out) : w.heap.size ≤ gb410)); replace HB := bs HB hb; clear hb hbox hg) | ((with_reducible refine gate_callee (f := 45) rfl ?_); refine goesL_ (some 6) rfl rfl Try.func45 (by kernel_rfl) rfl #[.int .i64 a1] rfl ax ?_; (with_reducible refine (trustquorumref01_Valid.calls a1 true _ A3.out).mono ?_); rintro e w' ⟨rfl, ⟨nd, rfl⟩⟩; refine ⟨_, rfl, ?_⟩; have hcz7_0 : w6.cell? ⟨gb410, 0, none⟩ = some (.int .i64 a0_0) := (blk_cell BK410.out 0).trans rfl; have hcz7_1 : w6.cell? ⟨gb410, 1, none⟩ = some (.slice A0_1 l0_1.length c0_1) := (blk_cell BK410.out 1).trans rfl; have hcz7_2 : w6.cell? ⟨gb410, 2, none⟩ = some (.slice A0_2 l0_2.length c0_2) := (blk_cell BK410.out 2).trans rfl; have hfz7_0 := blk_frozen BK410.out 0; have hfz7_1 := blk_frozen BK410.out 1; have hfz7_2 := blk_frozen BK410.out 2) | (go_at_call 30; (with_reducible refine (trustquorumref02_Satisfied.calls k a0_0 _ _ l0_1 _ _ l0_2 (wrap64 (1023 - a1)) t412 _ ?side1 ?side2 ?side3 ?side4 A5.out).mono ?_); (case side1 => repeat (first | exact (Kd.C_below HR0_1.out (by repeat (first | (with_reducible first | exact HB.out | apply below_alloc | apply pw_below_drewN | apply below_drew1 | refine below_set ?_ GE410.out) | exact HB.out))) | (with_reducible refine Kd.C_alloc ?_ _) | (with_reducible refine Kd.C_drewN ?_ _) | (with_reducible refine Kd.C_drew ?_))); (case side2 => exact HC0_1.out); (case side3 => repeat (first | exact (Kd.C_below HR0_2.out (by repeat (first | (with_reducible first | exact HB.out | apply below_alloc | apply pw_below_drewN | apply below_drew1 | refine below_set ?_ GE410.out) | exact HB.out))) | (with_reducible refine Kd.C_alloc ?_ _) | (with_reducible refine Kd.C_drewN ?_ _) | (with_reducible refine Kd.C_drew ?_))); (case side4 => exact HC0_2.out); rintro e w8 ⟨rfl, hb⟩; replace BK410 := am (blk_below (g := gb410) (o := .cells #[.int .i64 a0_0, .slice A0_1 l0_1.length c0_1, .slice A0_2 l0_2.length c0_2] 27 (0, 0)) (by (with_reducible repeat first | apply blk_drewN | apply blk_drew | apply blk_alloc); exact BK410.out) hb); replace HB := am (below_step (by repeat (first | (with_reducible first | exact HB.out | apply below_alloc | apply pw_below_drewN | apply below_drew1 | refine below_set ?_ GE410.out) | exact HB.out)) hb); (try clear hb); (try clear hb2); (try clear hk); (try clear hi)))
  go_ret
  exact ⟨er, by exact HB.out⟩
 ·
  replace c4 := Bool.eq_false_iff.mpr c4; subst c4; have H1 : (some false) = some r := by rw [if_neg (show ¬ (false = true) by decide)] at H; exact H
  clear H; have H := H1; clear H1; obtain rfl := Option.some.inj H
  go_enter Try.func31, Try.ntmps31
  go_wp2_with (first | ((with_reducible refine gate_dst (N := 2) rfl ?_); refine box_event ?hg (N := 2) ?hd (cs := #[.int .i64 a0_0, .slice A0_1 l0_1.length c0_1, .slice A0_2 l0_2.length c0_2]) (t := 27) ?hr ?_; (case hd => rfl); (case hg => rfl); (case hr => first | (go_simp; done) | (go_simp; rfl)); intro gb410 hg w9 hbox hb; have BK410 := am (hbox); have GW410 := am ((by rw [hg]; exact (below_size HB.out) : w.heap.size ≤ gb410)); have GE410 := am ((by rw [hg]; exact (below_size HB.out) : w.heap.size ≤ gb410)); replace HB := bs HB hb; clear hb hbox hg) | ((with_reducible refine gate_callee (f := 45) rfl ?_); refine goesL_ (some 6) rfl rfl Try.func45 (by kernel_rfl) rfl #[.int .i64 a1] rfl ax ?_; (with_reducible refine (trustquorumref01_Valid.calls a1 false _ A3.out).mono ?_); rintro e w' ⟨rfl, ⟨nd, rfl⟩⟩; refine ⟨_, rfl, ?_⟩))
  go_ret
  exact ⟨er, by repeat (first | (with_reducible first | exact HB.out | apply below_alloc | apply pw_below_drewN | apply below_drew1 | refine below_set ?_ GE410.out) | exact HB.out)⟩
end Go.Proofs.Yteljoemeogeidaa.QThresholdAnswers
