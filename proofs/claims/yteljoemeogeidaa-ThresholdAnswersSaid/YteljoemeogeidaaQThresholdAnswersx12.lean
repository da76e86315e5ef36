/- Lean functions that answer as the Go functions do which the law reaches, and proofs that the Go code comes to exactly these answers. Conditions: those that each theorem names. -/
import Derived.Test.YteljoemeogeidaaQThresholdAnswersx0
import Derived.Test.YteljoemeogeidaaQThresholdAnswersx11
namespace Go.Proofs.Yteljoemeogeidaa.QThresholdAnswers
open Go.RowKit Go.Proofs.YteljoemeogeidaaW.PrintWords Go.Proofs.YteljoemeogeidaaW.PrintLast Go.Proofs.YteljoemeogeidaaW.PrintMore
attribute [local go_sem] max2_int min2_int max_two min_two max_three min_three max_four min_four   -- for this text's walks alone
set_option linter.unusedVariables false
set_option linter.unusedSimpArgs false

/-! ### trustquorumref02_Same: function 28 -/
mutual
def trustquorumref02_Same.j0 : Nat → Bool → Int → List Int → List (S27) → Int → List Int → List (S27) → Option (Bool)
  | 0, _, _, _, _, _, _, _ => none
  | k + 1, x27, x377000, x377001, x377002, x378000, x378001, x378002 => if x27 = true then (some false) else (trustquorumref02_Same.l0 k (x377002.length : Int) 0 x377000 x377001 x377002 x378000 x378001 x378002)
def trustquorumref02_Same.l0 : Nat → Int → Int → Int → List Int → List (S27) → Int → List Int → List (S27) → Option (Bool)
  | 0, _, _, _, _, _, _, _, _ => none
  | k + 1, x30, x31, x377000, x377001, x377002, x378000, x378001, x378002 => if x31 < x30 then (if 0 ≤ x31 then (if x31 < (x377002.length : Int) then (if x31 < (x378002.length : Int) then ((trustquorumref02_Same.f k ((rd_T27 x377002 x31).f0) ((rd_T27 x377002 x31).f1) ((rd_T27 x377002 x31).f2) ((rd_T27 x378002 x31).f0) ((rd_T27 x378002 x31).f1) ((rd_T27 x378002 x31).f2)).bind fun t381 => (if t381 = true then (trustquorumref02_Same.l0 k x30 (wrap64 (x31 + 1)) x377000 x377001 x377002 x378000 x378001 x378002) else (some false))) else (none)) else (none)) else (none)) else (some true)
def trustquorumref02_Same.f : Nat → Int → List Int → List (S27) → Int → List Int → List (S27) → Option (Bool)
  | 0, _, _, _, _, _, _ => none
  | k + 1, a0_0, l0_1, l0_2, a1_0, l1_1, l1_2 => if a0_0 = a1_0 then ((trustquorumref01_Same.f k l0_1 l1_1).bind fun t378 => (if t378 = true then (trustquorumref02_Same.j0 k ((l0_2.length : Int) != (l1_2.length : Int)) a0_0 l0_1 l0_2 a1_0 l1_1 l1_2) else (trustquorumref02_Same.j0 k true a0_0 l0_1 l0_2 a1_0 l1_1 l1_2))) else (trustquorumref02_Same.j0 k true a0_0 l0_1 l0_2 a1_0 l1_1 l1_2)
end
theorem trustquorumref02_Same.mono_l : ∀ k, (∀ y0 y1 y2 y3 y4 y5, LeO (trustquorumref02_Same.f k y0 y1 y2 y3 y4 y5) (trustquorumref02_Same.f (k + 1) y0 y1 y2 y3 y4 y5)) ∧ (∀ y0 y1 y2 y3 y4 y5 y6, LeO (trustquorumref02_Same.j0 k y0 y1 y2 y3 y4 y5 y6) (trustquorumref02_Same.j0 (k + 1) y0 y1 y2 y3 y4 y5 y6)) ∧ (∀ y0 y1 y2 y3 y4 y5 y6 y7, LeO (trustquorumref02_Same.l0 k y0 y1 y2 y3 y4 y5 y6 y7) (trustquorumref02_Same.l0 (k + 1) y0 y1 y2 y3 y4 y5 y6 y7))
  | 0 => ⟨fun _ _ _ _ _ _ r h => by simp [trustquorumref02_Same.f] at h, fun _ _ _ _ _ _ _ r h => by simp [trustquorumref02_Same.j0] at h, fun _ _ _ _ _ _ _ _ r h => by simp [trustquorumref02_Same.l0] at h⟩
  | k + 1 => by
    obtain ⟨ih0, ih1, ih2⟩ := trustquorumref02_Same.mono_l k
    refine ⟨?_, ?_, ?_⟩
    · intro y0 y1 y2 y3 y4 y5
      unfold trustquorumref02_Same.f
      repeat' first
      | (with_reducible exact ih0 _ _ _ _ _ _)
      | (with_reducible exact ih1 _ _ _ _ _ _ _)
      | (with_reducible exact ih2 _ _ _ _ _ _ _ _)
      | (with_reducible exact trustquorumref01_Same.mono _ _ _)
      | (with_reducible exact LeO.refl _)
      | (with_reducible exact LeO.none _)
      | (with_reducible refine LeO.ite ?_ ?_)
      | (with_reducible refine LeO.bind ?_ (fun _ => ?_))
      | exact ih0 _ _ _ _ _ _
      | exact ih1 _ _ _ _ _ _ _
      | exact ih2 _ _ _ _ _ _ _ _
      | exact trustquorumref01_Same.mono _ _ _
      | exact LeO.none _
      | refine LeO.ite ?_ ?_
      | refine LeO.bind ?_ (fun _ => ?_)
    · intro y0 y1 y2 y3 y4 y5 y6
      unfold trustquorumref02_Same.j0
      repeat' first
      | (with_reducible exact ih0 _ _ _ _ _ _)
      | (with_reducible exact ih1 _ _ _ _ _ _ _)
      | (with_reducible exact ih2 _ _ _ _ _ _ _ _)
      | (with_reducible exact trustquorumref01_Same.mono _ _ _)
      | (with_reducible exact LeO.refl _)
      | (with_reducible exact LeO.none _)
      | (with_reducible refine LeO.ite ?_ ?_)
      | (with_reducible refine LeO.bind ?_ (fun _ => ?_))
      | exact ih0 _ _ _ _ _ _
      | exact ih1 _ _ _ _ _ _ _
      | exact ih2 _ _ _ _ _ _ _ _
      | exact trustquorumref01_Same.mono _ _ _
      | exact LeO.none _
      | refine LeO.ite ?_ ?_
      | refine LeO.bind ?_ (fun _ => ?_)
    · intro y0 y1 y2 y3 y4 y5 y6 y7
      unfold trustquorumref02_Same.l0
      repeat' first
      | (with_reducible exact ih0 _ _ _ _ _ _)
      | (with_reducible exact ih1 _ _ _ _ _ _ _)
      | (with_reducible exact ih2 _ _ _ _ _ _ _ _)
      | (with_reducible exact trustquorumref01_Same.mono _ _ _)
      | (with_reducible exact LeO.refl _)
      | (with_reducible exact LeO.none _)
      | (with_reducible refine LeO.ite ?_ ?_)
      | (with_reducible refine LeO.bind ?_ (fun _ => ?_))
      | exact ih0 _ _ _ _ _ _
      | exact ih1 _ _ _ _ _ _ _
      | exact ih2 _ _ _ _ _ _ _ _
      | exact trustquorumref01_Same.mono _ _ _
      | exact LeO.none _
      | refine LeO.ite ?_ ?_
      | refine LeO.bind ?_ (fun _ => ?_)
theorem trustquorumref02_Same.mono : ∀ a0 a1 a2 a3 a4 a5 k, LeO (trustquorumref02_Same.f k a0 a1 a2 a3 a4 a5) (trustquorumref02_Same.f (k + 1) a0 a1 a2 a3 a4 a5) := by
  intro a0 a1 a2 a3 a4 a5 k
  obtain ⟨ih0, ih1, ih2⟩ := trustquorumref02_Same.mono_l k
  exact ih0 a0 a1 a2 a3 a4 a5
def trustquorumref02_Same.T6 : Bool × List (List Nat × List Nat) := (true, [([], []), ([0], [0]), ([], []), ([1, 2], [1, 2]), ([3], [3]), ([], []), ([5], [5]), ([], []), ([6, 7], [6, 7]), ([8], [8]), ([4, 9], [4, 9]), ([10], [10])])
def trustquorumref02_Same.B6 : List Nat := [0, 1, 0, 7, 15, 0, 32, 0, 224, 480, 1023, 2047]
theorem trustquorumref02_Same.tab6 : rtab .any (opsOf Try.f28 6) = trustquorumref02_Same.T6 := by kernel_rfl
theorem trustquorumref02_Same.bits6 : waitsOk trustquorumref02_Same.T6.2 trustquorumref02_Same.B6 = true := by kernel_rfl
set_option maxHeartbeats 8000000 in
set_option maxRecDepth 100000 in
theorem trustquorumref02_Same.calls (k : Nat) : ∀ (a0_0 : Int) (A0_1 : Option Addr) (c0_1 : Nat) (l0_1 : List Int) (A0_2 : Option Addr) (c0_2 : Nat) (l0_2 : List (S27)) (a1_0 : Int) (A1_1 : Option Addr) (c1_1 : Nat) (l1_1 : List Int) (A1_2 : Option Addr) (c1_2 : Nat) (l1_2 : List (S27)) (r : Bool) (w : World) (hr0_1 : Kd.C (Kd.int .i64) w A0_1 l0_1.length l0_1) (hc0_1 : l0_1.length ≤ c0_1) (hr0_2 : Kd.C k27 w A0_2 l0_2.length l0_2) (hc0_2 : l0_2.length ≤ c0_2) (hr1_1 : Kd.C (Kd.int .i64) w A1_1 l1_1.length l1_1) (hc1_1 : l1_1.length ≤ c1_1) (hr1_2 : Kd.C k27 w A1_2 l1_2.length l1_2) (hc1_2 : l1_2.length ≤ c1_2) (h : trustquorumref02_Same.f k a0_0 l0_1 l0_2 a1_0 l1_1 l1_2 = some r),
    Calls Try.prog 28 #[.agg #[.int .i64 a0_0, .slice A0_1 l0_1.length c0_1, .slice A0_2 l0_2.length c0_2], .agg #[.int .i64 a1_0, .slice A1_1 l1_1.length c1_1, .slice A1_2 l1_2.length c1_2]] w fun e w' => e = .returned (.bool r) ∧ Below w.heap.size w w' := by
 induction k using Nat.strongRecOn with
 | _ k ih =>
 intro a0_0 A0_1 c0_1 l0_1 A0_2 c0_2 l0_2 a1_0 A1_1 c1_1 l1_1 A1_2 c1_2 l1_2 r w hr0_1 hc0_1 hr0_2 hc0_2 hr1_1 hc1_1 hr1_2 hc1_2 h
 cases k with
 | zero => exact absurd h (by simp [trustquorumref02_Same.f])
 | succ k =>
 simp only [trustquorumref02_Same.f] at h; have hu27 := Try.underlying27; have HR0_1 := am hr0_1; have HC0_1 := am hc0_1; clear hr0_1 hc0_1; have HR0_2 := am hr0_2; have HC0_2 := am hc0_2; clear hr0_2 hc0_2; have HR1_1 := am hr1_1; have HC1_1 := am hc1_1; clear hr1_1 hc1_1; have HR1_2 := am hr1_2; have HC1_2 := am hc1_2; clear hr1_2 hc1_2; have HB := am (Below.refl w.heap.size w); have H : (if a0_0 = a1_0 then ((trustquorumref01_Same.f k l0_1 l1_1).bind fun t378 => (if t378 = true then (trustquorumref02_Same.j0 k ((l0_2.length : Int) != (l1_2.length : Int)) a0_0 l0_1 l0_2 a1_0 l1_1 l1_2) else (trustquorumref02_Same.j0 k true a0_0 l0_1 l0_2 a1_0 l1_1 l1_2))) else (trustquorumref02_Same.j0 k true a0_0 l0_1 l0_2 a1_0 l1_1 l1_2)) = some r := h; clear h; have HC3 := am H; clear H
 go_enter Try.func28, Try.ntmps28
 go_upto_region 1 with (first | ((with_reducible refine gate_dst (N := 2) rfl ?_); (try (refine gate_guard (by rfl) ?_; dsimp only)); refine box_event ?hg (N := 2) ?hd (cs := #[.int .i64 a0_0, .slice A0_1 l0_1.length c0_1, .slice A0_2 l0_2.length c0_2]) (t := 27) ?hr ?_; (case hd => rfl); (case hg => rfl); (case hr => first | (go_simp; done) | (go_simp; rfl)); intro gb376 hg w4 hbox hb; have BK376 := am (hbox); have GW376 := am ((by rw [hg]; exact (below_size HB.out) : w.heap.size ≤ gb376)); have GE376 := am ((by rw [hg]; exact (below_size HB.out) : w.heap.size ≤ gb376)); replace HB := bs HB hb; clear hb hbox hg) | ((with_reducible refine gate_dst (N := 3) rfl ?_); (try (refine gate_guard (by rfl) ?_; dsimp only)); refine box_event ?hg (N := 3) ?hd (cs := #[.int .i64 a1_0, .slice A1_1 l1_1.length c1_1, .slice A1_2 l1_2.length c1_2]) (t := 27) ?hr ?_; (case hd => rfl); (case hg => rfl); (case hr => first | (go_simp; done) | (go_simp; rfl)); intro gb377 hg w5 hbox hb; have BK377 := am (hbox); have GW377 := am ((by rw [hg]; exact (below_size HB.out) : w.heap.size ≤ gb377)); have GE377 := am ((by rw [hg]; exact (below_size HB.out) : w.heap.size ≤ gb377)); replace HB := bs HB hb; have NB376_377 := am ((by rw [hg]; exact Nat.ne_of_lt (blk_lt BK376.out) : gb376 ≠ gb377)); have NB377_376 := am ((by rw [hg]; exact Nat.ne_of_gt (blk_lt BK376.out) : gb377 ≠ gb376)); replace BK376 := bb BK376 hb; clear hb hbox hg))
 (try simp only [Act.put, List.setIfInBounds_toArray, List.set_cons_zero, List.set_cons_succ])
 go_cut [27] (fun v27 wc => ∃ (kq : Nat) (x27_2 : Bool), v27 = .bool x27_2 ∧ Aside0 (trustquorumref02_Same.j0 kq x27_2 a0_0 l0_1 l0_2 a1_0 l1_1 l1_2 = some r) ∧ Aside0 (kq ≤ k) ∧ Aside0 (wc.heap[gb376]? = some (.cells #[.int .i64 a0_0, (.slice A0_1 l0_1.length c0_1), (.slice A0_2 l0_2.length c0_2)] 27 (0, 0))) ∧ Aside0 (wc.heap[gb377]? = some (.cells #[.int .i64 a1_0, (.slice A1_1 l1_1.length c1_1), (.slice A1_2 l1_2.length c1_2)] 27 (0, 0))) ∧ Aside0 (Below w.heap.size w wc))
 case first =>
  have H := HC3.out; clear HC3
  by_cases c6 : a0_0 = a1_0
  ·
   rw [if_pos c6] at H; have c6b0 : (a0_0 == a1_0) = true := beq_iff_eq.mpr c6; have c6b1 : (a0_0 != a1_0) = false := bne_eq_false_iff_eq.mpr c6; clear c6; (first | rw [c6b0] | (simp only [i64_w, i32_w]; rw [c6b0]) | skip); replace H := Option.bind_eq_some_iff.mp H; obtain ⟨t378, A70, H⟩ := H; replace H : (if t378 = true then (trustquorumref02_Same.j0 k ((l0_2.length : Int) != (l1_2.length : Int)) a0_0 l0_1 l0_2 a1_0 l1_1 l1_2) else (trustquorumref02_Same.j0 k true a0_0 l0_1 l0_2 a1_0 l1_1 l1_2)) = some r := H; have A7 := am A70; clear A70
   by_cases c8 : t378 = true
   ·
    subst c8; have H1 : (trustquorumref02_Same.j0 k ((l0_2.length : Int) != (l1_2.length : Int)) a0_0 l0_1 l0_2 a1_0 l1_1 l1_2) = some r := by rw [if_pos rfl] at H; exact H
    clear H; have H := H1; clear H1; have H' := am H; clear H; have hnb9 := NB376_377.out; have hnc9 := NB377_376.out; obtain ⟨hcz10_0, hcz10_1, hcz10_2, hfz10_0, hfz10_1, hfz10_2⟩ := blkC3 BK376.out; obtain ⟨hcz11_0, hcz11_1, hcz11_2, hfz11_0, hfz11_1, hfz11_2⟩ := blkC3 BK377.out
    go_wp2_with (first | (go_at_call 44; (with_reducible refine (trustquorumref01_Same.calls k _ _ l0_1 _ _ l1_1 true _ ?side1 ?side2 ?side3 ?side4 A7.out).mono ?_); (case side1 => exact (Kd.C_below HR0_1.out HB.out)); (case side2 => exact HC0_1.out); (case side3 => exact (Kd.C_below HR1_1.out HB.out)); (case side4 => exact HC1_1.out); rintro e w' ⟨rfl, ⟨nd, rfl⟩⟩))
    go_meet
    case rel => exact ⟨_, (((l0_2.length : Int) != (l1_2.length : Int))), ar, H', ⟨by first | omega | exact Nat.le_refl _⟩, ⟨by (with_reducible repeat first | apply blk_drewN | apply blk_drew | apply blk_alloc); exact BK376.out⟩, ⟨by (with_reducible repeat first | apply blk_drewN | apply blk_drew | apply blk_alloc); exact BK377.out⟩, ⟨by repeat (first | (with_reducible first | exact HB.out | apply below_alloc | apply pw_below_drewN | apply below_drew1 | refine below_set ?_ GE376.out | refine below_set ?_ GE377.out) | exact HB.out)⟩⟩
   ·
    replace c8 := Bool.eq_false_iff.mpr c8; subst c8; have H1 : (trustquorumref02_Same.j0 k true a0_0 l0_1 l0_2 a1_0 l1_1 l1_2) = some r := by rw [if_neg (show ¬ (false = true) by decide)] at H; exact H
    clear H; have H := H1; clear H1; have H' := am H; clear H; have hnb12 := NB376_377.out; have hnc12 := NB377_376.out; obtain ⟨hcz13_0, hcz13_1, hcz13_2, hfz13_0, hfz13_1, hfz13_2⟩ := blkC3 BK376.out; obtain ⟨hcz14_0, hcz14_1, hcz14_2, hfz14_0, hfz14_1, hfz14_2⟩ := blkC3 BK377.out
    go_wp2_with (first | (go_at_call 44; (with_reducible refine (trustquorumref01_Same.calls k _ _ l0_1 _ _ l1_1 false _ ?side1 ?side2 ?side3 ?side4 A7.out).mono ?_); (case side1 => exact (Kd.C_below HR0_1.out HB.out)); (case side2 => exact HC0_1.out); (case side3 => exact (Kd.C_below HR1_1.out HB.out)); (case side4 => exact HC1_1.out); rintro e w' ⟨rfl, ⟨nd, rfl⟩⟩))
    go_meet
    case rel => exact ⟨_, (true), ar, H', ⟨by first | omega | exact Nat.le_refl _⟩, ⟨by (with_reducible repeat first | apply blk_drewN | apply blk_drew | apply blk_alloc); exact BK376.out⟩, ⟨by (with_reducible repeat first | apply blk_drewN | apply blk_drew | apply blk_alloc); exact BK377.out⟩, ⟨by repeat (first | (with_reducible first | exact HB.out | apply below_alloc | apply pw_below_drewN | apply below_drew1 | refine below_set ?_ GE376.out | refine below_set ?_ GE377.out) | exact HB.out)⟩⟩
  ·
   rw [if_neg c6] at H; have c6b0 : (a0_0 == a1_0) = false := beq_eq_false_iff_ne.mpr c6; have c6b1 : (a0_0 != a1_0) = true := bne_iff_ne.mpr c6; (first | rw [c6b0] | (simp only [i64_w, i32_w]; rw [c6b0]) | skip); have H' := am H; clear H; have hnb15 := NB376_377.out; have hnc15 := NB377_376.out; obtain ⟨hcz16_0, hcz16_1, hcz16_2, hfz16_0, hfz16_1, hfz16_2⟩ := blkC3 BK376.out; obtain ⟨hcz17_0, hcz17_1, hcz17_2, hfz17_0, hfz17_1, hfz17_2⟩ := blkC3 BK377.out
   go_wp2
   go_meet
   case rel => exact ⟨_, (true), ar, H', ⟨by first | omega | exact Nat.le_refl _⟩, ⟨by exact BK376.out⟩, ⟨by exact BK377.out⟩, ⟨by exact HB.out⟩⟩
 case rest =>
  clear HC3; (try clear c1); (try clear c2); (try clear p2); (try clear c6); (try clear c6b0); (try clear c6b1); (try clear p6); (try clear c8); (try clear c9); (try clear c12); (try clear c15); (try clear hcz10_0 hcz10_1 hcz10_2); (try clear hcz11_0 hcz11_1 hcz11_2); (try clear hcz13_0 hcz13_1 hcz13_2); (try clear hcz14_0 hcz14_1 hcz14_2); (try clear hcz16_0 hcz16_1 hcz16_2); (try clear hcz17_0 hcz17_1 hcz17_2); (try clear hfz10_0 hfz10_1 hfz10_2); (try clear hfz11_0 hfz11_1 hfz11_2); (try clear hfz13_0 hfz13_1 hfz13_2); (try clear hfz14_0 hfz14_1 hfz14_2); (try clear hfz16_0 hfz16_1 hfz16_2); (try clear hfz17_0 hfz17_1 hfz17_2); obtain ⟨kq, x27_2, rfl, HA, HJ2, BK376, BK377, HB⟩ := hcut
  cases kq with
  | zero => exact absurd HA.out (by simp [trustquorumref02_Same.j0])
  | succ kj2 =>
   have H := HA.out; clear HA; simp only [trustquorumref02_Same.j0] at H
   by_cases c18 : x27_2 = true
   ·
    subst c18; have H1 : (some false) = some r := by rw [if_pos rfl] at H; exact H
    clear H; have H := H1; clear H1; obtain rfl := Option.some.inj H
    go_wp2
    go_ret
    exact ⟨er, by exact HB.out⟩
   ·
    replace c18 := Bool.eq_false_iff.mpr c18; subst c18; have H1 : (trustquorumref02_Same.l0 kj2 (l0_2.length : Int) 0 a0_0 l0_1 l0_2 a1_0 l1_1 l1_2) = some r := by rw [if_neg (show ¬ (false = true) by decide)] at H; exact H
    clear H; have H := H1; clear H1; have H' := am H; clear H; have hnb19 := NB376_377.out; have hnc19 := NB377_376.out; obtain ⟨hcz20_0, hcz20_1, hcz20_2, hfz20_0, hfz20_1, hfz20_2⟩ := blkC3 BK376.out
    go_wp2
    go_loopg [31] kj2 (fun kq v31 w' => ∃ (x31_2 : Int), v31 = .int .i64 x31_2 ∧ Aside0 (trustquorumref02_Same.l0 kq (l0_2.length : Int) x31_2 a0_0 l0_1 l0_2 a1_0 l1_1 l1_2 = some r) ∧ Aside0 (kq ≤ kj2) ∧ Aside0 (w'.heap[gb376]? = some (.cells #[.int .i64 a0_0, (.slice A0_1 l0_1.length c0_1), (.slice A0_2 l0_2.length c0_2)] 27 (0, 0))) ∧ Aside0 (w'.heap[gb377]? = some (.cells #[.int .i64 a1_0, (.slice A1_1 l1_1.length c1_1), (.slice A1_2 l1_2.length c1_2)] 27 (0, 0))) ∧ Aside0 (Below w.heap.size w w'))
    case atStart => exact ⟨(0), ar, H', ⟨Nat.le_refl _⟩, ⟨by exact BK376.out⟩, ⟨by exact BK377.out⟩, ⟨by exact HB.out⟩⟩
    case round =>
     clear H'; (try clear c1); (try clear c2); (try clear p2); (try clear c6); (try clear c6b0); (try clear c6b1); (try clear p6); (try clear c8); (try clear c9); (try clear c12); (try clear c15); (try clear c18); (try clear c19); (try clear hcz10_0 hcz10_1 hcz10_2); (try clear hcz11_0 hcz11_1 hcz11_2); (try clear hcz13_0 hcz13_1 hcz13_2); (try clear hcz14_0 hcz14_1 hcz14_2); (try clear hcz16_0 hcz16_1 hcz16_2); (try clear hcz17_0 hcz17_1 hcz17_2); (try clear hcz20_0 hcz20_1 hcz20_2); (try clear hfz10_0 hfz10_1 hfz10_2); (try clear hfz11_0 hfz11_1 hfz11_2); (try clear hfz13_0 hfz13_1 hfz13_2); (try clear hfz14_0 hfz14_1 hfz14_2); (try clear hfz16_0 hfz16_1 hfz16_2); (try clear hfz17_0 hfz17_1 hfz17_2); (try clear hfz20_0 hfz20_1 hfz20_2); (try clear p2); (try clear p6); obtain ⟨x31_2, rfl, HA, HK2, BK376, BK377, HB⟩ := hrel
     cases gk with
     | zero => exact absurd HA.out (by simp [trustquorumref02_Same.l0])
     | succ k2 =>
      have H := HA.out; clear HA; simp only [trustquorumref02_Same.l0] at H
      by_cases c21 : x31_2 < (l0_2.length : Int)
      ·
       rw [if_pos c21] at H; have c21b0 : decide (x31_2 < (l0_2.length : Int)) = true := decide_eq_true c21; clear c21
       by_cases c22 : 0 ≤ x31_2
       ·
        rw [if_pos c22] at H; have c22b0 : decide (0 ≤ x31_2) = true := decide_eq_true c22; clear c22
        by_cases c23 : x31_2 < (l0_2.length : Int)
        ·
         rw [if_pos c23] at H; have c23b0 : decide (x31_2 < (l0_2.length : Int)) = true := decide_eq_true c23; clear c23
         by_cases c24 : x31_2 < (l1_2.length : Int)
         ·
          rw [if_pos c24] at H; have c24b0 : decide (x31_2 < (l1_2.length : Int)) = true := decide_eq_true c24; clear c24; replace H := Option.bind_eq_some_iff.mp H; obtain ⟨t381, A250, H⟩ := H; replace H : (if t381 = true then (trustquorumref02_Same.l0 k2 (l0_2.length : Int) (wrap64 (x31_2 + 1)) a0_0 l0_1 l0_2 a1_0 l1_1 l1_2) else (some false)) = some r := H; have A25 := am A250; clear A250
          by_cases c26 : t381 = true
          ·
           subst c26; have H1 : (trustquorumref02_Same.l0 k2 (l0_2.length : Int) (wrap64 (x31_2 + 1)) a0_0 l0_1 l0_2 a1_0 l1_1 l1_2) = some r := by rw [if_pos rfl] at H; exact H
           clear H; have H := H1; clear H1; have H' := am H; clear H
           try go_wp2
           replace BK376 := am (blk_drew BK376.out); replace BK377 := am (blk_drew BK377.out); replace HB := am (below_drew1 HB.out); have p379 : 0 ≤ (x31_2 : Int) := od; have q379 : x31_2 < (l0_2.length : Int) := od; obtain ⟨ad379, A379_1, c379_1, A379_2, c379_2, e379, hx379_0, hx379_1, hx379_2, hl379_1, hi379_1, hl379_2, hi379_2⟩ := at_T27 HR0_2.out x31_2 p379 q379; have hw379_2 := hx379_2; have hw379_1 := hx379_1; have hw379_0 := hx379_0
           cases e379
           replace hx379_0 := (HB.out.cell (World.block_lt_of_cell? w _ hx379_0)).trans hx379_0; replace hx379_1 := (HB.out.cell (World.block_lt_of_cell? w _ hx379_1)).trans hx379_1; replace hx379_2 := (HB.out.cell (World.block_lt_of_cell? w _ hx379_2)).trans hx379_2; have HR379_1 := am hi379_1; have HC379_1 := am hl379_1; clear hi379_1 hl379_1; have HR379_2 := am hi379_2; have HC379_2 := am hl379_2; clear hi379_2 hl379_2; replace p379 := eq_true p379; replace q379 := eq_true q379; have p380 : 0 ≤ (x31_2 : Int) := od; have q380 : x31_2 < (l1_2.length : Int) := od; obtain ⟨ad380, A380_1, c380_1, A380_2, c380_2, e380, hx380_0, hx380_1, hx380_2, hl380_1, hi380_1, hl380_2, hi380_2⟩ := at_T27 HR1_2.out x31_2 p380 q380; have hw380_2 := hx380_2; have hw380_1 := hx380_1; have hw380_0 := hx380_0
           cases e380
           replace hx380_0 := (HB.out.cell (World.block_lt_of_cell? w _ hx380_0)).trans hx380_0; replace hx380_1 := (HB.out.cell (World.block_lt_of_cell? w _ hx380_1)).trans hx380_1; replace hx380_2 := (HB.out.cell (World.block_lt_of_cell? w _ hx380_2)).trans hx380_2; have HR380_1 := am hi380_1; have HC380_1 := am hl380_1; clear hi380_1 hl380_1; have HR380_2 := am hi380_2; have HC380_2 := am hl380_2; clear hi380_2 hl380_2; replace p380 := eq_true p380; replace q380 := eq_true q380; refine start_ (n := 12) (S := fun w' => w'.cell? ⟨gb376, 0, none⟩ = some (.int .i64 a0_0) ∧ w'.cell? ⟨gb376, 1, none⟩ = some (.slice A0_1 l0_1.length c0_1) ∧ w'.cell? ⟨gb376, 2, none⟩ = some (.slice (some ad379) l0_2.length c0_2) ∧ w'.cell? ⟨gb377, 0, none⟩ = some (.int .i64 a1_0) ∧ w'.cell? ⟨gb377, 1, none⟩ = some (.slice A1_1 l1_1.length c1_1) ∧ w'.cell? ⟨gb377, 2, none⟩ = some (.slice (some ad380) l1_2.length c1_2) ∧ w'.cell? (ad379.add ((x31_2).toNat * 3)) = some (.int .i64 ((rd_T27 l0_2 x31_2).f0)) ∧ w'.cell? ⟨(ad379.add ((x31_2).toNat * 3)).block, (ad379.add ((x31_2).toNat * 3)).off + 1, none⟩ = some (.slice A379_1 ((rd_T27 l0_2 x31_2).f1).length c379_1) ∧ w'.cell? ⟨(ad379.add ((x31_2).toNat * 3)).block, (ad379.add ((x31_2).toNat * 3)).off + 2, none⟩ = some (.slice A379_2 ((rd_T27 l0_2 x31_2).f2).length c379_2) ∧ w'.cell? (ad380.add ((x31_2).toNat * 3)) = some (.int .i64 ((rd_T27 l1_2 x31_2).f0)) ∧ w'.cell? ⟨(ad380.add ((x31_2).toNat * 3)).block, (ad380.add ((x31_2).toNat * 3)).off + 1, none⟩ = some (.slice A380_1 ((rd_T27 l1_2 x31_2).f1).length c380_1) ∧ w'.cell? ⟨(ad380.add ((x31_2).toNat * 3)).block, (ad380.add ((x31_2).toNat * 3)).off + 2, none⟩ = some (.slice A380_2 ((rd_T27 l1_2 x31_2).f2).length c380_2)) (ds := []) #[false, false, false, false, false, false, false, false, false, false, false, false] (by kernel_rfl) rfl rfl ⟨(blk_cell BK376.out 0).trans rfl, (blk_cell BK376.out 1).trans rfl, (blk_cell BK376.out 2).trans rfl, (blk_cell BK377.out 0).trans rfl, (blk_cell BK377.out 1).trans rfl, (blk_cell BK377.out 2).trans rfl, ((HB.out.cell (World.block_lt_of_cell? w _ hw379_0)).trans hw379_0), ((HB.out.cell (World.block_lt_of_cell? w _ hw379_1)).trans hw379_1), ((HB.out.cell (World.block_lt_of_cell? w _ hw379_2)).trans hw379_2), ((HB.out.cell (World.block_lt_of_cell? w _ hw380_0)).trans hw380_0), ((HB.out.cell (World.block_lt_of_cell? w _ hw380_1)).trans hw380_1), ((HB.out.cell (World.block_lt_of_cell? w _ hw380_2)).trans hw380_2)⟩ (fun hHeld => ?_); refine with_tabW trustquorumref02_Same.tab6 trustquorumref02_Same.bits6 (fun HT_ HW_ => ?_)
           generalize wr.drew = w27 at BK376 BK377 HB HR379_1 HR379_2 HR380_1 HR380_2 hx379_0 hx379_1 hx379_2 hx380_0 hx380_1 hx380_2 hHeld ⊢; refine pq (i := 0) (N := some 34) #[true, false, false, false, false, false, false, false, false, false, false, false] HT_ ?_
           refine pq (i := 2) (N := some 36) #[true, false, true, false, false, false, false, false, false, false, false, false] HT_ ?_
           refine pq (i := 5) (N := some 39) #[true, false, true, false, false, true, false, false, false, false, false, false] HT_ ?_
           refine pq (i := 7) (N := some 41) #[true, false, true, false, false, true, false, true, false, false, false, false] HT_ ?_
           refine tq (i := 1) (N := some 35) #[true, true, true, false, false, true, false, true, false, false, false, false] HT_ HW_ hHeld ?_
           refine pq (i := 3) (N := some 37) #[true, true, true, true, false, true, false, true, false, false, false, false] HT_ ?_
           refine tq (i := 4) (N := some 38) #[true, true, true, true, true, true, false, true, false, false, false, false] HT_ HW_ hHeld ?_
           refine tq (i := 6) (N := some 40) #[true, true, true, true, true, true, true, true, false, false, false, false] HT_ HW_ hHeld ?_
           refine pq (i := 8) (N := some 42) #[true, true, true, true, true, true, true, true, true, false, false, false] HT_ ?_
           refine tq (i := 9) (N := some 43) #[true, true, true, true, true, true, true, true, true, true, false, false] HT_ HW_ hHeld ?_
           refine one_ (i := 10) (N := some 44) #[true, true, true, true, true, true, true, true, true, true, true, false] rfl rfl (one_of HT_.out (by kernel_rfl)) (by decide) (fun K hK => ?_); refine goes_ Try.func28 (by kernel_rfl) rfl #[.agg #[.int .i64 ((rd_T27 l0_2 x31_2).f0), .slice A379_1 ((rd_T27 l0_2 x31_2).f1).length c379_1, .slice A379_2 ((rd_T27 l0_2 x31_2).f2).length c379_2], .agg #[.int .i64 ((rd_T27 l1_2 x31_2).f0), .slice A380_1 ((rd_T27 l1_2 x31_2).f1).length c380_1, .slice A380_2 ((rd_T27 l1_2 x31_2).f2).length c380_2]] (by rfl) rfl rfl ax ?_
           with_reducible refine (ih k2 (by have := HJ2.out; have := HK2.out; omega) ((rd_T27 l0_2 x31_2).f0) _ _ ((rd_T27 l0_2 x31_2).f1) _ _ ((rd_T27 l0_2 x31_2).f2) ((rd_T27 l1_2 x31_2).f0) _ _ ((rd_T27 l1_2 x31_2).f1) _ _ ((rd_T27 l1_2 x31_2).f2) true _ ?side1 ?side2 ?side3 ?side4 ?side5 ?side6 ?side7 ?side8 A25.out).mono ?_
           (case side1 => exact (Kd.C_below HR379_1.out HB.out))
           (case side2 => exact HC379_1.out)
           (case side3 => exact (Kd.C_below HR379_2.out HB.out))
           (case side4 => exact HC379_2.out)
           (case side5 => exact (Kd.C_below HR380_1.out HB.out))
           (case side6 => exact HC380_1.out)
           (case side7 => exact (Kd.C_below HR380_2.out HB.out))
           (case side8 => exact HC380_2.out)
           rintro e w28 ⟨rfl, hb⟩; refine ⟨_, rfl, ?_⟩; replace BK376 := bb BK376 hb; replace BK377 := bb BK377 hb; replace HB := bs HB hb; (try clear hb); (try clear hb2); (try clear hk); (try clear hi); refine hK.out _ _ ⟨(blk_cell BK376.out 0).trans rfl, (blk_cell BK376.out 1).trans rfl, (blk_cell BK376.out 2).trans rfl, (blk_cell BK377.out 0).trans rfl, (blk_cell BK377.out 1).trans rfl, (blk_cell BK377.out 2).trans rfl, ((HB.out.cell (World.block_lt_of_cell? w _ hw379_0)).trans hw379_0), ((HB.out.cell (World.block_lt_of_cell? w _ hw379_1)).trans hw379_1), ((HB.out.cell (World.block_lt_of_cell? w _ hw379_2)).trans hw379_2), ((HB.out.cell (World.block_lt_of_cell? w _ hw380_0)).trans hw380_0), ((HB.out.cell (World.block_lt_of_cell? w _ hw380_1)).trans hw380_1), ((HB.out.cell (World.block_lt_of_cell? w _ hw380_2)).trans hw380_2)⟩ (fun hHeld => ?_); clear hK K; refine norm_ (a' := ?_) ?_ ?_; rotate_left
           ·
            show Act.put _ (some 44) _ = _
            exact pu
           refine pq (i := 11) (N := some 45) #[true, true, true, true, true, true, true, true, true, true, true, true] HT_ ?_
           refine done_ (done_of HT_.out (by kernel_rfl)) ?_
           try go_wp2
           go_roundg k2
           case measure => have := HJ2.out; have := HK2.out; omega
           case rel => exact ⟨(wrap64 (x31_2 + 1)), ar, H', ⟨by have := HJ2.out; have := HK2.out; omega⟩, ⟨by exact BK376.out⟩, ⟨by exact BK377.out⟩, ⟨by exact HB.out⟩⟩
          ·
           replace c26 := Bool.eq_false_iff.mpr c26; subst c26; have H1 : (some false) = some r := by rw [if_neg (show ¬ (false = true) by decide)] at H; exact H
           clear H; have H := H1; clear H1; obtain rfl := Option.some.inj H
           try go_wp2
           replace BK376 := am (blk_drew BK376.out); replace BK377 := am (blk_drew BK377.out); replace HB := am (below_drew1 HB.out); have p379 : 0 ≤ (x31_2 : Int) := od; have q379 : x31_2 < (l0_2.length : Int) := od; obtain ⟨ad379, A379_1, c379_1, A379_2, c379_2, e379, hx379_0, hx379_1, hx379_2, hl379_1, hi379_1, hl379_2, hi379_2⟩ := at_T27 HR0_2.out x31_2 p379 q379; have hw379_2 := hx379_2; have hw379_1 := hx379_1; have hw379_0 := hx379_0
           cases e379
           replace hx379_0 := (HB.out.cell (World.block_lt_of_cell? w _ hx379_0)).trans hx379_0; replace hx379_1 := (HB.out.cell (World.block_lt_of_cell? w _ hx379_1)).trans hx379_1; replace hx379_2 := (HB.out.cell (World.block_lt_of_cell? w _ hx379_2)).trans hx379_2; have HR379_1 := am hi379_1; have HC379_1 := am hl379_1; clear hi379_1 hl379_1; have HR379_2 := am hi379_2; have HC379_2 := am hl379_2; clear hi379_2 hl379_2; replace p379 := eq_true p379; replace q379 := eq_true q379; have p380 : 0 ≤ (x31_2 : Int) := od; have q380 : x31_2 < (l1_2.length : Int) := od; obtain ⟨ad380, A380_1, c380_1, A380_2, c380_2, e380, hx380_0, hx380_1, hx380_2, hl380_1, hi380_1, hl380_2, hi380_2⟩ := at_T27 HR1_2.out x31_2 p380 q380; have hw380_2 := hx380_2; have hw380_1 := hx380_1; have hw380_0 := hx380_0
           cases e380
           replace hx380_0 := (HB.out.cell (World.block_lt_of_cell? w _ hx380_0)).trans hx380_0; replace hx380_1 := (HB.out.cell (World.block_lt_of_cell? w _ hx380_1)).trans hx380_1; replace hx380_2 := (HB.out.cell (World.block_lt_of_cell? w _ hx380_2)).trans hx380_2; have HR380_1 := am hi380_1; have HC380_1 := am hl380_1; clear hi380_1 hl380_1; have HR380_2 := am hi380_2; have HC380_2 := am hl380_2; clear hi380_2 hl380_2; replace p380 := eq_true p380; replace q380 := eq_true q380; refine start_ (n := 12) (S := fun w' => w'.cell? ⟨gb376, 0, none⟩ = some (.int .i64 a0_0) ∧ w'.cell? ⟨gb376, 1, none⟩ = some (.slice A0_1 l0_1.length c0_1) ∧ w'.cell? ⟨gb376, 2, none⟩ = some (.slice (some ad379) l0_2.length c0_2) ∧ w'.cell? ⟨gb377, 0, none⟩ = some (.int .i64 a1_0) ∧ w'.cell? ⟨gb377, 1, none⟩ = some (.slice A1_1 l1_1.length c1_1) ∧ w'.cell? ⟨gb377, 2, none⟩ = some (.slice (some ad380) l1_2.length c1_2) ∧ w'.cell? (ad379.add ((x31_2).toNat * 3)) = some (.int .i64 ((rd_T27 l0_2 x31_2).f0)) ∧ w'.cell? ⟨(ad379.add ((x31_2).toNat * 3)).block, (ad379.add ((x31_2).toNat * 3)).off + 1, none⟩ = some (.slice A379_1 ((rd_T27 l0_2 x31_2).f1).length c379_1) ∧ w'.cell? ⟨(ad379.add ((x31_2).toNat * 3)).block, (ad379.add ((x31_2).toNat * 3)).off + 2, none⟩ = some (.slice A379_2 ((rd_T27 l0_2 x31_2).f2).length c379_2) ∧ w'.cell? (ad380.add ((x31_2).toNat * 3)) = some (.int .i64 ((rd_T27 l1_2 x31_2).f0)) ∧ w'.cell? ⟨(ad380.add ((x31_2).toNat * 3)).block, (ad380.add ((x31_2).toNat * 3)).off + 1, none⟩ = some (.slice A380_1 ((rd_T27 l1_2 x31_2).f1).length c380_1) ∧ w'.cell? ⟨(ad380.add ((x31_2).toNat * 3)).block, (ad380.add ((x31_2).toNat * 3)).off + 2, none⟩ = some (.slice A380_2 ((rd_T27 l1_2 x31_2).f2).length c380_2)) (ds := []) #[false, false, false, false, false, false, false, false, false, false, false, false] (by kernel_rfl) rfl rfl ⟨(blk_cell BK376.out 0).trans rfl, (blk_cell BK376.out 1).trans rfl, (blk_cell BK376.out 2).trans rfl, (blk_cell BK377.out 0).trans rfl, (blk_cell BK377.out 1).trans rfl, (blk_cell BK377.out 2).trans rfl, ((HB.out.cell (World.block_lt_of_cell? w _ hw379_0)).trans hw379_0), ((HB.out.cell (World.block_lt_of_cell? w _ hw379_1)).trans hw379_1), ((HB.out.cell (World.block_lt_of_cell? w _ hw379_2)).trans hw379_2), ((HB.out.cell (World.block_lt_of_cell? w _ hw380_0)).trans hw380_0), ((HB.out.cell (World.block_lt_of_cell? w _ hw380_1)).trans hw380_1), ((HB.out.cell (World.block_lt_of_cell? w _ hw380_2)).trans hw380_2)⟩ (fun hHeld => ?_); refine with_tabW trustquorumref02_Same.tab6 trustquorumref02_Same.bits6 (fun HT_ HW_ => ?_)
           generalize wr.drew = w29 at BK376 BK377 HB HR379_1 HR379_2 HR380_1 HR380_2 hx379_0 hx379_1 hx379_2 hx380_0 hx380_1 hx380_2 hHeld ⊢; refine pq (i := 0) (N := some 34) #[true, false, false, false, false, false, false, false, false, false, false, false] HT_ ?_
           refine pq (i := 2) (N := some 36) #[true, false, true, false, false, false, false, false, false, false, false, false] HT_ ?_
           refine pq (i := 5) (N := some 39) #[true, false, true, false, false, true, false, false, false, false, false, false] HT_ ?_
           refine pq (i := 7) (N := some 41) #[true, false, true, false, false, true, false, true, false, false, false, false] HT_ ?_
           refine tq (i := 1) (N := some 35) #[true, true, true, false, false, true, false, true, false, false, false, false] HT_ HW_ hHeld ?_
           refine pq (i := 3) (N := some 37) #[true, true, true, true, false, true, false, true, false, false, false, false] HT_ ?_
           refine tq (i := 4) (N := some 38) #[true, true, true, true, true, true, false, true, false, false, false, false] HT_ HW_ hHeld ?_
           refine tq (i := 6) (N := some 40) #[true, true, true, true, true, true, true, true, false, false, false, false] HT_ HW_ hHeld ?_
           refine pq (i := 8) (N := some 42) #[true, true, true, true, true, true, true, true, true, false, false, false] HT_ ?_
           refine tq (i := 9) (N := some 43) #[true, true, true, true, true, true, true, true, true, true, false, false] HT_ HW_ hHeld ?_
           refine one_ (i := 10) (N := some 44) #[true, true, true, true, true, true, true, true, true, true, true, false] rfl rfl (one_of HT_.out (by kernel_rfl)) (by decide) (fun K hK => ?_); refine goes_ Try.func28 (by kernel_rfl) rfl #[.agg #[.int .i64 ((rd_T27 l0_2 x31_2).f0), .slice A379_1 ((rd_T27 l0_2 x31_2).f1).length c379_1, .slice A379_2 ((rd_T27 l0_2 x31_2).f2).length c379_2], .agg #[.int .i64 ((rd_T27 l1_2 x31_2).f0), .slice A380_1 ((rd_T27 l1_2 x31_2).f1).length c380_1, .slice A380_2 ((rd_T27 l1_2 x31_2).f2).length c380_2]] (by rfl) rfl rfl ax ?_
           with_reducible refine (ih k2 (by have := HJ2.out; have := HK2.out; omega) ((rd_T27 l0_2 x31_2).f0) _ _ ((rd_T27 l0_2 x31_2).f1) _ _ ((rd_T27 l0_2 x31_2).f2) ((rd_T27 l1_2 x31_2).f0) _ _ ((rd_T27 l1_2 x31_2).f1) _ _ ((rd_T27 l1_2 x31_2).f2) false _ ?side1 ?side2 ?side3 ?side4 ?side5 ?side6 ?side7 ?side8 A25.out).mono ?_
           (case side1 => exact (Kd.C_below HR379_1.out HB.out))
           (case side2 => exact HC379_1.out)
           (case side3 => exact (Kd.C_below HR379_2.out HB.out))
           (case side4 => exact HC379_2.out)
           (case side5 => exact (Kd.C_below HR380_1.out HB.out))
           (case side6 => exact HC380_1.out)
           (case side7 => exact (Kd.C_below HR380_2.out HB.out))
           (case side8 => exact HC380_2.out)
           rintro e w30 ⟨rfl, hb⟩; refine ⟨_, rfl, ?_⟩; replace BK376 := bb BK376 hb; replace BK377 := bb BK377 hb; replace HB := bs HB hb; (try clear hb); (try clear hb2); (try clear hk); (try clear hi); refine hK.out _ _ ⟨(blk_cell BK376.out 0).trans rfl, (blk_cell BK376.out 1).trans rfl, (blk_cell BK376.out 2).trans rfl, (blk_cell BK377.out 0).trans rfl, (blk_cell BK377.out 1).trans rfl, (blk_cell BK377.out 2).trans rfl, ((HB.out.cell (World.block_lt_of_cell? w _ hw379_0)).trans hw379_0), ((HB.out.cell (World.block_lt_of_cell? w _ hw379_1)).trans hw379_1), ((HB.out.cell (World.block_lt_of_cell? w _ hw379_2)).trans hw379_2), ((HB.out.cell (World.block_lt_of_cell? w _ hw380_0)).trans hw380_0), ((HB.out.cell (World.block_lt_of_cell? w _ hw380_1)).trans hw380_1), ((HB.out.cell (World.block_lt_of_cell? w _ hw380_2)).trans hw380_2)⟩ (fun hHeld => ?_); clear hK K; refine norm_ (a' := ?_) ?_ ?_; rotate_left
           ·
            show Act.put _ (some 44) _ = _
            exact pu
           refine pq (i := 11) (N := some 45) #[true, true, true, true, true, true, true, true, true, true, true, true] HT_ ?_
           refine done_ (done_of HT_.out (by kernel_rfl)) ?_
           try go_wp2
           go_ret
           exact ⟨er, by exact HB.out⟩
         ·
          rw [if_neg c24] at H; exact absurd H (by simp)
        ·
         rw [if_neg c23] at H; exact absurd H (by simp)
       ·
        rw [if_neg c22] at H; exact absurd H (by simp)
      ·
       rw [if_neg c21] at H; have c21b0 : decide (x31_2 < (l0_2.length : Int)) = false := decide_eq_false c21; clear c21; obtain rfl := Option.some.inj H
       go_wp2
       go_ret
       exact ⟨er, by exact HB.out⟩
end Go.Proofs.Yteljoemeogeidaa.QThresholdAnswers
