/- Lean functions that answer as the Go functions do which the law reaches, and proofs that the Go code comes to exactly these answers. Conditions: those that each theorem names. -/
import Derived.Test.YteljoemeogeidaaQThresholdAnswersx0
import Derived.Test.YteljoemeogeidaaQThresholdAnswersx1
namespace Go.Proofs.Yteljoemeogeidaa.QThresholdAnswers
open Go.RowKit Go.Proofs.YteljoemeogeidaaW.PrintWords Go.Proofs.YteljoemeogeidaaW.PrintLast Go.Proofs.YteljoemeogeidaaW.PrintMore
attribute [local go_sem] max2_int min2_int max_two min_two max_three min_three max_four min_four   -- for this text's walks alone
set_option linter.unusedVariables false
set_option linter.unusedSimpArgs false

/-! ### trustquorumref02_check: function 43 -/
mutual
def trustquorumref02_check.j0 : Nat → Bool → Int → List Int → List (S27) → Option (Int)
  | 0, _, _, _, _ => none
  | k + 1, x24, x116000, x116001, x116002 => if x24 = true then (some 4) else (trustquorumref02_check.l0 k x116001 (x116001.length : Int) 0 x116000 x116001 x116002)
def trustquorumref02_check.l0 : Nat → List Int → Int → Int → Int → List Int → List (S27) → Option (Int)
  | 0, _, _, _, _, _, _ => none
  | k + 1, x26, x27, x28, x116000, x116001, x116002 => if x28 < x27 then (if 0 ≤ x28 then (if x28 < (x26.length : Int) then (if (rd x26 x28) < 0 then (some 5) else (if (rd x26 x28) ≥ 10 then (some 5) else (trustquorumref02_check.l0 k x26 x27 (wrap64 (x28 + 1)) x116000 x116001 x116002))) else (none)) else (none)) else ((trustquorumref01_Of.f k x116001).bind fun bt117 => (if bt117.2 = 0 then (trustquorumref02_check.l1 k x116002 (x116002.length : Int) 0) else (some bt117.2)))
def trustquorumref02_check.l1 : Nat → List (S27) → Int → Int → Option (Int)
  | 0, _, _, _ => none
  | k + 1, x49, x50, x51 => if x51 < x50 then (if 0 ≤ x51 then (if x51 < (x49.length : Int) then ((trustquorumref02_check.f k ((rd_T27 x49 x51).f0) ((rd_T27 x49 x51).f1) ((rd_T27 x49 x51).f2)).bind fun t121 => (if t121 = 0 then (trustquorumref02_check.l1 k x49 x50 (wrap64 (x51 + 1))) else (some t121))) else (none)) else (none)) else (some 0)
def trustquorumref02_check.f : Nat → Int → List Int → List (S27) → Option (Int)
  | 0, _, _, _ => none
  | k + 1, a0_0, l0_1, l0_2 => if a0_0 < 1 then (trustquorumref02_check.j0 k true a0_0 l0_1 l0_2) else (trustquorumref02_check.j0 k (decide (a0_0 > (wrap64 ((l0_1.length : Int) + (l0_2.length : Int))))) a0_0 l0_1 l0_2)
end
theorem trustquorumref02_check.mono_l : ∀ k, (∀ y0 y1 y2, LeO (trustquorumref02_check.f k y0 y1 y2) (trustquorumref02_check.f (k + 1) y0 y1 y2)) ∧ (∀ y0 y1 y2 y3, LeO (trustquorumref02_check.j0 k y0 y1 y2 y3) (trustquorumref02_check.j0 (k + 1) y0 y1 y2 y3)) ∧ (∀ y0 y1 y2 y3 y4 y5, LeO (trustquorumref02_check.l0 k y0 y1 y2 y3 y4 y5) (trustquorumref02_check.l0 (k + 1) y0 y1 y2 y3 y4 y5)) ∧ (∀ y0 y1 y2, LeO (trustquorumref02_check.l1 k y0 y1 y2) (trustquorumref02_check.l1 (k + 1) y0 y1 y2))
  | 0 => ⟨fun _ _ _ r h => by simp [trustquorumref02_check.f] at h, fun _ _ _ _ r h => by simp [trustquorumref02_check.j0] at h, fun _ _ _ _ _ _ r h => by simp [trustquorumref02_check.l0] at h, fun _ _ _ r h => by simp [trustquorumref02_check.l1] at h⟩
  | k + 1 => by
    obtain ⟨ih0, ih1, ih2, ih3⟩ := trustquorumref02_check.mono_l k
    refine ⟨?_, ?_, ?_, ?_⟩
    · intro y0 y1 y2
      unfold trustquorumref02_check.f
      repeat' first
      | (with_reducible exact ih0 _ _ _)
      | (with_reducible exact ih1 _ _ _ _)
      | (with_reducible exact ih2 _ _ _ _ _ _)
      | (with_reducible exact ih3 _ _ _)
      | (with_reducible exact trustquorumref01_Of.mono _ _)
      | (with_reducible exact LeO.refl _)
      | (with_reducible exact LeO.none _)
      | (with_reducible refine LeO.ite ?_ ?_)
      | (with_reducible refine LeO.bind ?_ (fun _ => ?_))
      | exact ih0 _ _ _
      | exact ih1 _ _ _ _
      | exact ih2 _ _ _ _ _ _
      | exact ih3 _ _ _
      | exact trustquorumref01_Of.mono _ _
      | exact LeO.none _
      | refine LeO.ite ?_ ?_
      | refine LeO.bind ?_ (fun _ => ?_)
    · intro y0 y1 y2 y3
      unfold trustquorumref02_check.j0
      repeat' first
      | (with_reducible exact ih0 _ _ _)
      | (with_reducible exact ih1 _ _ _ _)
      | (with_reducible exact ih2 _ _ _ _ _ _)
      | (with_reducible exact ih3 _ _ _)
      | (with_reducible exact trustquorumref01_Of.mono _ _)
      | (with_reducible exact LeO.refl _)
      | (with_reducible exact LeO.none _)
      | (with_reducible refine LeO.ite ?_ ?_)
      | (with_reducible refine LeO.bind ?_ (fun _ => ?_))
      | exact ih0 _ _ _
      | exact ih1 _ _ _ _
      | exact ih2 _ _ _ _ _ _
      | exact ih3 _ _ _
      | exact trustquorumref01_Of.mono _ _
      | exact LeO.none _
      | refine LeO.ite ?_ ?_
      | refine LeO.bind ?_ (fun _ => ?_)
    · intro y0 y1 y2 y3 y4 y5
      unfold trustquorumref02_check.l0
      repeat' first
      | (with_reducible exact ih0 _ _ _)
      | (with_reducible exact ih1 _ _ _ _)
      | (with_reducible exact ih2 _ _ _ _ _ _)
      | (with_reducible exact ih3 _ _ _)
      | (with_reducible exact trustquorumref01_Of.mono _ _)
      | (with_reducible exact LeO.refl _)
      | (with_reducible exact LeO.none _)
      | (with_reducible refine LeO.ite ?_ ?_)
      | (with_reducible refine LeO.bind ?_ (fun _ => ?_))
      | exact ih0 _ _ _
      | exact ih1 _ _ _ _
      | exact ih2 _ _ _ _ _ _
      | exact ih3 _ _ _
      | exact trustquorumref01_Of.mono _ _
      | exact LeO.none _
      | refine LeO.ite ?_ ?_
      | refine LeO.bind ?_ (fun _ => ?_)
    · intro y0 y1 y2
      unfold trustquorumref02_check.l1
      repeat' first
      | (with_reducible exact ih0 _ _ _)
      | (with_reducible exact ih1 _ _ _ _)
      | (with_reducible exact ih2 _ _ _ _ _ _)
      | (with_reducible exact ih3 _ _ _)
      | (with_reducible exact trustquorumref01_Of.mono _ _)
      | (with_reducible exact LeO.refl _)
      | (with_reducible exact LeO.none _)
      | (with_reducible refine LeO.ite ?_ ?_)
      | (with_reducible refine LeO.bind ?_ (fun _ => ?_))
      | exact ih0 _ _ _
      | exact ih1 _ _ _ _
      | exact ih2 _ _ _ _ _ _
      | exact ih3 _ _ _
      | exact trustquorumref01_Of.mono _ _
      | exact LeO.none _
      | refine LeO.ite ?_ ?_
      | refine LeO.bind ?_ (fun _ => ?_)
theorem trustquorumref02_check.mono : ∀ a0 a1 a2 k, LeO (trustquorumref02_check.f k a0 a1 a2) (trustquorumref02_check.f (k + 1) a0 a1 a2) := by
  intro a0 a1 a2 k
  obtain ⟨ih0, ih1, ih2, ih3⟩ := trustquorumref02_check.mono_l k
  exact ih0 a0 a1 a2
set_option maxHeartbeats 8000000 in
set_option maxRecDepth 100000 in
theorem trustquorumref02_check.calls (k : Nat) : ∀ (a0_0 : Int) (A0_1 : Option Addr) (c0_1 : Nat) (l0_1 : List Int) (A0_2 : Option Addr) (c0_2 : Nat) (l0_2 : List (S27)) (r : Int) (w : World) (hr0_1 : Kd.C (Kd.int .i64) w A0_1 l0_1.length l0_1) (hc0_1 : l0_1.length ≤ c0_1) (hr0_2 : Kd.C k27 w A0_2 l0_2.length l0_2) (hc0_2 : l0_2.length ≤ c0_2) (h : trustquorumref02_check.f k a0_0 l0_1 l0_2 = some r),
    Calls Try.prog 43 #[.agg #[.int .i64 a0_0, .slice A0_1 l0_1.length c0_1, .slice A0_2 l0_2.length c0_2]] w fun e w' => e = .returned (.int .i64 r) ∧ Below w.heap.size w w' := by
 induction k using Nat.strongRecOn with
 | _ k ih =>
 intro a0_0 A0_1 c0_1 l0_1 A0_2 c0_2 l0_2 r w hr0_1 hc0_1 hr0_2 hc0_2 h
 cases k with
 | zero => exact absurd h (by simp [trustquorumref02_check.f])
 | succ k =>
 simp only [trustquorumref02_check.f] at h; have hu27 := Try.underlying27; have HR0_1 := am hr0_1; have HC0_1 := am hc0_1; clear hr0_1 hc0_1; have HR0_2 := am hr0_2; have HC0_2 := am hc0_2; clear hr0_2 hc0_2; have HB := am (Below.refl w.heap.size w); have H : (if a0_0 < 1 then (trustquorumref02_check.j0 k true a0_0 l0_1 l0_2) else (trustquorumref02_check.j0 k (decide (a0_0 > (wrap64 ((l0_1.length : Int) + (l0_2.length : Int))))) a0_0 l0_1 l0_2)) = some r := h; clear h; have HC2 := am H; clear H
 go_enter Try.func43, Try.ntmps43
 go_upto_region 1 with (first | ((with_reducible refine gate_dst (N := 1) rfl ?_); (try (refine gate_guard (by rfl) ?_; dsimp only)); refine box_event ?hg (N := 1) ?hd (cs := #[.int .i64 a0_0, .slice A0_1 l0_1.length c0_1, .slice A0_2 l0_2.length c0_2]) (t := 27) ?hr ?_; (case hd => rfl); (case hg => rfl); (case hr => first | (go_simp; done) | (go_simp; rfl)); intro gb115 hg w3 hbox hb; have BK115 := am (hbox); have GW115 := am ((by rw [hg]; exact (below_size HB.out) : w.heap.size ≤ gb115)); have GE115 := am ((by rw [hg]; exact (below_size HB.out) : w.heap.size ≤ gb115)); replace HB := bs HB hb; clear hb hbox hg))
 (try simp only [Act.put, List.setIfInBounds_toArray, List.set_cons_zero, List.set_cons_succ])
 go_cut [24] (fun v24 wc => ∃ (kq : Nat) (x24_1 : Bool), v24 = .bool x24_1 ∧ Aside0 (trustquorumref02_check.j0 kq x24_1 a0_0 l0_1 l0_2 = some r) ∧ Aside0 (kq ≤ k) ∧ Aside0 (wc.heap[gb115]? = some (.cells #[.int .i64 a0_0, (.slice A0_1 l0_1.length c0_1), (.slice A0_2 l0_2.length c0_2)] 27 (0, 0))) ∧ Aside0 (Below w.heap.size w wc))
 case first =>
  have H := HC2.out; clear HC2
  by_cases c4 : a0_0 < 1
  ·
   rw [if_pos c4] at H; have c4b0 : decide (a0_0 < 1) = true := decide_eq_true c4; clear c4; (first | rw [c4b0] | (simp only [i64_w, i32_w]; rw [c4b0]) | skip); have H' := am H; clear H; obtain ⟨hcz5_0, hcz5_1, hcz5_2, hfz5_0, hfz5_1, hfz5_2⟩ := blkC3 BK115.out
   go_wp2
   go_meet
   case rel => exact ⟨_, (true), ar, H', ⟨by first | omega | exact Nat.le_refl _⟩, ⟨by exact BK115.out⟩, ⟨by exact HB.out⟩⟩
  ·
   rw [if_neg c4] at H; have c4b0 : decide (a0_0 < 1) = false := decide_eq_false c4; clear c4; (first | rw [c4b0] | (simp only [i64_w, i32_w]; rw [c4b0]) | skip); have H' := am H; clear H; obtain ⟨hcz6_0, hcz6_1, hcz6_2, hfz6_0, hfz6_1, hfz6_2⟩ := blkC3 BK115.out
   go_wp2
   go_meet
   case rel => exact ⟨_, (decide (a0_0 > (wrap64 ((l0_1.length : Int) + (l0_2.length : Int))))), ar, H', ⟨by first | omega | exact Nat.le_refl _⟩, ⟨by exact BK115.out⟩, ⟨by exact HB.out⟩⟩
 case rest =>
  clear HC2; (try clear p2); (try clear c4); (try clear c4b0); (try clear p6); (try clear hcz5_0 hcz5_1 hcz5_2); (try clear hcz6_0 hcz6_1 hcz6_2); (try clear hfz5_0 hfz5_1 hfz5_2); (try clear hfz6_0 hfz6_1 hfz6_2); obtain ⟨kq, x24_1, rfl, HA, HJ1, BK115, HB⟩ := hcut
  cases kq with
  | zero => exact absurd HA.out (by simp [trustquorumref02_check.j0])
  | succ kj1 =>
   have H := HA.out; clear HA; simp only [trustquorumref02_check.j0] at H
   by_cases c7 : x24_1 = true
   ·
    subst c7; have H1 : (some 4) = some r := by rw [if_pos rfl] at H; exact H
    clear H; have H := H1; clear H1; obtain rfl := Option.some.inj H
    go_wp2
    go_ret
    exact ⟨er, by exact HB.out⟩
   ·
    replace c7 := Bool.eq_false_iff.mpr c7; subst c7; have H1 : (trustquorumref02_check.l0 kj1 l0_1 (l0_1.length : Int) 0 a0_0 l0_1 l0_2) = some r := by rw [if_neg (show ¬ (false = true) by decide)] at H; exact H
    clear H; have H := H1; clear H1; have H' := am H; clear H; obtain ⟨hcz8_0, hcz8_1, hcz8_2, hfz8_0, hfz8_1, hfz8_2⟩ := blkC3 BK115.out
    go_wp2
    go_loopg [28] kj1 (fun kq v28 w' => ∃ (x28_2 : Int), v28 = .int .i64 x28_2 ∧ Aside0 (trustquorumref02_check.l0 kq l0_1 (l0_1.length : Int) x28_2 a0_0 l0_1 l0_2 = some r) ∧ Aside0 (kq ≤ kj1) ∧ Aside0 (w'.heap[gb115]? = some (.cells #[.int .i64 a0_0, (.slice A0_1 l0_1.length c0_1), (.slice A0_2 l0_2.length c0_2)] 27 (0, 0))) ∧ Aside0 (Below w.heap.size w w'))
    case atStart => exact ⟨(0), ar, H', ⟨Nat.le_refl _⟩, ⟨by exact BK115.out⟩, ⟨by exact HB.out⟩⟩
    case round =>
     clear H'; (try clear p2); (try clear c4); (try clear c4b0); (try clear p6); (try clear c7); (try clear hcz5_0 hcz5_1 hcz5_2); (try clear hcz6_0 hcz6_1 hcz6_2); (try clear hcz8_0 hcz8_1 hcz8_2); (try clear hfz5_0 hfz5_1 hfz5_2); (try clear hfz6_0 hfz6_1 hfz6_2); (try clear hfz8_0 hfz8_1 hfz8_2); (try clear p2); (try clear p6); obtain ⟨x28_2, rfl, HA, HK2, BK115, HB⟩ := hrel
     cases gk with
     | zero => exact absurd HA.out (by simp [trustquorumref02_check.l0])
     | succ k2 =>
      have H := HA.out; clear HA; simp only [trustquorumref02_check.l0] at H
      by_cases c9 : x28_2 < (l0_1.length : Int)
      ·
       rw [if_pos c9] at H; have c9b0 : decide (x28_2 < (l0_1.length : Int)) = true := decide_eq_true c9; clear c9
       by_cases c10 : 0 ≤ x28_2
       ·
        rw [if_pos c10] at H; have c10b0 : decide (0 ≤ x28_2) = true := decide_eq_true c10; clear c10
        by_cases c11 : x28_2 < (l0_1.length : Int)
        ·
         rw [if_pos c11] at H; have c11b0 : decide (x28_2 < (l0_1.length : Int)) = true := decide_eq_true c11; clear c11
         by_cases c12 : (rd l0_1 x28_2) < 0
         ·
          rw [if_pos c12] at H; have c12b0 : decide ((rd l0_1 x28_2) < 0) = true := decide_eq_true c12; clear c12; obtain rfl := Option.some.inj H; have p116 : 0 ≤ (x28_2 : Int) := od; have q116 : x28_2 < (l0_1.length : Int) := od; obtain ⟨ad116, e116, hx116_0⟩ := Kd.at_int HR0_1.out x28_2 p116 q116
          cases e116
          replace hx116_0 := (HB.out.cell (World.block_lt_of_cell? w _ hx116_0)).trans hx116_0; replace p116 := eq_true p116; replace q116 := eq_true q116
          go_wp2
          go_ret
          exact ⟨er, by exact HB.out⟩
         ·
          rw [if_neg c12] at H; have c12b0 : decide ((rd l0_1 x28_2) < 0) = false := decide_eq_false c12; clear c12
          by_cases c13 : (rd l0_1 x28_2) ≥ 10
          ·
           rw [if_pos c13] at H; have c13b0 : decide (10 ≤ (rd l0_1 x28_2)) = true := decide_eq_true c13; clear c13; obtain rfl := Option.some.inj H; have p116 : 0 ≤ (x28_2 : Int) := od; have q116 : x28_2 < (l0_1.length : Int) := od; obtain ⟨ad116, e116, hx116_0⟩ := Kd.at_int HR0_1.out x28_2 p116 q116
           cases e116
           replace hx116_0 := (HB.out.cell (World.block_lt_of_cell? w _ hx116_0)).trans hx116_0; replace p116 := eq_true p116; replace q116 := eq_true q116
           go_wp2
           go_ret
           exact ⟨er, by exact HB.out⟩
          ·
           rw [if_neg c13] at H; have c13b0 : decide (10 ≤ (rd l0_1 x28_2)) = false := decide_eq_false c13; clear c13; have H' := am H; clear H; have p116 : 0 ≤ (x28_2 : Int) := od; have q116 : x28_2 < (l0_1.length : Int) := od; obtain ⟨ad116, e116, hx116_0⟩ := Kd.at_int HR0_1.out x28_2 p116 q116
           cases e116
           replace hx116_0 := (HB.out.cell (World.block_lt_of_cell? w _ hx116_0)).trans hx116_0; replace p116 := eq_true p116; replace q116 := eq_true q116
           go_wp2
           go_roundg k2
           case measure => have := HJ1.out; have := HK2.out; omega
           case rel => exact ⟨(wrap64 (x28_2 + 1)), ar, H', ⟨by have := HJ1.out; have := HK2.out; omega⟩, ⟨by exact BK115.out⟩, ⟨by exact HB.out⟩⟩
        ·
         rw [if_neg c11] at H; exact absurd H (by simp)
       ·
        rw [if_neg c10] at H; exact absurd H (by simp)
      ·
       rw [if_neg c9] at H; have c9b0 : decide (x28_2 < (l0_1.length : Int)) = false := decide_eq_false c9; clear c9; replace H := Option.bind_eq_some_iff.mp H; obtain ⟨⟨t117, t118⟩, A140, H⟩ := H; replace H : (if t118 = 0 then (trustquorumref02_check.l1 k2 l0_2 (l0_2.length : Int) 0) else (some t118)) = some r := H; have A14 := am A140; clear A140
       by_cases c15 : t118 = 0
       ·
        rw [if_pos c15] at H; have c15b0 : (t118 == 0) = true := beq_iff_eq.mpr c15; have c15b1 : (t118 != 0) = false := bne_eq_false_iff_eq.mpr c15; clear c15; have H' := am H; clear H; obtain ⟨hcz16_0, hcz16_1, hcz16_2, hfz16_0, hfz16_1, hfz16_2⟩ := blkC3 BK115.out
        go_wp2_with (first | ((with_reducible refine gate_callee (f := 51) rfl ?_); refine goesL_ (some 42) rfl rfl Try.func51 (by kernel_rfl) rfl #[.slice A0_1 l0_1.length c0_1] rfl ax ?_; (with_reducible refine (trustquorumref01_Of.calls k2 _ _ l0_1 t117 t118 _ ?side1 ?side2 A14.out).mono ?_); (case side1 => exact (Kd.C_below HR0_1.out HB.out)); (case side2 => exact HC0_1.out); rintro e w' ⟨rfl, ⟨nd, rfl⟩⟩; refine ⟨_, rfl, ?_⟩))
        go_loopg [51] k2 (fun kq v51 w' => ∃ (x51_3 : Int), v51 = .int .i64 x51_3 ∧ Aside0 (trustquorumref02_check.l1 kq l0_2 (l0_2.length : Int) x51_3 = some r) ∧ Aside0 (kq ≤ k2) ∧ Aside0 (Below w.heap.size w w'))
        case atStart => exact ⟨(0), ar, H', ⟨Nat.le_refl _⟩, ⟨by repeat (first | (with_reducible first | exact HB.out | apply below_alloc | apply pw_below_drewN | apply below_drew1 | refine below_set ?_ GE115.out) | exact HB.out)⟩⟩
        case round =>
         clear H'; (try clear c1); (try clear p1); (try clear q1); (try clear hx1); (try clear p2); (try clear c4); (try clear c4b0); (try clear c5); (try clear p6); (try clear c7); (try clear c9); (try clear c9b0); (try clear c10); (try clear c10b0); (try clear c11); (try clear c11b0); (try clear p11); (try clear q11); (try clear hx11); (try clear c12); (try clear c12b0); (try clear c13); (try clear c13b0); (try clear c15); (try clear c15b0); (try clear c15b1); (try clear hcz16_0 hcz16_1 hcz16_2); (try clear hcz5_0 hcz5_1 hcz5_2); (try clear hcz6_0 hcz6_1 hcz6_2); (try clear hcz8_0 hcz8_1 hcz8_2); (try clear hfz16_0 hfz16_1 hfz16_2); (try clear hfz5_0 hfz5_1 hfz5_2); (try clear hfz6_0 hfz6_1 hfz6_2); (try clear hfz8_0 hfz8_1 hfz8_2); (try clear hx116_0); (try clear p116); (try clear p2); (try clear p6); (try clear q116); obtain ⟨x51_3, rfl, HA, HK3, HB⟩ := hrel
         cases gk with
         | zero => exact absurd HA.out (by simp [trustquorumref02_check.l1])
         | succ k3 =>
          have H := HA.out; clear HA; simp only [trustquorumref02_check.l1] at H
          by_cases c17 : x51_3 < (l0_2.length : Int)
          ·
           rw [if_pos c17] at H; have c17b0 : decide (x51_3 < (l0_2.length : Int)) = true := decide_eq_true c17; clear c17
           by_cases c18 : 0 ≤ x51_3
           ·
            rw [if_pos c18] at H; have c18b0 : decide (0 ≤ x51_3) = true := decide_eq_true c18; clear c18
            by_cases c19 : x51_3 < (l0_2.length : Int)
            ·
             rw [if_pos c19] at H; have c19b0 : decide (x51_3 < (l0_2.length : Int)) = true := decide_eq_true c19; clear c19; replace H := Option.bind_eq_some_iff.mp H; obtain ⟨t121, A200, H⟩ := H; replace H : (if t121 = 0 then (trustquorumref02_check.l1 k3 l0_2 (l0_2.length : Int) (wrap64 (x51_3 + 1))) else (some t121)) = some r := H; have A20 := am A200; clear A200
             by_cases c21 : t121 = 0
             ·
              rw [if_pos c21] at H; have c21b0 : (t121 == 0) = true := beq_iff_eq.mpr c21; have c21b1 : (t121 != 0) = false := bne_eq_false_iff_eq.mpr c21; clear c21; have H' := am H; clear H; have p119 : 0 ≤ (x51_3 : Int) := od; have q119 : x51_3 < (l0_2.length : Int) := od; obtain ⟨ad119, A119_1, c119_1, A119_2, c119_2, e119, hx119_0, hx119_1, hx119_2, hl119_1, hi119_1, hl119_2, hi119_2⟩ := at_T27 HR0_2.out x51_3 p119 q119
              cases e119
              replace hx119_0 := (HB.out.cell (World.block_lt_of_cell? w _ hx119_0)).trans hx119_0; replace hx119_1 := (HB.out.cell (World.block_lt_of_cell? w _ hx119_1)).trans hx119_1; replace hx119_2 := (HB.out.cell (World.block_lt_of_cell? w _ hx119_2)).trans hx119_2; have HR119_1 := am hi119_1; have HC119_1 := am hl119_1; clear hi119_1 hl119_1; have HR119_2 := am hi119_2; have HC119_2 := am hl119_2; clear hi119_2 hl119_2; replace p119 := eq_true p119; replace q119 := eq_true q119
              go_wp2_with (first | ((with_reducible refine gate_dst (N := 8) rfl ?_); (try (refine gate_guard (by rfl) ?_; dsimp only)); refine box_event ?hg (N := 8) ?hd (cs := #[.int .i64 0, .slice none 0 0, .slice none 0 0]) (t := 27) ?hr ?_; (case hd => rfl); (case hg => rfl); (case hr => first | (go_simp; done) | (go_simp; rfl)); intro gb120 hg w22 hbox hb; have BK120 := am (hbox); have GW120 := am ((by rw [hg]; exact (below_size HB.out) : w.heap.size ≤ gb120)); have GE120 := am ((by rw [hg]; exact (below_size HB.out) : w.heap.size ≤ gb120)); replace HB := bs HB hb; clear hb hbox hg; obtain ⟨hcz23_0, hcz23_1, hcz23_2, hfz23_0, hfz23_1, hfz23_2⟩ := blkC3 BK120.out) | ((with_reducible refine gate_callee (f := 43) rfl ?_); refine goesL_ (some 56) rfl rfl Try.func43 (by kernel_rfl) rfl #[.agg #[.int .i64 ((rd_T27 l0_2 x51_3).f0), .slice A119_1 ((rd_T27 l0_2 x51_3).f1).length c119_1, .slice A119_2 ((rd_T27 l0_2 x51_3).f2).length c119_2]] rfl ax ?_; (with_reducible refine (ih k3 (by have := HJ1.out; have := HK2.out; have := HK3.out; omega) ((rd_T27 l0_2 x51_3).f0) _ _ ((rd_T27 l0_2 x51_3).f1) _ _ ((rd_T27 l0_2 x51_3).f2) t121 _ ?side1 ?side2 ?side3 ?side4 A20.out).mono ?_); (case side1 => exact Kd.C_below HR119_1.out (by repeat (first | (with_reducible first | exact HB.out | apply below_alloc | apply pw_below_drewN | apply below_drew1 | refine below_set ?_ GE120.out) | exact HB.out))); (case side2 => exact HC119_1.out); (case side3 => exact Kd.C_below HR119_2.out (by repeat (first | (with_reducible first | exact HB.out | apply below_alloc | apply pw_below_drewN | apply below_drew1 | refine below_set ?_ GE120.out) | exact HB.out))); (case side4 => exact HC119_2.out); rintro e w24 ⟨rfl, hb⟩; refine ⟨_, rfl, ?_⟩; replace BK120 := am (blk_below (g := gb120) (o := .cells #[.int .i64 ((rd_T27 l0_2 x51_3).f0), .slice A119_1 ((rd_T27 l0_2 x51_3).f1).length c119_1, .slice A119_2 ((rd_T27 l0_2 x51_3).f2).length c119_2] 27 (0, 0)) (by (with_reducible repeat first | apply blk_drewN | apply blk_drew | apply blk_alloc); refine blk_put (cs := #[.int .i64 ((rd_T27 l0_2 x51_3).f0), .slice A119_1 ((rd_T27 l0_2 x51_3).f1).length c119_1, .slice none 0 0]) ?_ 2 _ rfl; (with_reducible repeat first | apply blk_drewN | apply blk_drew | apply blk_alloc); refine blk_put (cs := #[.int .i64 ((rd_T27 l0_2 x51_3).f0), .slice none 0 0, .slice none 0 0]) ?_ 1 _ rfl; (with_reducible repeat first | apply blk_drewN | apply blk_drew | apply blk_alloc); refine blk_put (cs := #[.int .i64 0, .slice none 0 0, .slice none 0 0]) ?_ 0 _ rfl; (with_reducible repeat first | apply blk_drewN | apply blk_drew | apply blk_alloc); exact BK120.out) hb); replace HB := am (below_step (by repeat (first | (with_reducible first | exact HB.out | apply below_alloc | apply pw_below_drewN | apply below_drew1 | refine below_set ?_ GE120.out) | exact HB.out)) hb); (try clear hb); (try clear hb2); (try clear hk); (try clear hi)))
              go_roundg k3
              case measure => have := HJ1.out; have := HK2.out; have := HK3.out; omega
              case rel => exact ⟨(wrap64 (x51_3 + 1)), ar, H', ⟨by have := HJ1.out; have := HK2.out; have := HK3.out; omega⟩, ⟨by exact HB.out⟩⟩
             ·
              rw [if_neg c21] at H; have c21b0 : (t121 == 0) = false := beq_eq_false_iff_ne.mpr c21; have c21b1 : (t121 != 0) = true := bne_iff_ne.mpr c21; obtain rfl := Option.some.inj H; have p119 : 0 ≤ (x51_3 : Int) := od; have q119 : x51_3 < (l0_2.length : Int) := od; obtain ⟨ad119, A119_1, c119_1, A119_2, c119_2, e119, hx119_0, hx119_1, hx119_2, hl119_1, hi119_1, hl119_2, hi119_2⟩ := at_T27 HR0_2.out x51_3 p119 q119
              cases e119
              replace hx119_0 := (HB.out.cell (World.block_lt_of_cell? w _ hx119_0)).trans hx119_0; replace hx119_1 := (HB.out.cell (World.block_lt_of_cell? w _ hx119_1)).trans hx119_1; replace hx119_2 := (HB.out.cell (World.block_lt_of_cell? w _ hx119_2)).trans hx119_2; have HR119_1 := am hi119_1; have HC119_1 := am hl119_1; clear hi119_1 hl119_1; have HR119_2 := am hi119_2; have HC119_2 := am hl119_2; clear hi119_2 hl119_2; replace p119 := eq_true p119; replace q119 := eq_true q119
              go_wp2_with (first | ((with_reducible refine gate_dst (N := 8) rfl ?_); (try (refine gate_guard (by rfl) ?_; dsimp only)); refine box_event ?hg (N := 8) ?hd (cs := #[.int .i64 0, .slice none 0 0, .slice none 0 0]) (t := 27) ?hr ?_; (case hd => rfl); (case hg => rfl); (case hr => first | (go_simp; done) | (go_simp; rfl)); intro gb120 hg w25 hbox hb; have BK120 := am (hbox); have GW120 := am ((by rw [hg]; exact (below_size HB.out) : w.heap.size ≤ gb120)); have GE120 := am ((by rw [hg]; exact (below_size HB.out) : w.heap.size ≤ gb120)); replace HB := bs HB hb; clear hb hbox hg; obtain ⟨hcz26_0, hcz26_1, hcz26_2, hfz26_0, hfz26_1, hfz26_2⟩ := blkC3 BK120.out) | ((with_reducible refine gate_callee (f := 43) rfl ?_); refine goesL_ (some 56) rfl rfl Try.func43 (by kernel_rfl) rfl #[.agg #[.int .i64 ((rd_T27 l0_2 x51_3).f0), .slice A119_1 ((rd_T27 l0_2 x51_3).f1).length c119_1, .slice A119_2 ((rd_T27 l0_2 x51_3).f2).length c119_2]] rfl ax ?_; (with_reducible refine (ih k3 (by have := HJ1.out; have := HK2.out; have := HK3.out; omega) ((rd_T27 l0_2 x51_3).f0) _ _ ((rd_T27 l0_2 x51_3).f1) _ _ ((rd_T27 l0_2 x51_3).f2) t121 _ ?side1 ?side2 ?side3 ?side4 A20.out).mono ?_); (case side1 => exact Kd.C_below HR119_1.out (by repeat (first | (with_reducible first | exact HB.out | apply below_alloc | apply pw_below_drewN | apply below_drew1 | refine below_set ?_ GE120.out) | exact HB.out))); (case side2 => exact HC119_1.out); (case side3 => exact Kd.C_below HR119_2.out (by repeat (first | (with_reducible first | exact HB.out | apply below_alloc | apply pw_below_drewN | apply below_drew1 | refine below_set ?_ GE120.out) | exact HB.out))); (case side4 => exact HC119_2.out); rintro e w27 ⟨rfl, hb⟩; refine ⟨_, rfl, ?_⟩; replace BK120 := am (blk_below (g := gb120) (o := .cells #[.int .i64 ((rd_T27 l0_2 x51_3).f0), .slice A119_1 ((rd_T27 l0_2 x51_3).f1).length c119_1, .slice A119_2 ((rd_T27 l0_2 x51_3).f2).length c119_2] 27 (0, 0)) (by (with_reducible repeat first | apply blk_drewN | apply blk_drew | apply blk_alloc); refine blk_put (cs := #[.int .i64 ((rd_T27 l0_2 x51_3).f0), .slice A119_1 ((rd_T27 l0_2 x51_3).f1).length c119_1, .slice none 0 0]) ?_ 2 _ rfl; (with_reducible repeat first | apply blk_drewN | apply blk_drew | apply blk_alloc); refine blk_put (cs := #[.int .i64 ((rd_T27 l0_2 x51_3).f0), .slice none 0 0, .slice none 0 0]) ?_ 1 _ rfl; (with_reducible repeat first | apply blk_drewN | apply blk_drew | apply blk_alloc); refine blk_put (cs := #[.int .i64 0, .slice none 0 0, .slice none 0 0]) ?_ 0 _ rfl; (with_reducible repeat first | apply blk_drewN | apply blk_drew | apply blk_alloc); exact BK120.out) hb); replace HB := am (below_step (by repeat (first | (with_reducible first | exact HB.out | apply below_alloc | apply pw_below_drewN | apply below_drew1 | refine below_set ?_ GE120.out) | exact HB.out)) hb); (try clear hb); (try clear hb2); (try clear hk); (try clear hi)))
              go_ret
              exact ⟨er, by exact HB.out⟩
            ·
             rw [if_neg c19] at H; exact absurd H (by simp)
           ·
            rw [if_neg c18] at H; exact absurd H (by simp)
          ·
           rw [if_neg c17] at H; have c17b0 : decide (x51_3 < (l0_2.length : Int)) = false := decide_eq_false c17; clear c17; obtain rfl := Option.some.inj H
           go_wp2
           go_ret
           exact ⟨er, by exact HB.out⟩
       ·
        rw [if_neg c15] at H; have c15b0 : (t118 == 0) = false := beq_eq_false_iff_ne.mpr c15; have c15b1 : (t118 != 0) = true := bne_iff_ne.mpr c15; obtain rfl := Option.some.inj H; obtain ⟨hcz28_0, hcz28_1, hcz28_2, hfz28_0, hfz28_1, hfz28_2⟩ := blkC3 BK115.out
        go_wp2_with (first | ((with_reducible refine gate_callee (f := 51) rfl ?_); refine goesL_ (some 42) rfl rfl Try.func51 (by kernel_rfl) rfl #[.slice A0_1 l0_1.length c0_1] rfl ax ?_; (with_reducible refine (trustquorumref01_Of.calls k2 _ _ l0_1 t117 t118 _ ?side1 ?side2 A14.out).mono ?_); (case side1 => exact (Kd.C_below HR0_1.out HB.out)); (case side2 => exact HC0_1.out); rintro e w' ⟨rfl, ⟨nd, rfl⟩⟩; refine ⟨_, rfl, ?_⟩))
        go_ret
        exact ⟨er, by repeat (first | (with_reducible first | exact HB.out | apply below_alloc | apply pw_below_drewN | apply below_drew1 | refine below_set ?_ GE115.out) | exact HB.out)⟩
/-! ### trustquorumref02_Valid: function 24 -/
def trustquorumref02_Valid.f (k : Nat) (a0_0 : Int) (l0_1 : List Int) (l0_2 : List (S27)) : Option (Int) := (trustquorumref02_Depth.f k a0_0 l0_1 l0_2).bind fun t123 => (if t123 > 4 then (some 3) else ((trustquorumref02_Size.f k a0_0 l0_1 l0_2).bind fun t124 => (if t124 > 200 then (some 3) else ((trustquorumref02_check.f k a0_0 l0_1 l0_2).bind fun t125 => (some t125)))))
theorem trustquorumref02_Valid.mono : ∀ a0 a1 a2 k, LeO (trustquorumref02_Valid.f k a0 a1 a2) (trustquorumref02_Valid.f (k + 1) a0 a1 a2) := by
  intro a0 a1 a2 k
  unfold trustquorumref02_Valid.f
  repeat' first
      | (with_reducible exact trustquorumref02_Depth.mono _ _ _ _)
      | (with_reducible exact trustquorumref02_Size.mono _ _ _ _)
      | (with_reducible exact trustquorumref02_check.mono _ _ _ _)
      | (with_reducible exact LeO.refl _)
      | (with_reducible exact LeO.none _)
      | (with_reducible refine LeO.ite ?_ ?_)
      | (with_reducible refine LeO.bind ?_ (fun _ => ?_))
      | exact trustquorumref02_Depth.mono _ _ _ _
      | exact trustquorumref02_Size.mono _ _ _ _
      | exact trustquorumref02_check.mono _ _ _ _
      | exact LeO.none _
      | refine LeO.ite ?_ ?_
      | refine LeO.bind ?_ (fun _ => ?_)
set_option maxHeartbeats 8000000 in
set_option maxRecDepth 100000 in
theorem trustquorumref02_Valid.calls (k : Nat) (a0_0 : Int) (A0_1 : Option Addr) (c0_1 : Nat) (l0_1 : List Int) (A0_2 : Option Addr) (c0_2 : Nat) (l0_2 : List (S27)) (r : Int) (w : World) (hr0_1 : Kd.C (Kd.int .i64) w A0_1 l0_1.length l0_1) (hc0_1 : l0_1.length ≤ c0_1) (hr0_2 : Kd.C k27 w A0_2 l0_2.length l0_2) (hc0_2 : l0_2.length ≤ c0_2) (h : trustquorumref02_Valid.f k a0_0 l0_1 l0_2 = some r) :
    Calls Try.prog 24 #[.agg #[.int .i64 a0_0, .slice A0_1 l0_1.length c0_1, .slice A0_2 l0_2.length c0_2]] w fun e w' => e = .returned (.int .i64 r) ∧ Below w.heap.size w w' := by
 have hu27 := Try.underlying27; have HR0_1 := am hr0_1; have HC0_1 := am hc0_1; clear hr0_1 hc0_1; have HR0_2 := am hr0_2; have HC0_2 := am hc0_2; clear hr0_2 hc0_2; have HB := am (Below.refl w.heap.size w); have H : ((trustquorumref02_Depth.f k a0_0 l0_1 l0_2).bind fun t123 => (if t123 > 4 then (some 3) else ((trustquorumref02_Size.f k a0_0 l0_1 l0_2).bind fun t124 => (if t124 > 200 then (some 3) else ((trustquorumref02_check.f k a0_0 l0_1 l0_2).bind fun t125 => (some t125)))))) = some r := h; clear h; replace H := Option.bind_eq_some_iff.mp H; obtain ⟨t123, A20, H⟩ := H; replace H : (if t123 > 4 then (some 3) else ((trustquorumref02_Size.f k a0_0 l0_1 l0_2).bind fun t124 => (if t124 > 200 then (some 3) else ((trustquorumref02_check.f k a0_0 l0_1 l0_2).bind fun t125 => (some t125))))) = some r := H; have A2 := am A20; clear A20
 by_cases c3 : t123 > 4
 ·
  rw [if_pos c3] at H; have c3b0 : decide (4 < t123) = true := decide_eq_true c3; clear c3; obtain rfl := Option.some.inj H
  go_enter Try.func24, Try.ntmps24
  go_wp2_with (first | ((with_reducible refine gate_dst (N := 1) rfl ?_); refine box_event ?hg (N := 1) ?hd (cs := #[.int .i64 a0_0, .slice A0_1 l0_1.length c0_1, .slice A0_2 l0_2.length c0_2]) (t := 27) ?hr ?_; (case hd => rfl); (case hg => rfl); (case hr => first | (go_simp; done) | (go_simp; rfl)); intro gb122 hg w4 hbox hb; have BK122 := am (hbox); have GW122 := am ((by rw [hg]; exact (below_size HB.out) : w.heap.size ≤ gb122)); have GE122 := am ((by rw [hg]; exact (below_size HB.out) : w.heap.size ≤ gb122)); replace HB := bs HB hb; clear hb hbox hg; obtain ⟨hcz5_0, hcz5_1, hcz5_2, hfz5_0, hfz5_1, hfz5_2⟩ := blkC3 BK122.out) | ((with_reducible refine gate_callee (f := 26) rfl ?_); refine goesL_ (some 4) rfl rfl Try.func26 (by kernel_rfl) rfl #[.agg #[.int .i64 a0_0, .slice A0_1 l0_1.length c0_1, .slice A0_2 l0_2.length c0_2]] rfl ax ?_; (with_reducible refine (trustquorumref02_Depth.calls k a0_0 _ _ l0_1 _ _ l0_2 t123 _ ?side1 ?side2 ?side3 ?side4 A2.out).mono ?_); (case side1 => exact (Kd.C_below HR0_1.out HB.out)); (case side2 => exact HC0_1.out); (case side3 => exact (Kd.C_below HR0_2.out HB.out)); (case side4 => exact HC0_2.out); rintro e w6 ⟨rfl, hb⟩; refine ⟨_, rfl, ?_⟩; replace BK122 := bb BK122 hb; replace HB := bs HB hb; (try clear hb); (try clear hb2); (try clear hk); (try clear hi)))
  go_ret
  exact ⟨er, by exact HB.out⟩
 ·
  rw [if_neg c3] at H; have c3b0 : decide (4 < t123) = false := decide_eq_false c3; clear c3; replace H := Option.bind_eq_some_iff.mp H; obtain ⟨t124, A70, H⟩ := H; replace H : (if t124 > 200 then (some 3) else ((trustquorumref02_check.f k a0_0 l0_1 l0_2).bind fun t125 => (some t125))) = some r := H; have A7 := am A70; clear A70
  by_cases c8 : t124 > 200
  ·
   rw [if_pos c8] at H; have c8b0 : decide (200 < t124) = true := decide_eq_true c8; clear c8; obtain rfl := Option.some.inj H
   go_enter Try.func24, Try.ntmps24
   go_wp2_with (first | ((with_reducible refine gate_dst (N := 1) rfl ?_); refine box_event ?hg (N := 1) ?hd (cs := #[.int .i64 a0_0, .slice A0_1 l0_1.length c0_1, .slice A0_2 l0_2.length c0_2]) (t := 27) ?hr ?_; (case hd => rfl); (case hg => rfl); (case hr => first | (go_simp; done) | (go_simp; rfl)); intro gb122 hg w9 hbox hb; have BK122 := am (hbox); have GW122 := am ((by rw [hg]; exact (below_size HB.out) : w.heap.size ≤ gb122)); have GE122 := am ((by rw [hg]; exact (below_size HB.out) : w.heap.size ≤ gb122)); replace HB := bs HB hb; clear hb hbox hg; obtain ⟨hcz10_0, hcz10_1, hcz10_2, hfz10_0, hfz10_1, hfz10_2⟩ := blkC3 BK122.out) | ((with_reducible refine gate_callee (f := 26) rfl ?_); refine goesL_ (some 4) rfl rfl Try.func26 (by kernel_rfl) rfl #[.agg #[.int .i64 a0_0, .slice A0_1 l0_1.length c0_1, .slice A0_2 l0_2.length c0_2]] rfl ax ?_; (with_reducible refine (trustquorumref02_Depth.calls k a0_0 _ _ l0_1 _ _ l0_2 t123 _ ?side1 ?side2 ?side3 ?side4 A2.out).mono ?_); (case side1 => exact (Kd.C_below HR0_1.out HB.out)); (case side2 => exact HC0_1.out); (case side3 => exact (Kd.C_below HR0_2.out HB.out)); (case side4 => exact HC0_2.out); rintro e w11 ⟨rfl, hb⟩; refine ⟨_, rfl, ?_⟩; replace BK122 := bb BK122 hb; replace HB := bs HB hb; (try clear hb); (try clear hb2); (try clear hk); (try clear hi); obtain ⟨hcz12_0, hcz12_1, hcz12_2, hfz12_0, hfz12_1, hfz12_2⟩ := blkC3 BK122.out) | (go_at_call 25; (with_reducible refine (trustquorumref02_Size.calls k a0_0 _ _ l0_1 _ _ l0_2 t124 _ ?side1 ?side2 ?side3 ?side4 A7.out).mono ?_); (case side1 => exact (Kd.C_below HR0_1.out HB.out)); (case side2 => exact HC0_1.out); (case side3 => exact (Kd.C_below HR0_2.out HB.out)); (case side4 => exact HC0_2.out); rintro e w13 ⟨rfl, hb⟩; replace BK122 := bb BK122 hb; replace HB := bs HB hb; (try clear hb); (try clear hb2); (try clear hk); (try clear hi)))
   go_ret
   exact ⟨er, by exact HB.out⟩
  ·
   rw [if_neg c8] at H; have c8b0 : decide (200 < t124) = false := decide_eq_false c8; clear c8; replace H := Option.bind_eq_some_iff.mp H; obtain ⟨t125, A140, H⟩ := H; replace H : (some t125) = some r := H; have A14 := am A140; clear A140; obtain rfl := Option.some.inj H
   go_enter Try.func24, Try.ntmps24
   go_wp2_with (first | ((with_reducible refine gate_dst (N := 1) rfl ?_); refine box_event ?hg (N := 1) ?hd (cs := #[.int .i64 a0_0, .slice A0_1 l0_1.length c0_1, .slice A0_2 l0_2.length c0_2]) (t := 27) ?hr ?_; (case hd => rfl); (case hg => rfl); (case hr => first | (go_simp; done) | (go_simp; rfl)); intro gb122 hg w15 hbox hb; have BK122 := am (hbox); have GW122 := am ((by rw [hg]; exact (below_size HB.out) : w.heap.size ≤ gb122)); have GE122 := am ((by rw [hg]; exact (below_size HB.out) : w.heap.size ≤ gb122)); replace HB := bs HB hb; clear hb hbox hg; obtain ⟨hcz16_0, hcz16_1, hcz16_2, hfz16_0, hfz16_1, hfz16_2⟩ := blkC3 BK122.out) | ((with_reducible refine gate_callee (f := 26) rfl ?_); refine goesL_ (some 4) rfl rfl Try.func26 (by kernel_rfl) rfl #[.agg #[.int .i64 a0_0, .slice A0_1 l0_1.length c0_1, .slice A0_2 l0_2.length c0_2]] rfl ax ?_; (with_reducible refine (trustquorumref02_Depth.calls k a0_0 _ _ l0_1 _ _ l0_2 t123 _ ?side1 ?side2 ?side3 ?side4 A2.out).mono ?_); (case side1 => exact (Kd.C_below HR0_1.out HB.out)); (case side2 => exact HC0_1.out); (case side3 => exact (Kd.C_below HR0_2.out HB.out)); (case side4 => exact HC0_2.out); rintro e w17 ⟨rfl, hb⟩; refine ⟨_, rfl, ?_⟩; replace BK122 := bb BK122 hb; replace HB := bs HB hb; (try clear hb); (try clear hb2); (try clear hk); (try clear hi); obtain ⟨hcz18_0, hcz18_1, hcz18_2, hfz18_0, hfz18_1, hfz18_2⟩ := blkC3 BK122.out) | (go_at_call 25; (with_reducible refine (trustquorumref02_Size.calls k a0_0 _ _ l0_1 _ _ l0_2 t124 _ ?side1 ?side2 ?side3 ?side4 A7.out).mono ?_); (case side1 => exact (Kd.C_below HR0_1.out HB.out)); (case side2 => exact HC0_1.out); (case side3 => exact (Kd.C_below HR0_2.out HB.out)); (case side4 => exact HC0_2.out); rintro e w19 ⟨rfl, hb⟩; replace BK122 := bb BK122 hb; replace HB := bs HB hb; (try clear hb); (try clear hb2); (try clear hk); (try clear hi); obtain ⟨hcz20_0, hcz20_1, hcz20_2, hfz20_0, hfz20_1, hfz20_2⟩ := blkC3 BK122.out) | ((with_reducible refine gate_callee (f := 43) rfl ?_); refine goesL_ (some 12) rfl rfl Try.func43 (by kernel_rfl) rfl #[.agg #[.int .i64 a0_0, .slice A0_1 l0_1.length c0_1, .slice A0_2 l0_2.length c0_2]] rfl ax ?_; (with_reducible refine (trustquorumref02_check.calls k a0_0 _ _ l0_1 _ _ l0_2 t125 _ ?side1 ?side2 ?side3 ?side4 A14.out).mono ?_); (case side1 => exact (Kd.C_below HR0_1.out HB.out)); (case side2 => exact HC0_1.out); (case side3 => exact (Kd.C_below HR0_2.out HB.out)); (case side4 => exact HC0_2.out); rintro e w21 ⟨rfl, hb⟩; refine ⟨_, rfl, ?_⟩; replace BK122 := bb BK122 hb; replace HB := bs HB hb; (try clear hb); (try clear hb2); (try clear hk); (try clear hi)))
   go_ret
   exact ⟨er, by exact HB.out⟩
/-! ### trustquorummake_Tape_Range: function 10 -/
def trustquorummake_Tape_Range.f (s0_0 : List Int) (s0_1 : Int) (a1 : Int) (a2 : Int) : Option (Int × Int) := (trustquorummake_Tape_N.f s0_0 s0_1 (wrap64 ((wrap64 (a2 - a1)) + 1))).bind fun bt126 => (some (wrap64 (a1 + bt126.1), bt126.2))
set_option maxHeartbeats 8000000 in
set_option maxRecDepth 100000 in
theorem trustquorummake_Tape_Range.calls (g : Nat) (s0_0 : List Int) (s0_1 : Int) (a1 : Int) (a2 : Int) (r1 : Int) (r2 : Int) (w0 w : World) (hI : IsS43 w0 w g s0_0 s0_1) (hB : Below w0.heap.size w0 w) (h : trustquorummake_Tape_Range.f s0_0 s0_1 a1 a2 = some (r1, r2)) :
    Calls Try.prog 10 #[.pointer (some ⟨g, 0, none⟩), .int .i64 a1, .int .i64 a2] w fun e w' => e = .returned (.int .i64 r1) ∧ IsS43 w0 w' g s0_0 r2 ∧ Below w0.heap.size w0 w' ∧ KeepBut w w' g none := by
 have HI0 := am hI; have HK := am (KeepBut.refl w g none); have HL := am hB.size; clear hI; have HW0 := am hB.size; have HB := am hB; clear hB; have H : ((trustquorummake_Tape_N.f s0_0 s0_1 (wrap64 ((wrap64 (a2 - a1)) + 1))).bind fun bt126 => (some (wrap64 (a1 + bt126.1), bt126.2))) = some (r1, r2) := h; clear h; replace H := Option.bind_eq_some_iff.mp H; obtain ⟨⟨t126, t127⟩, A40, H⟩ := H; replace H : (some (wrap64 (a1 + t126), t127)) = some (r1, r2) := H; have A4 := am A40; clear A40; simp only [Option.some.injEq, Prod.mk.injEq] at H; obtain ⟨rfl, rfl⟩ := H
 go_enter Try.func10, Try.ntmps10
 go_wp2_with (first | ((with_reducible refine gate_callee (f := 13) rfl ?_); refine goesL_ (some 13) rfl rfl Try.func13 (by kernel_rfl) rfl #[.pointer (some ⟨g, 0, none⟩), .int .i64 (wrap64 ((wrap64 (a2 - a1)) + 1))] rfl ax ?_; (with_reducible refine (trustquorummake_Tape_N.calls g s0_0 s0_1 (wrap64 ((wrap64 (a2 - a1)) + 1)) t126 t127 w0 _ ?side1 ?side2 A4.out).mono ?_); (case side1 => exact HI0.out); (case side2 => exact HB.out); rintro e w5 ⟨rfl, hi, hb, hk⟩; refine ⟨_, rfl, ?_⟩; replace HK := am (KeepBut.trans HK.out hk (.inl rfl)); replace HB := am (hb); replace HI0 := am (hi); (try clear hb); (try clear hb2); (try clear hk); (try clear hi)))
 go_ret
 exact ⟨er, by exact HI0.out, by exact HB.out, by exact HK.out⟩
end Go.Proofs.Yteljoemeogeidaa.QThresholdAnswers
