/- Lean functions that answer as the Go functions do which the law reaches, and proofs that the Go code comes to exactly these answers. Conditions: those that each theorem names. -/
import Derived.Test.YteljoemeogeidaaQThresholdAnswersx0
namespace Go.Proofs.Yteljoemeogeidaa.QThresholdAnswers
open Go.RowKit Go.Proofs.YteljoemeogeidaaW.PrintWords Go.Proofs.YteljoemeogeidaaW.PrintLast Go.Proofs.YteljoemeogeidaaW.PrintMore
attribute [local go_sem] max2_int min2_int max_two min_two max_three min_three max_four min_four   -- for this text's walks alone
set_option linter.unusedVariables false
set_option linter.unusedSimpArgs false

/-! ### trustquorumref02_Uses: function 27 -/
mutual
def trustquorumref02_Uses.l0 : Nat → Int → List Int → Int → Int → Int → List Int → List (S27) → Option (Int)
  | 0, _, _, _, _, _, _, _ => none
  | k + 1, x3, x9, x10, x11, x370000, x370001, x370002 => if x11 < x10 then (if 0 ≤ x11 then (if x11 < (x9.length : Int) then (if (rd x9 x11) ≥ 0 then (if (rd x9 x11) < 10 then (if 0 ≤ (rd x9 x11) then (trustquorumref02_Uses.l0 k (Go.bits .or .i64 x3 (shl .i64 1 (rd x9 x11))) x9 x10 (wrap64 (x11 + 1)) x370000 x370001 x370002) else (none)) else (trustquorumref02_Uses.l0 k x3 x9 x10 (wrap64 (x11 + 1)) x370000 x370001 x370002)) else (trustquorumref02_Uses.l0 k x3 x9 x10 (wrap64 (x11 + 1)) x370000 x370001 x370002)) else (none)) else (none)) else (trustquorumref02_Uses.l1 k x3 x370002 (x370002.length : Int) 0)
def trustquorumref02_Uses.l1 : Nat → Int → List (S27) → Int → Int → Option (Int)
  | 0, _, _, _, _ => none
  | k + 1, x3, x27, x28, x29 => if x29 < x28 then (if 0 ≤ x29 then (if x29 < (x27.length : Int) then ((trustquorumref02_Uses.f k ((rd_T27 x27 x29).f0) ((rd_T27 x27 x29).f1) ((rd_T27 x27 x29).f2)).bind fun t373 => (trustquorumref02_Uses.l1 k (Go.bits .or .i64 x3 t373) x27 x28 (wrap64 (x29 + 1)))) else (none)) else (none)) else (some x3)
def trustquorumref02_Uses.f : Nat → Int → List Int → List (S27) → Option (Int)
  | 0, _, _, _ => none
  | k + 1, a0_0, l0_1, l0_2 => trustquorumref02_Uses.l0 k 0 l0_1 (l0_1.length : Int) 0 a0_0 l0_1 l0_2
end
theorem trustquorumref02_Uses.mono_l : ∀ k, (∀ y0 y1 y2, LeO (trustquorumref02_Uses.f k y0 y1 y2) (trustquorumref02_Uses.f (k + 1) y0 y1 y2)) ∧ (∀ y0 y1 y2 y3 y4 y5 y6, LeO (trustquorumref02_Uses.l0 k y0 y1 y2 y3 y4 y5 y6) (trustquorumref02_Uses.l0 (k + 1) y0 y1 y2 y3 y4 y5 y6)) ∧ (∀ y0 y1 y2 y3, LeO (trustquorumref02_Uses.l1 k y0 y1 y2 y3) (trustquorumref02_Uses.l1 (k + 1) y0 y1 y2 y3))
  | 0 => ⟨fun _ _ _ r h => by simp [trustquorumref02_Uses.f] at h, fun _ _ _ _ _ _ _ r h => by simp [trustquorumref02_Uses.l0] at h, fun _ _ _ _ r h => by simp [trustquorumref02_Uses.l1] at h⟩
  | k + 1 => by
    obtain ⟨ih0, ih1, ih2⟩ := trustquorumref02_Uses.mono_l k
    refine ⟨?_, ?_, ?_⟩
    · intro y0 y1 y2
      unfold trustquorumref02_Uses.f
      repeat' first
      | (with_reducible exact ih0 _ _ _)
      | (with_reducible exact ih1 _ _ _ _ _ _ _)
      | (with_reducible exact ih2 _ _ _ _)
      | (with_reducible exact LeO.refl _)
      | (with_reducible exact LeO.none _)
      | (with_reducible refine LeO.ite ?_ ?_)
      | (with_reducible refine LeO.bind ?_ (fun _ => ?_))
      | exact ih0 _ _ _
      | exact ih1 _ _ _ _ _ _ _
      | exact ih2 _ _ _ _
      | exact LeO.none _
      | refine LeO.ite ?_ ?_
      | refine LeO.bind ?_ (fun _ => ?_)
    · intro y0 y1 y2 y3 y4 y5 y6
      unfold trustquorumref02_Uses.l0
      repeat' first
      | (with_reducible exact ih0 _ _ _)
      | (with_reducible exact ih1 _ _ _ _ _ _ _)
      | (with_reducible exact ih2 _ _ _ _)
      | (with_reducible exact LeO.refl _)
      | (with_reducible exact LeO.none _)
      | (with_reducible refine LeO.ite ?_ ?_)
      | (with_reducible refine LeO.bind ?_ (fun _ => ?_))
      | exact ih0 _ _ _
      | exact ih1 _ _ _ _ _ _ _
      | exact ih2 _ _ _ _
      | exact LeO.none _
      | refine LeO.ite ?_ ?_
      | refine LeO.bind ?_ (fun _ => ?_)
    · intro y0 y1 y2 y3
      unfold trustquorumref02_Uses.l1
      repeat' first
      | (with_reducible exact ih0 _ _ _)
      | (with_reducible exact ih1 _ _ _ _ _ _ _)
      | (with_reducible exact ih2 _ _ _ _)
      | (with_reducible exact LeO.refl _)
      | (with_reducible exact LeO.none _)
      | (with_reducible refine LeO.ite ?_ ?_)
      | (with_reducible refine LeO.bind ?_ (fun _ => ?_))
      | exact ih0 _ _ _
      | exact ih1 _ _ _ _ _ _ _
      | exact ih2 _ _ _ _
      | exact LeO.none _
      | refine LeO.ite ?_ ?_
      | refine LeO.bind ?_ (fun _ => ?_)
theorem trustquorumref02_Uses.mono : ∀ a0 a1 a2 k, LeO (trustquorumref02_Uses.f k a0 a1 a2) (trustquorumref02_Uses.f (k + 1) a0 a1 a2) := by
  intro a0 a1 a2 k
  obtain ⟨ih0, ih1, ih2⟩ := trustquorumref02_Uses.mono_l k
  exact ih0 a0 a1 a2
set_option maxHeartbeats 8000000 in
set_option maxRecDepth 100000 in
theorem trustquorumref02_Uses.calls (k : Nat) : ∀ (a0_0 : Int) (A0_1 : Option Addr) (c0_1 : Nat) (l0_1 : List Int) (A0_2 : Option Addr) (c0_2 : Nat) (l0_2 : List (S27)) (r : Int) (w : World) (hr0_1 : Kd.C (Kd.int .i64) w A0_1 l0_1.length l0_1) (hc0_1 : l0_1.length ≤ c0_1) (hr0_2 : Kd.C k27 w A0_2 l0_2.length l0_2) (hc0_2 : l0_2.length ≤ c0_2) (h : trustquorumref02_Uses.f k a0_0 l0_1 l0_2 = some r),
    Calls Try.prog 27 #[.agg #[.int .i64 a0_0, .slice A0_1 l0_1.length c0_1, .slice A0_2 l0_2.length c0_2]] w fun e w' => e = .returned (.int .i64 r) ∧ Below w.heap.size w w' := by
 induction k using Nat.strongRecOn with
 | _ k ih =>
 intro a0_0 A0_1 c0_1 l0_1 A0_2 c0_2 l0_2 r w hr0_1 hc0_1 hr0_2 hc0_2 h
 cases k with
 | zero => exact absurd h (by simp [trustquorumref02_Uses.f])
 | succ k =>
 simp only [trustquorumref02_Uses.f] at h; have hu27 := Try.underlying27; have HR0_1 := am hr0_1; have HC0_1 := am hc0_1; clear hr0_1 hc0_1; have HR0_2 := am hr0_2; have HC0_2 := am hc0_2; clear hr0_2 hc0_2; have HB := am (Below.refl w.heap.size w); have H : (trustquorumref02_Uses.l0 k 0 l0_1 (l0_1.length : Int) 0 a0_0 l0_1 l0_2) = some r := h; clear h; have H' := am H; clear H
 go_enter Try.func27, Try.ntmps27
 go_wp2_with (first | ((with_reducible refine gate_dst (N := 1) rfl ?_); refine box_event ?hg (N := 1) ?hd (cs := #[.int .i64 a0_0, .slice A0_1 l0_1.length c0_1, .slice A0_2 l0_2.length c0_2]) (t := 27) ?hr ?_; (case hd => rfl); (case hg => rfl); (case hr => first | (go_simp; done) | (go_simp; rfl)); intro gb369 hg w2 hbox hb; have BK369 := am (hbox); have GW369 := am ((by rw [hg]; exact (below_size HB.out) : w.heap.size ≤ gb369)); have GE369 := am ((by rw [hg]; exact (below_size HB.out) : w.heap.size ≤ gb369)); replace HB := bs HB hb; clear hb hbox hg; obtain ⟨hcz3_0, hcz3_1, hcz3_2, hfz3_0, hfz3_1, hfz3_2⟩ := blkC3 BK369.out))
 go_loopg [3, 11] k (fun kq v3 v11 w' => ∃ (x3_1 : Int) (x11_1 : Int), v3 = .int .i64 x3_1 ∧ v11 = .int .i64 x11_1 ∧ Aside0 (trustquorumref02_Uses.l0 kq x3_1 l0_1 (l0_1.length : Int) x11_1 a0_0 l0_1 l0_2 = some r) ∧ Aside0 (kq ≤ k) ∧ Aside0 (w'.heap[gb369]? = some (.cells #[.int .i64 a0_0, (.slice A0_1 l0_1.length c0_1), (.slice A0_2 l0_2.length c0_2)] 27 (0, 0))) ∧ Aside0 (Below w.heap.size w w'))
 case atStart => exact ⟨(0), (0), ar, ar, H', ⟨Nat.le_refl _⟩, ⟨by exact BK369.out⟩, ⟨by exact HB.out⟩⟩
 case round =>
  clear H'; (try clear c2); (try clear p2); (try clear hcz3_0 hcz3_1 hcz3_2 hfz3_0 hfz3_1 hfz3_2); obtain ⟨x3_1, x11_1, rfl, rfl, HA, HK1, BK369, HB⟩ := hrel
  cases gk with
  | zero => exact absurd HA.out (by simp [trustquorumref02_Uses.l0])
  | succ k1 =>
   have H := HA.out; clear HA; simp only [trustquorumref02_Uses.l0] at H
   by_cases c4 : x11_1 < (l0_1.length : Int)
   ·
    rw [if_pos c4] at H; have c4b0 : decide (x11_1 < (l0_1.length : Int)) = true := decide_eq_true c4; clear c4
    by_cases c5 : 0 ≤ x11_1
    ·
     rw [if_pos c5] at H; have c5b0 : decide (0 ≤ x11_1) = true := decide_eq_true c5; clear c5
     by_cases c6 : x11_1 < (l0_1.length : Int)
     ·
      rw [if_pos c6] at H; have c6b0 : decide (x11_1 < (l0_1.length : Int)) = true := decide_eq_true c6; clear c6
      by_cases c7 : (rd l0_1 x11_1) ≥ 0
      ·
       rw [if_pos c7] at H; have c7b0 : decide (0 ≤ (rd l0_1 x11_1)) = true := decide_eq_true c7; clear c7
       by_cases c8 : (rd l0_1 x11_1) < 10
       ·
        rw [if_pos c8] at H; have c8b0 : decide ((rd l0_1 x11_1) < 10) = true := decide_eq_true c8; clear c8
        by_cases c9 : 0 ≤ (rd l0_1 x11_1)
        ·
         rw [if_pos c9] at H; have c9b0 := eq_true c9; have c9b1 : decide (0 ≤ (rd l0_1 x11_1)) = true := decide_eq_true c9; clear c9; obtain ⟨ji10, hji10⟩ : ∃ j_ : Int, (shl .i64 1 (rd l0_1 x11_1)) = j_ := ⟨_, rfl⟩; replace H : (trustquorumref02_Uses.l0 k1 (Go.bits .or .i64 x3_1 (ji10)) l0_1 (l0_1.length : Int) (wrap64 (x11_1 + 1)) a0_0 l0_1 l0_2) = some r := by first | (rw [hji10] at H; exact H) | (simp only [hji10] at H ⊢; exact H)
         have hji10_ : (IntKind.i64.wrap (1 * 2 ^ min (rd l0_1 x11_1).toNat 64)) = ji10 := hji10; have hji10z : (rd l0_1 x11_1) ≤ 64 → (IntKind.i64.wrap (1 * 2 ^ (rd l0_1 x11_1).toNat)) = ji10 := shl_small hji10; have hji10u : (IntKind.i64.wrap (2 ^ min (rd l0_1 x11_1).toNat 64)) = ji10 := by have h_ := hji10_; rw [Int.one_mul] at h_; exact h_
         have hji10v : (rd l0_1 x11_1) ≤ 64 → (IntKind.i64.wrap (2 ^ (rd l0_1 x11_1).toNat)) = ji10 := fun hle_ => by have h_ := hji10z hle_; rw [Int.one_mul] at h_; exact h_
         have hji10y : (wrap64 (1 * 2 ^ min (rd l0_1 x11_1).toNat 64)) = ji10 := (i64_w _).symm.trans hji10_; have hji10x : (rd l0_1 x11_1) ≤ 64 → (wrap64 (1 * 2 ^ (rd l0_1 x11_1).toNat)) = ji10 := fun h_ => (i64_w _).symm.trans (hji10z h_); have H' := am H; clear H; have p370 : 0 ≤ (x11_1 : Int) := od; have q370 : x11_1 < (l0_1.length : Int) := od; obtain ⟨ad370, e370, hx370_0⟩ := Kd.at_int HR0_1.out x11_1 p370 q370
         cases e370
         replace hx370_0 := (HB.out.cell (World.block_lt_of_cell? w _ hx370_0)).trans hx370_0; replace p370 := eq_true p370; replace q370 := eq_true q370
         go_wp2
         go_roundg k1
         case measure => have := HK1.out; omega
         case rel => exact ⟨(Go.bits .or .i64 x3_1 (ji10)), (wrap64 (x11_1 + 1)), (by first | rfl | (simp; done) | (simp only [← hji10] <;> (first | rfl | simp)) | (simp [*]; done)), ar, H', ⟨by have := HK1.out; omega⟩, ⟨by exact BK369.out⟩, ⟨by exact HB.out⟩⟩
        ·
         rw [if_neg c9] at H; exact absurd H (by simp)
       ·
        rw [if_neg c8] at H; have c8b0 : decide ((rd l0_1 x11_1) < 10) = false := decide_eq_false c8; clear c8; have H' := am H; clear H; have p370 : 0 ≤ (x11_1 : Int) := od; have q370 : x11_1 < (l0_1.length : Int) := od; obtain ⟨ad370, e370, hx370_0⟩ := Kd.at_int HR0_1.out x11_1 p370 q370
        cases e370
        replace hx370_0 := (HB.out.cell (World.block_lt_of_cell? w _ hx370_0)).trans hx370_0; replace p370 := eq_true p370; replace q370 := eq_true q370
        go_wp2
        go_roundg k1
        case measure => have := HK1.out; omega
        case rel => exact ⟨(x3_1), (wrap64 (x11_1 + 1)), ar, ar, H', ⟨by have := HK1.out; omega⟩, ⟨by exact BK369.out⟩, ⟨by exact HB.out⟩⟩
      ·
       rw [if_neg c7] at H; have c7b0 : decide (0 ≤ (rd l0_1 x11_1)) = false := decide_eq_false c7; clear c7; have H' := am H; clear H; have p370 : 0 ≤ (x11_1 : Int) := od; have q370 : x11_1 < (l0_1.length : Int) := od; obtain ⟨ad370, e370, hx370_0⟩ := Kd.at_int HR0_1.out x11_1 p370 q370
       cases e370
       replace hx370_0 := (HB.out.cell (World.block_lt_of_cell? w _ hx370_0)).trans hx370_0; replace p370 := eq_true p370; replace q370 := eq_true q370
       go_wp2
       go_roundg k1
       case measure => have := HK1.out; omega
       case rel => exact ⟨(x3_1), (wrap64 (x11_1 + 1)), ar, ar, H', ⟨by have := HK1.out; omega⟩, ⟨by exact BK369.out⟩, ⟨by exact HB.out⟩⟩
     ·
      rw [if_neg c6] at H; exact absurd H (by simp)
    ·
     rw [if_neg c5] at H; exact absurd H (by simp)
   ·
    rw [if_neg c4] at H; have c4b0 : decide (x11_1 < (l0_1.length : Int)) = false := decide_eq_false c4; clear c4; have H' := am H; clear H; obtain ⟨hcz11_0, hcz11_1, hcz11_2, hfz11_0, hfz11_1, hfz11_2⟩ := blkC3 BK369.out
    go_wp2
    go_loopg [3, 29] k1 (fun kq v3 v29 w' => ∃ (x3_2 : Int) (x29_2 : Int), v3 = .int .i64 x3_2 ∧ v29 = .int .i64 x29_2 ∧ Aside0 (trustquorumref02_Uses.l1 kq x3_2 l0_2 (l0_2.length : Int) x29_2 = some r) ∧ Aside0 (kq ≤ k1) ∧ Aside0 (Below w.heap.size w w'))
    case atStart => exact ⟨(x3_1), (0), ar, ar, H', ⟨Nat.le_refl _⟩, ⟨by exact HB.out⟩⟩
    case round =>
     clear H'; (try clear c2); (try clear p2); (try clear p3); (try clear q3); (try clear hx3); (try clear c4); (try clear c4b0); (try clear c5); (try clear c5b0); (try clear c6); (try clear c6b0); (try clear p6); (try clear c7); (try clear c7b0); (try clear c8); (try clear c8b0); (try clear c9); (try clear c9b0); (try clear c9b1); (try clear hcz11_0 hcz11_1 hcz11_2); (try clear hcz3_0 hcz3_1 hcz3_2); (try clear hfz11_0 hfz11_1 hfz11_2); (try clear hfz3_0 hfz3_1 hfz3_2); (try clear hx370_0); (try clear p2); (try clear p370); (try clear q370); obtain ⟨x3_2, x29_2, rfl, rfl, HA, HK2, HB⟩ := hrel
     cases gk with
     | zero => exact absurd HA.out (by simp [trustquorumref02_Uses.l1])
     | succ k2 =>
      have H := HA.out; clear HA; simp only [trustquorumref02_Uses.l1] at H
      by_cases c12 : x29_2 < (l0_2.length : Int)
      ·
       rw [if_pos c12] at H; have c12b0 : decide (x29_2 < (l0_2.length : Int)) = true := decide_eq_true c12; clear c12
       by_cases c13 : 0 ≤ x29_2
       ·
        rw [if_pos c13] at H; have c13b0 : decide (0 ≤ x29_2) = true := decide_eq_true c13; clear c13
        by_cases c14 : x29_2 < (l0_2.length : Int)
        ·
         rw [if_pos c14] at H; have c14b0 : decide (x29_2 < (l0_2.length : Int)) = true := decide_eq_true c14; clear c14; replace H := Option.bind_eq_some_iff.mp H; obtain ⟨t373, A150, H⟩ := H; replace H : (trustquorumref02_Uses.l1 k2 (Go.bits .or .i64 x3_2 t373) l0_2 (l0_2.length : Int) (wrap64 (x29_2 + 1))) = some r := H; have A15 := am A150; clear A150; have H' := am H; clear H; have p371 : 0 ≤ (x29_2 : Int) := od; have q371 : x29_2 < (l0_2.length : Int) := od; obtain ⟨ad371, A371_1, c371_1, A371_2, c371_2, e371, hx371_0, hx371_1, hx371_2, hl371_1, hi371_1, hl371_2, hi371_2⟩ := at_T27 HR0_2.out x29_2 p371 q371
         cases e371
         replace hx371_0 := (HB.out.cell (World.block_lt_of_cell? w _ hx371_0)).trans hx371_0; replace hx371_1 := (HB.out.cell (World.block_lt_of_cell? w _ hx371_1)).trans hx371_1; replace hx371_2 := (HB.out.cell (World.block_lt_of_cell? w _ hx371_2)).trans hx371_2; have HR371_1 := am hi371_1; have HC371_1 := am hl371_1; clear hi371_1 hl371_1; have HR371_2 := am hi371_2; have HC371_2 := am hl371_2; clear hi371_2 hl371_2; replace p371 := eq_true p371; replace q371 := eq_true q371
         go_wp2_with (first | ((with_reducible refine gate_dst (N := 7) rfl ?_); refine box_event ?hg (N := 7) ?hd (cs := #[.int .i64 0, .slice none 0 0, .slice none 0 0]) (t := 27) ?hr ?_; (case hd => rfl); (case hg => rfl); (case hr => first | (go_simp; done) | (go_simp; rfl)); intro gb372 hg w16 hbox hb; have BK372 := am (hbox); have GW372 := am ((by rw [hg]; exact (below_size HB.out) : w.heap.size ≤ gb372)); have GE372 := am ((by rw [hg]; exact (below_size HB.out) : w.heap.size ≤ gb372)); replace HB := bs HB hb; clear hb hbox hg; obtain ⟨hcz17_0, hcz17_1, hcz17_2, hfz17_0, hfz17_1, hfz17_2⟩ := blkC3 BK372.out) | ((with_reducible refine gate_callee (f := 27) rfl ?_); refine goesL_ (some 35) rfl rfl Try.func27 (by kernel_rfl) rfl #[.agg #[.int .i64 ((rd_T27 l0_2 x29_2).f0), .slice A371_1 ((rd_T27 l0_2 x29_2).f1).length c371_1, .slice A371_2 ((rd_T27 l0_2 x29_2).f2).length c371_2]] rfl ax ?_; (with_reducible refine (ih k2 (by have := HK1.out; have := HK2.out; omega) ((rd_T27 l0_2 x29_2).f0) _ _ ((rd_T27 l0_2 x29_2).f1) _ _ ((rd_T27 l0_2 x29_2).f2) t373 _ ?side1 ?side2 ?side3 ?side4 A15.out).mono ?_); (case side1 => exact Kd.C_below HR371_1.out (by repeat (first | (with_reducible first | exact HB.out | apply below_alloc | apply pw_below_drewN | apply below_drew1 | refine below_set ?_ GE372.out) | exact HB.out))); (case side2 => exact HC371_1.out); (case side3 => exact Kd.C_below HR371_2.out (by repeat (first | (with_reducible first | exact HB.out | apply below_alloc | apply pw_below_drewN | apply below_drew1 | refine below_set ?_ GE372.out) | exact HB.out))); (case side4 => exact HC371_2.out); rintro e w18 ⟨rfl, hb⟩; refine ⟨_, rfl, ?_⟩; replace BK372 := am (blk_below (g := gb372) (o := .cells #[.int .i64 ((rd_T27 l0_2 x29_2).f0), .slice A371_1 ((rd_T27 l0_2 x29_2).f1).length c371_1, .slice A371_2 ((rd_T27 l0_2 x29_2).f2).length c371_2] 27 (0, 0)) (by (with_reducible repeat first | apply blk_drewN | apply blk_drew | apply blk_alloc); refine blk_put (cs := #[.int .i64 ((rd_T27 l0_2 x29_2).f0), .slice A371_1 ((rd_T27 l0_2 x29_2).f1).length c371_1, .slice none 0 0]) ?_ 2 _ rfl; (with_reducible repeat first | apply blk_drewN | apply blk_drew | apply blk_alloc); refine blk_put (cs := #[.int .i64 ((rd_T27 l0_2 x29_2).f0), .slice none 0 0, .slice none 0 0]) ?_ 1 _ rfl; (with_reducible repeat first | apply blk_drewN | apply blk_drew | apply blk_alloc); refine blk_put (cs := #[.int .i64 0, .slice none 0 0, .slice none 0 0]) ?_ 0 _ rfl; (with_reducible repeat first | apply blk_drewN | apply blk_drew | apply blk_alloc); exact BK372.out) hb); replace HB := am (below_step (by repeat (first | (with_reducible first | exact HB.out | apply below_alloc | apply pw_below_drewN | apply below_drew1 | refine below_set ?_ GE372.out) | exact HB.out)) hb); (try clear hb); (try clear hb2); (try clear hk); (try clear hi)))
         go_roundg k2
         case measure => have := HK1.out; have := HK2.out; omega
         case rel => exact ⟨(Go.bits .or .i64 x3_2 t373), (wrap64 (x29_2 + 1)), ar, ar, H', ⟨by have := HK1.out; have := HK2.out; omega⟩, ⟨by exact HB.out⟩⟩
        ·
         rw [if_neg c14] at H; exact absurd H (by simp)
       ·
        rw [if_neg c13] at H; exact absurd H (by simp)
      ·
       rw [if_neg c12] at H; have c12b0 : decide (x29_2 < (l0_2.length : Int)) = false := decide_eq_false c12; clear c12; obtain rfl := Option.some.inj H
       go_wp2
       go_ret
       exact ⟨er, by exact HB.out⟩
/-! ### trustquorumref01_Same: function 44 -/
def trustquorumref01_Same.l0 : Nat → List Int → List Int → Int → Int → Option (Bool)
  | 0, _, _, _, _ => none
  | k + 1, x0, x1, x12, x13 => if x13 < x12 then (if 0 ≤ x13 then (if x13 < (x0.length : Int) then (if x13 < (x1.length : Int) then (if (rd x0 x13) = (rd x1 x13) then (trustquorumref01_Same.l0 k x0 x1 x12 (wrap64 (x13 + 1))) else (some false)) else (none)) else (none)) else (none)) else (some true)
def trustquorumref01_Same.f (k : Nat) (l0 : List Int) (l1 : List Int) : Option (Bool) := if (l0.length : Int) = (l1.length : Int) then (trustquorumref01_Same.l0 k l0 l1 (l0.length : Int) 0) else (some false)
theorem trustquorumref01_Same.mono_l : ∀ k, (∀ y0 y1 y2 y3, LeO (trustquorumref01_Same.l0 k y0 y1 y2 y3) (trustquorumref01_Same.l0 (k + 1) y0 y1 y2 y3))
  | 0 => fun _ _ _ _ r h => by simp [trustquorumref01_Same.l0] at h
  | k + 1 => by
    have ih0 := trustquorumref01_Same.mono_l k
    · intro y0 y1 y2 y3
      unfold trustquorumref01_Same.l0
      repeat' first
      | (with_reducible exact ih0 _ _ _ _)
      | (with_reducible exact LeO.refl _)
      | (with_reducible exact LeO.none _)
      | (with_reducible refine LeO.ite ?_ ?_)
      | (with_reducible refine LeO.bind ?_ (fun _ => ?_))
      | exact ih0 _ _ _ _
      | exact LeO.none _
      | refine LeO.ite ?_ ?_
      | refine LeO.bind ?_ (fun _ => ?_)
theorem trustquorumref01_Same.mono : ∀ a0 a1 k, LeO (trustquorumref01_Same.f k a0 a1) (trustquorumref01_Same.f (k + 1) a0 a1) := by
  intro a0 a1 k
  have ih0 := trustquorumref01_Same.mono_l k
  unfold trustquorumref01_Same.f
  repeat' first
      | (with_reducible exact ih0 _ _ _ _)
      | (with_reducible exact LeO.refl _)
      | (with_reducible exact LeO.none _)
      | (with_reducible refine LeO.ite ?_ ?_)
      | (with_reducible refine LeO.bind ?_ (fun _ => ?_))
      | exact ih0 _ _ _ _
      | exact LeO.none _
      | refine LeO.ite ?_ ?_
      | refine LeO.bind ?_ (fun _ => ?_)
set_option maxHeartbeats 8000000 in
set_option maxRecDepth 100000 in
theorem trustquorumref01_Same.calls (k : Nat) (A0 : Option Addr) (c0 : Nat) (l0 : List Int) (A1 : Option Addr) (c1 : Nat) (l1 : List Int) (r : Bool) (w : World) (hr0 : Kd.C (Kd.int .i64) w A0 l0.length l0) (hc0 : l0.length ≤ c0) (hr1 : Kd.C (Kd.int .i64) w A1 l1.length l1) (hc1 : l1.length ≤ c1) (h : trustquorumref01_Same.f k l0 l1 = some r) :
    Calls Try.prog 44 #[.slice A0 l0.length c0, .slice A1 l1.length c1] w fun e w' => e = .returned (.bool r) ∧ Drawn0 w w' := by
 have HR0 := am hr0; have HC0 := am hc0; clear hr0 hc0; have HR1 := am hr1; have HC1 := am hc1; clear hr1 hc1; have H : (if (l0.length : Int) = (l1.length : Int) then (trustquorumref01_Same.l0 k l0 l1 (l0.length : Int) 0) else (some false)) = some r := h; clear h
 by_cases c3 : (l0.length : Int) = (l1.length : Int)
 ·
  rw [if_pos c3] at H; have c3b0 : ((l0.length : Int) == (l1.length : Int)) = true := beq_iff_eq.mpr c3; have c3b1 : ((l0.length : Int) != (l1.length : Int)) = false := bne_eq_false_iff_eq.mpr c3; have c3b2 : (l0.length == l1.length) = true := by first | simpa using c3 | (simp at c3 ⊢; omega)
  clear c3; have H' := am H; clear H
  go_enter Try.func44, Try.ntmps44
  go_wp2
  repeat (go_quiet (fail); try go_wp2)
  go_loopg [13] k (fun kq v13 w' => ∃ (x13_1 : Int), v13 = .int .i64 x13_1 ∧ Aside0 (trustquorumref01_Same.l0 kq l0 l1 (l0.length : Int) x13_1 = some r) ∧ Aside0 (kq ≤ k) ∧ Drawn0 w w')
  case atStart => exact ⟨(0), ar, H', ⟨Nat.le_refl _⟩, by repeat (first | exact Drawn0.refl _ | apply Drawn0.step)⟩
  case round =>
   clear H'; (try clear c1); (try clear p2); (try clear c3); (try clear c3b0); (try clear c3b1); (try clear c3b2); obtain ⟨x13_1, rfl, HA, HK1, ⟨m1, rfl⟩⟩ := hrel
   cases gk with
   | zero => exact absurd HA.out (by simp [trustquorumref01_Same.l0])
   | succ k1 =>
    have H := HA.out; clear HA; simp only [trustquorumref01_Same.l0] at H
    by_cases c4 : x13_1 < (l0.length : Int)
    ·
     rw [if_pos c4] at H; have c4b0 : decide (x13_1 < (l0.length : Int)) = true := decide_eq_true c4; clear c4
     by_cases c5 : 0 ≤ x13_1
     ·
      rw [if_pos c5] at H; have c5b0 : decide (0 ≤ x13_1) = true := decide_eq_true c5; clear c5
      by_cases c6 : x13_1 < (l0.length : Int)
      ·
       rw [if_pos c6] at H; have c6b0 : decide (x13_1 < (l0.length : Int)) = true := decide_eq_true c6; clear c6
       by_cases c7 : x13_1 < (l1.length : Int)
       ·
        rw [if_pos c7] at H; have c7b0 : decide (x13_1 < (l1.length : Int)) = true := decide_eq_true c7; clear c7
        by_cases c8 : (rd l0 x13_1) = (rd l1 x13_1)
        ·
         rw [if_pos c8] at H; have c8b0 : ((rd l0 x13_1) == (rd l1 x13_1)) = true := beq_iff_eq.mpr c8; have c8b1 : ((rd l0 x13_1) != (rd l1 x13_1)) = false := bne_eq_false_iff_eq.mpr c8; clear c8; have H' := am H; clear H; have p374 : 0 ≤ (x13_1 : Int) := od; have q374 : x13_1 < (l0.length : Int) := od; obtain ⟨ad374, e374, hx374_0⟩ := Kd.at_int HR0.out x13_1 p374 q374
         cases e374
         replace p374 := eq_true p374; replace q374 := eq_true q374; have p375 : 0 ≤ (x13_1 : Int) := od; have q375 : x13_1 < (l1.length : Int) := od; obtain ⟨ad375, e375, hx375_0⟩ := Kd.at_int HR1.out x13_1 p375 q375
         cases e375
         replace p375 := eq_true p375; replace q375 := eq_true q375
         go_wp2
         repeat (go_quiet (fail); try go_wp2)
         go_roundg k1
         case measure => have := HK1.out; omega
         case rel => exact ⟨(wrap64 (x13_1 + 1)), ar, H', ⟨by have := HK1.out; omega⟩, by repeat (first | exact Drawn0.refl _ | apply Drawn0.step)⟩
        ·
         rw [if_neg c8] at H; have c8b0 : ((rd l0 x13_1) == (rd l1 x13_1)) = false := beq_eq_false_iff_ne.mpr c8; have c8b1 : ((rd l0 x13_1) != (rd l1 x13_1)) = true := bne_iff_ne.mpr c8; obtain rfl := Option.some.inj H; have p374 : 0 ≤ (x13_1 : Int) := od; have q374 : x13_1 < (l0.length : Int) := od; obtain ⟨ad374, e374, hx374_0⟩ := Kd.at_int HR0.out x13_1 p374 q374
         cases e374
         replace p374 := eq_true p374; replace q374 := eq_true q374; have p375 : 0 ≤ (x13_1 : Int) := od; have q375 : x13_1 < (l1.length : Int) := od; obtain ⟨ad375, e375, hx375_0⟩ := Kd.at_int HR1.out x13_1 p375 q375
         cases e375
         replace p375 := eq_true p375; replace q375 := eq_true q375
         go_wp2
         repeat (go_quiet (fail); try go_wp2)
         go_ret
         exact ⟨by first | rfl | (simp; done) | (simp [*]; done) | (refine congrArg (Value.int .i64) ?_; unfold wrap64; omega), by repeat (first | exact Drawn0.refl _ | apply Drawn0.step)⟩
       ·
        rw [if_neg c7] at H; exact absurd H (by simp)
      ·
       rw [if_neg c6] at H; exact absurd H (by simp)
     ·
      rw [if_neg c5] at H; exact absurd H (by simp)
    ·
     rw [if_neg c4] at H; have c4b0 : decide (x13_1 < (l0.length : Int)) = false := decide_eq_false c4; clear c4; obtain rfl := Option.some.inj H
     go_wp2
     repeat (go_quiet (fail); try go_wp2)
     go_ret
     exact ⟨by first | rfl | (simp; done) | (simp [*]; done) | (refine congrArg (Value.int .i64) ?_; unfold wrap64; omega), by repeat (first | exact Drawn0.refl _ | apply Drawn0.step)⟩
 ·
  rw [if_neg c3] at H; have c3b0 : ((l0.length : Int) == (l1.length : Int)) = false := beq_eq_false_iff_ne.mpr c3; have c3b1 : ((l0.length : Int) != (l1.length : Int)) = true := bne_iff_ne.mpr c3; have c3b2 : (l0.length == l1.length) = false := by first | simpa using c3 | (simp at c3 ⊢; omega)
  obtain rfl := Option.some.inj H
  go_enter Try.func44, Try.ntmps44
  go_wp2
  repeat (go_quiet (fail); try go_wp2)
  go_ret
  exact ⟨by first | rfl | (simp; done) | (simp [*]; done) | (refine congrArg (Value.int .i64) ?_; unfold wrap64; omega), by repeat (first | exact Drawn0.refl _ | apply Drawn0.step)⟩
end Go.Proofs.Yteljoemeogeidaa.QThresholdAnswers
