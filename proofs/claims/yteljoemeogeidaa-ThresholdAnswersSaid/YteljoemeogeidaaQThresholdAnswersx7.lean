/- Lean functions that answer as the Go functions do which the law reaches, and proofs that the Go code comes to exactly these answers. Conditions: those that each theorem names. -/
import Derived.Test.YteljoemeogeidaaQThresholdAnswersx0
import Derived.Test.YteljoemeogeidaaQThresholdAnswersx4
import Derived.Test.YteljoemeogeidaaQThresholdAnswersx6
namespace Go.Proofs.Yteljoemeogeidaa.QThresholdAnswers
open Go.RowKit Go.Proofs.YteljoemeogeidaaW.PrintWords Go.Proofs.YteljoemeogeidaaW.PrintLast Go.Proofs.YteljoemeogeidaaW.PrintMore
attribute [local go_sem] max2_int min2_int max_two min_two max_three min_three max_four min_four   -- for this text's walks alone
set_option linter.unusedVariables false
set_option linter.unusedSimpArgs false

/-! ### threshold_Uses: function 15 -/
mutual
def threshold_Uses.l0 : Nat → Int → List Int → Int → Int → Int → List Int → List (S27) → Option (Int)
  | 0, _, _, _, _, _, _, _ => none
  | k + 1, x3, x9, x10, x11, x251000, x251001, x251002 => if x11 < x10 then (if 0 ≤ x11 then (if x11 < (x9.length : Int) then ((threshold_node.f (rd x9 x11)).bind fun t252 => (if t252 = true then (if 0 ≤ (rd x9 x11) then (threshold_Uses.l0 k (Go.bits .or .i64 x3 (shl .i64 1 (rd x9 x11))) x9 x10 (wrap64 (x11 + 1)) x251000 x251001 x251002) else (none)) else (threshold_Uses.l0 k x3 x9 x10 (wrap64 (x11 + 1)) x251000 x251001 x251002))) else (none)) else (none)) else (threshold_Uses.l1 k x3 x251002 (x251002.length : Int) 0)
def threshold_Uses.l1 : Nat → Int → List (S27) → Int → Int → Option (Int)
  | 0, _, _, _, _ => none
  | k + 1, x3, x23, x24, x25 => if x25 < x24 then (if 0 ≤ x25 then (if x25 < (x23.length : Int) then ((threshold_Uses.f k ((rd_T27 x23 x25).f0) ((rd_T27 x23 x25).f1) ((rd_T27 x23 x25).f2)).bind fun t255 => (threshold_Uses.l1 k (Go.bits .or .i64 x3 t255) x23 x24 (wrap64 (x25 + 1)))) else (none)) else (none)) else (some x3)
def threshold_Uses.f : Nat → Int → List Int → List (S27) → Option (Int)
  | 0, _, _, _ => none
  | k + 1, a0_0, l0_1, l0_2 => threshold_Uses.l0 k 0 l0_1 (l0_1.length : Int) 0 a0_0 l0_1 l0_2
end
theorem threshold_Uses.mono_l : ∀ k, (∀ y0 y1 y2, LeO (threshold_Uses.f k y0 y1 y2) (threshold_Uses.f (k + 1) y0 y1 y2)) ∧ (∀ y0 y1 y2 y3 y4 y5 y6, LeO (threshold_Uses.l0 k y0 y1 y2 y3 y4 y5 y6) (threshold_Uses.l0 (k + 1) y0 y1 y2 y3 y4 y5 y6)) ∧ (∀ y0 y1 y2 y3, LeO (threshold_Uses.l1 k y0 y1 y2 y3) (threshold_Uses.l1 (k + 1) y0 y1 y2 y3))
  | 0 => ⟨fun _ _ _ r h => by simp [threshold_Uses.f] at h, fun _ _ _ _ _ _ _ r h => by simp [threshold_Uses.l0] at h, fun _ _ _ _ r h => by simp [threshold_Uses.l1] at h⟩
  | k + 1 => by
    obtain ⟨ih0, ih1, ih2⟩ := threshold_Uses.mono_l k
    refine ⟨?_, ?_, ?_⟩
    · intro y0 y1 y2
      unfold threshold_Uses.f
      repeat' first
      | (with_reducible exact ih0 _ _ _)
      | (with_reducible exact ih1 _ _ _ _ _ _ _)
      | (with_reducible exact ih2 _ _ _ _)
      | (with_reducible exact LeO.refl _)
      | (with_reducible exact LeO.none _)
      | (with_reducible refine LeO.ite ?_ ?_)
      | (with_reducible refine LeO.bind ?_ (fun _ => ?_))
      | exact ih0 _ _ _
      | exact ih1 _ _ _ _ _ _ _
      | exact ih2 _ _ _ _
      | exact LeO.none _
      | refine LeO.ite ?_ ?_
      | refine LeO.bind ?_ (fun _ => ?_)
    · intro y0 y1 y2 y3 y4 y5 y6
      unfold threshold_Uses.l0
      repeat' first
      | (with_reducible exact ih0 _ _ _)
      | (with_reducible exact ih1 _ _ _ _ _ _ _)
      | (with_reducible exact ih2 _ _ _ _)
      | (with_reducible exact LeO.refl _)
      | (with_reducible exact LeO.none _)
      | (with_reducible refine LeO.ite ?_ ?_)
      | (with_reducible refine LeO.bind ?_ (fun _ => ?_))
      | exact ih0 _ _ _
      | exact ih1 _ _ _ _ _ _ _
      | exact ih2 _ _ _ _
      | exact LeO.none _
      | refine LeO.ite ?_ ?_
      | refine LeO.bind ?_ (fun _ => ?_)
    · intro y0 y1 y2 y3
      unfold threshold_Uses.l1
      repeat' first
      | (with_reducible exact ih0 _ _ _)
      | (with_reducible exact ih1 _ _ _ _ _ _ _)
      | (with_reducible exact ih2 _ _ _ _)
      | (with_reducible exact LeO.refl _)
      | (with_reducible exact LeO.none _)
      | (with_reducible refine LeO.ite ?_ ?_)
      | (with_reducible refine LeO.bind ?_ (fun _ => ?_))
      | exact ih0 _ _ _
      | exact ih1 _ _ _ _ _ _ _
      | exact ih2 _ _ _ _
      | exact LeO.none _
      | refine LeO.ite ?_ ?_
      | refine LeO.bind ?_ (fun _ => ?_)
theorem threshold_Uses.mono : ∀ a0 a1 a2 k, LeO (threshold_Uses.f k a0 a1 a2) (threshold_Uses.f (k + 1) a0 a1 a2) := by
  intro a0 a1 a2 k
  obtain ⟨ih0, ih1, ih2⟩ := threshold_Uses.mono_l k
  exact ih0 a0 a1 a2
set_option maxHeartbeats 8000000 in
set_option maxRecDepth 100000 in
theorem threshold_Uses.calls (k : Nat) : ∀ (a0_0 : Int) (A0_1 : Option Addr) (c0_1 : Nat) (l0_1 : List Int) (A0_2 : Option Addr) (c0_2 : Nat) (l0_2 : List (S27)) (r : Int) (w : World) (hr0_1 : Kd.C (Kd.int .i64) w A0_1 l0_1.length l0_1) (hc0_1 : l0_1.length ≤ c0_1) (hr0_2 : Kd.C k27 w A0_2 l0_2.length l0_2) (hc0_2 : l0_2.length ≤ c0_2) (h : threshold_Uses.f k a0_0 l0_1 l0_2 = some r),
    Calls Try.prog 15 #[.agg #[.int .i64 a0_0, .slice A0_1 l0_1.length c0_1, .slice A0_2 l0_2.length c0_2]] w fun e w' => e = .returned (.int .i64 r) ∧ Below w.heap.size w w' := by
 induction k using Nat.strongRecOn with
 | _ k ih =>
 intro a0_0 A0_1 c0_1 l0_1 A0_2 c0_2 l0_2 r w hr0_1 hc0_1 hr0_2 hc0_2 h
 cases k with
 | zero => exact absurd h (by simp [threshold_Uses.f])
 | succ k =>
 simp only [threshold_Uses.f] at h; have hu27 := Try.underlying27; have HR0_1 := am hr0_1; have HC0_1 := am hc0_1; clear hr0_1 hc0_1; have HR0_2 := am hr0_2; have HC0_2 := am hc0_2; clear hr0_2 hc0_2; have HB := am (Below.refl w.heap.size w); have H : (threshold_Uses.l0 k 0 l0_1 (l0_1.length : Int) 0 a0_0 l0_1 l0_2) = some r := h; clear h; have H' := am H; clear H
 go_enter Try.func15, Try.ntmps15
 go_wp2_with (first | ((with_reducible refine gate_dst (N := 1) rfl ?_); refine box_event ?hg (N := 1) ?hd (cs := #[.int .i64 a0_0, .slice A0_1 l0_1.length c0_1, .slice A0_2 l0_2.length c0_2]) (t := 27) ?hr ?_; (case hd => rfl); (case hg => rfl); (case hr => first | (go_simp; done) | (go_simp; rfl)); intro gb250 hg w2 hbox hb; have BK250 := am (hbox); have GW250 := am ((by rw [hg]; exact (below_size HB.out) : w.heap.size ≤ gb250)); have GE250 := am ((by rw [hg]; exact (below_size HB.out) : w.heap.size ≤ gb250)); replace HB := bs HB hb; clear hb hbox hg; obtain ⟨hcz3_0, hcz3_1, hcz3_2, hfz3_0, hfz3_1, hfz3_2⟩ := blkC3 BK250.out))
 go_loopg [3, 11] k (fun kq v3 v11 w' => ∃ (x3_1 : Int) (x11_1 : Int), v3 = .int .i64 x3_1 ∧ v11 = .int .i64 x11_1 ∧ Aside0 (threshold_Uses.l0 kq x3_1 l0_1 (l0_1.length : Int) x11_1 a0_0 l0_1 l0_2 = some r) ∧ Aside0 (kq ≤ k) ∧ Aside0 (w'.heap[gb250]? = some (.cells #[.int .i64 a0_0, (.slice A0_1 l0_1.length c0_1), (.slice A0_2 l0_2.length c0_2)] 27 (0, 0))) ∧ Aside0 (Below w.heap.size w w'))
 case atStart => exact ⟨(0), (0), ar, ar, H', ⟨Nat.le_refl _⟩, ⟨by exact BK250.out⟩, ⟨by exact HB.out⟩⟩
 case round =>
  clear H'; (try clear c1); (try clear p2); (try clear hcz3_0 hcz3_1 hcz3_2 hfz3_0 hfz3_1 hfz3_2); obtain ⟨x3_1, x11_1, rfl, rfl, HA, HK1, BK250, HB⟩ := hrel
  cases gk with
  | zero => exact absurd HA.out (by simp [threshold_Uses.l0])
  | succ k1 =>
   have H := HA.out; clear HA; simp only [threshold_Uses.l0] at H
   by_cases c4 : x11_1 < (l0_1.length : Int)
   ·
    rw [if_pos c4] at H; have c4b0 : decide (x11_1 < (l0_1.length : Int)) = true := decide_eq_true c4; clear c4
    by_cases c5 : 0 ≤ x11_1
    ·
     rw [if_pos c5] at H; have c5b0 : decide (0 ≤ x11_1) = true := decide_eq_true c5; clear c5
     by_cases c6 : x11_1 < (l0_1.length : Int)
     ·
      rw [if_pos c6] at H; have c6b0 : decide (x11_1 < (l0_1.length : Int)) = true := decide_eq_true c6; clear c6; replace H := Option.bind_eq_some_iff.mp H; obtain ⟨t252, A70, H⟩ := H; replace H : (if t252 = true then (if 0 ≤ (rd l0_1 x11_1) then (threshold_Uses.l0 k1 (Go.bits .or .i64 x3_1 (shl .i64 1 (rd l0_1 x11_1))) l0_1 (l0_1.length : Int) (wrap64 (x11_1 + 1)) a0_0 l0_1 l0_2) else (none)) else (threshold_Uses.l0 k1 x3_1 l0_1 (l0_1.length : Int) (wrap64 (x11_1 + 1)) a0_0 l0_1 l0_2)) = some r := H; have A7 := am A70; clear A70
      by_cases c8 : t252 = true
      ·
       subst c8; have H1 : (if 0 ≤ (rd l0_1 x11_1) then (threshold_Uses.l0 k1 (Go.bits .or .i64 x3_1 (shl .i64 1 (rd l0_1 x11_1))) l0_1 (l0_1.length : Int) (wrap64 (x11_1 + 1)) a0_0 l0_1 l0_2) else (none)) = some r := by rw [if_pos rfl] at H; exact H
       clear H; have H := H1; clear H1
       by_cases c9 : 0 ≤ (rd l0_1 x11_1)
       ·
        rw [if_pos c9] at H; have c9b0 := eq_true c9; have c9b1 : decide (0 ≤ (rd l0_1 x11_1)) = true := decide_eq_true c9; clear c9; obtain ⟨ji10, hji10⟩ : ∃ j_ : Int, (shl .i64 1 (rd l0_1 x11_1)) = j_ := ⟨_, rfl⟩; replace H : (threshold_Uses.l0 k1 (Go.bits .or .i64 x3_1 (ji10)) l0_1 (l0_1.length : Int) (wrap64 (x11_1 + 1)) a0_0 l0_1 l0_2) = some r := by first | (rw [hji10] at H; exact H) | (simp only [hji10] at H ⊢; exact H)
        (try rw [hji10] at A7); have hji10_ : (IntKind.i64.wrap (1 * 2 ^ min (rd l0_1 x11_1).toNat 64)) = ji10 := hji10; have hji10z : (rd l0_1 x11_1) ≤ 64 → (IntKind.i64.wrap (1 * 2 ^ (rd l0_1 x11_1).toNat)) = ji10 := shl_small hji10; have hji10u : (IntKind.i64.wrap (2 ^ min (rd l0_1 x11_1).toNat 64)) = ji10 := by have h_ := hji10_; rw [Int.one_mul] at h_; exact h_
        have hji10v : (rd l0_1 x11_1) ≤ 64 → (IntKind.i64.wrap (2 ^ (rd l0_1 x11_1).toNat)) = ji10 := fun hle_ => by have h_ := hji10z hle_; rw [Int.one_mul] at h_; exact h_
        have hji10y : (wrap64 (1 * 2 ^ min (rd l0_1 x11_1).toNat 64)) = ji10 := (i64_w _).symm.trans hji10_; have hji10x : (rd l0_1 x11_1) ≤ 64 → (wrap64 (1 * 2 ^ (rd l0_1 x11_1).toNat)) = ji10 := fun h_ => (i64_w _).symm.trans (hji10z h_); have H' := am H; clear H; have p251 : 0 ≤ (x11_1 : Int) := od; have q251 : x11_1 < (l0_1.length : Int) := od; obtain ⟨ad251, e251, hx251_0⟩ := Kd.at_int HR0_1.out x11_1 p251 q251
        cases e251
        replace hx251_0 := (HB.out.cell (World.block_lt_of_cell? w _ hx251_0)).trans hx251_0; replace p251 := eq_true p251; replace q251 := eq_true q251
        go_wp2_with (first | ((with_reducible refine gate_callee (f := 35) rfl ?_); refine goesL_ (some 16) rfl rfl Try.func35 (by kernel_rfl) rfl #[.int .i64 (rd l0_1 x11_1)] rfl ax ?_; (with_reducible refine (threshold_node.calls (rd l0_1 x11_1) true _ A7.out).mono ?_); rintro e w' ⟨rfl, ⟨nd, rfl⟩⟩; refine ⟨_, rfl, ?_⟩))
        go_roundg k1
        case measure => have := HK1.out; omega
        case rel => exact ⟨(Go.bits .or .i64 x3_1 (ji10)), (wrap64 (x11_1 + 1)), (by first | rfl | (simp; done) | (simp only [← hji10] <;> (first | rfl | simp)) | (simp [*]; done)), ar, H', ⟨by have := HK1.out; omega⟩, ⟨by (with_reducible repeat first | apply blk_drewN | apply blk_drew | apply blk_alloc); exact BK250.out⟩, ⟨by repeat (first | (with_reducible first | exact HB.out | apply below_alloc | apply pw_below_drewN | apply below_drew1 | refine below_set ?_ GE250.out) | exact HB.out)⟩⟩
       ·
        rw [if_neg c9] at H; exact absurd H (by simp)
      ·
       replace c8 := Bool.eq_false_iff.mpr c8; subst c8; have H1 : (threshold_Uses.l0 k1 x3_1 l0_1 (l0_1.length : Int) (wrap64 (x11_1 + 1)) a0_0 l0_1 l0_2) = some r := by rw [if_neg (show ¬ (false = true) by decide)] at H; exact H
       clear H; have H := H1; clear H1; have H' := am H; clear H; have p251 : 0 ≤ (x11_1 : Int) := od; have q251 : x11_1 < (l0_1.length : Int) := od; obtain ⟨ad251, e251, hx251_0⟩ := Kd.at_int HR0_1.out x11_1 p251 q251
       cases e251
       replace hx251_0 := (HB.out.cell (World.block_lt_of_cell? w _ hx251_0)).trans hx251_0; replace p251 := eq_true p251; replace q251 := eq_true q251
       go_wp2_with (first | ((with_reducible refine gate_callee (f := 35) rfl ?_); refine goesL_ (some 16) rfl rfl Try.func35 (by kernel_rfl) rfl #[.int .i64 (rd l0_1 x11_1)] rfl ax ?_; (with_reducible refine (threshold_node.calls (rd l0_1 x11_1) false _ A7.out).mono ?_); rintro e w' ⟨rfl, ⟨nd, rfl⟩⟩; refine ⟨_, rfl, ?_⟩))
       go_roundg k1
       case measure => have := HK1.out; omega
       case rel => exact ⟨(x3_1), (wrap64 (x11_1 + 1)), ar, ar, H', ⟨by have := HK1.out; omega⟩, ⟨by (with_reducible repeat first | apply blk_drewN | apply blk_drew | apply blk_alloc); exact BK250.out⟩, ⟨by repeat (first | (with_reducible first | exact HB.out | apply below_alloc | apply pw_below_drewN | apply below_drew1 | refine below_set ?_ GE250.out) | exact HB.out)⟩⟩
     ·
      rw [if_neg c6] at H; exact absurd H (by simp)
    ·
     rw [if_neg c5] at H; exact absurd H (by simp)
   ·
    rw [if_neg c4] at H; have c4b0 : decide (x11_1 < (l0_1.length : Int)) = false := decide_eq_false c4; clear c4; have H' := am H; clear H; obtain ⟨hcz11_0, hcz11_1, hcz11_2, hfz11_0, hfz11_1, hfz11_2⟩ := blkC3 BK250.out
    go_wp2
    go_loopg [3, 25] k1 (fun kq v3 v25 w' => ∃ (x3_2 : Int) (x25_2 : Int), v3 = .int .i64 x3_2 ∧ v25 = .int .i64 x25_2 ∧ Aside0 (threshold_Uses.l1 kq x3_2 l0_2 (l0_2.length : Int) x25_2 = some r) ∧ Aside0 (kq ≤ k1) ∧ Aside0 (Below w.heap.size w w'))
    case atStart => exact ⟨(x3_1), (0), ar, ar, H', ⟨Nat.le_refl _⟩, ⟨by exact HB.out⟩⟩
    case round =>
     clear H'; (try clear c1); (try clear p2); (try clear q2); (try clear hx2); (try clear c3); (try clear c4); (try clear c4b0); (try clear c5); (try clear c5b0); (try clear c6); (try clear c6b0); (try clear p6); (try clear c8); (try clear c9); (try clear c9b0); (try clear c9b1); (try clear hcz11_0 hcz11_1 hcz11_2); (try clear hcz3_0 hcz3_1 hcz3_2); (try clear hfz11_0 hfz11_1 hfz11_2); (try clear hfz3_0 hfz3_1 hfz3_2); (try clear hx251_0); (try clear p2); (try clear p251); (try clear q251); obtain ⟨x3_2, x25_2, rfl, rfl, HA, HK2, HB⟩ := hrel
     cases gk with
     | zero => exact absurd HA.out (by simp [threshold_Uses.l1])
     | succ k2 =>
      have H := HA.out; clear HA; simp only [threshold_Uses.l1] at H
      by_cases c12 : x25_2 < (l0_2.length : Int)
      ·
       rw [if_pos c12] at H; have c12b0 : decide (x25_2 < (l0_2.length : Int)) = true := decide_eq_true c12; clear c12
       by_cases c13 : 0 ≤ x25_2
       ·
        rw [if_pos c13] at H; have c13b0 : decide (0 ≤ x25_2) = true := decide_eq_true c13; clear c13
        by_cases c14 : x25_2 < (l0_2.length : Int)
        ·
         rw [if_pos c14] at H; have c14b0 : decide (x25_2 < (l0_2.length : Int)) = true := decide_eq_true c14; clear c14; replace H := Option.bind_eq_some_iff.mp H; obtain ⟨t255, A150, H⟩ := H; replace H : (threshold_Uses.l1 k2 (Go.bits .or .i64 x3_2 t255) l0_2 (l0_2.length : Int) (wrap64 (x25_2 + 1))) = some r := H; have A15 := am A150; clear A150; have H' := am H; clear H; have p253 : 0 ≤ (x25_2 : Int) := od; have q253 : x25_2 < (l0_2.length : Int) := od; obtain ⟨ad253, A253_1, c253_1, A253_2, c253_2, e253, hx253_0, hx253_1, hx253_2, hl253_1, hi253_1, hl253_2, hi253_2⟩ := at_T27 HR0_2.out x25_2 p253 q253
         cases e253
         replace hx253_0 := (HB.out.cell (World.block_lt_of_cell? w _ hx253_0)).trans hx253_0; replace hx253_1 := (HB.out.cell (World.block_lt_of_cell? w _ hx253_1)).trans hx253_1; replace hx253_2 := (HB.out.cell (World.block_lt_of_cell? w _ hx253_2)).trans hx253_2; have HR253_1 := am hi253_1; have HC253_1 := am hl253_1; clear hi253_1 hl253_1; have HR253_2 := am hi253_2; have HC253_2 := am hl253_2; clear hi253_2 hl253_2; replace p253 := eq_true p253; replace q253 := eq_true q253
         go_wp2_with (first | ((with_reducible refine gate_dst (N := 7) rfl ?_); refine box_event ?hg (N := 7) ?hd (cs := #[.int .i64 0, .slice none 0 0, .slice none 0 0]) (t := 27) ?hr ?_; (case hd => rfl); (case hg => rfl); (case hr => first | (go_simp; done) | (go_simp; rfl)); intro gb254 hg w16 hbox hb; have BK254 := am (hbox); have GW254 := am ((by rw [hg]; exact (below_size HB.out) : w.heap.size ≤ gb254)); have GE254 := am ((by rw [hg]; exact (below_size HB.out) : w.heap.size ≤ gb254)); replace HB := bs HB hb; clear hb hbox hg; obtain ⟨hcz17_0, hcz17_1, hcz17_2, hfz17_0, hfz17_1, hfz17_2⟩ := blkC3 BK254.out) | ((with_reducible refine gate_callee (f := 15) rfl ?_); refine goesL_ (some 31) rfl rfl Try.func15 (by kernel_rfl) rfl #[.agg #[.int .i64 ((rd_T27 l0_2 x25_2).f0), .slice A253_1 ((rd_T27 l0_2 x25_2).f1).length c253_1, .slice A253_2 ((rd_T27 l0_2 x25_2).f2).length c253_2]] rfl ax ?_; (with_reducible refine (ih k2 (by have := HK1.out; have := HK2.out; omega) ((rd_T27 l0_2 x25_2).f0) _ _ ((rd_T27 l0_2 x25_2).f1) _ _ ((rd_T27 l0_2 x25_2).f2) t255 _ ?side1 ?side2 ?side3 ?side4 A15.out).mono ?_); (case side1 => exact Kd.C_below HR253_1.out (by repeat (first | (with_reducible first | exact HB.out | apply below_alloc | apply pw_below_drewN | apply below_drew1 | refine below_set ?_ GE254.out) | exact HB.out))); (case side2 => exact HC253_1.out); (case side3 => exact Kd.C_below HR253_2.out (by repeat (first | (with_reducible first | exact HB.out | apply below_alloc | apply pw_below_drewN | apply below_drew1 | refine below_set ?_ GE254.out) | exact HB.out))); (case side4 => exact HC253_2.out); rintro e w18 ⟨rfl, hb⟩; refine ⟨_, rfl, ?_⟩; replace BK254 := am (blk_below (g := gb254) (o := .cells #[.int .i64 ((rd_T27 l0_2 x25_2).f0), .slice A253_1 ((rd_T27 l0_2 x25_2).f1).length c253_1, .slice A253_2 ((rd_T27 l0_2 x25_2).f2).length c253_2] 27 (0, 0)) (by (with_reducible repeat first | apply blk_drewN | apply blk_drew | apply blk_alloc); refine blk_put (cs := #[.int .i64 ((rd_T27 l0_2 x25_2).f0), .slice A253_1 ((rd_T27 l0_2 x25_2).f1).length c253_1, .slice none 0 0]) ?_ 2 _ rfl; (with_reducible repeat first | apply blk_drewN | apply blk_drew | apply blk_alloc); refine blk_put (cs := #[.int .i64 ((rd_T27 l0_2 x25_2).f0), .slice none 0 0, .slice none 0 0]) ?_ 1 _ rfl; (with_reducible repeat first | apply blk_drewN | apply blk_drew | apply blk_alloc); refine blk_put (cs := #[.int .i64 0, .slice none 0 0, .slice none 0 0]) ?_ 0 _ rfl; (with_reducible repeat first | apply blk_drewN | apply blk_drew | apply blk_alloc); exact BK254.out) hb); replace HB := am (below_step (by repeat (first | (with_reducible first | exact HB.out | apply below_alloc | apply pw_below_drewN | apply below_drew1 | refine below_set ?_ GE254.out) | exact HB.out)) hb); (try clear hb); (try clear hb2); (try clear hk); (try clear hi)))
         go_roundg k2
         case measure => have := HK1.out; have := HK2.out; omega
         case rel => exact ⟨(Go.bits .or .i64 x3_2 t255), (wrap64 (x25_2 + 1)), ar, ar, H', ⟨by have := HK1.out; have := HK2.out; omega⟩, ⟨by exact HB.out⟩⟩
        ·
         rw [if_neg c14] at H; exact absurd H (by simp)
       ·
        rw [if_neg c13] at H; exact absurd H (by simp)
      ·
       rw [if_neg c12] at H; have c12b0 : decide (x25_2 < (l0_2.length : Int)) = false := decide_eq_false c12; clear c12; obtain rfl := Option.some.inj H
       go_wp2
       go_ret
       exact ⟨er, by exact HB.out⟩
/-! ### threshold_Size: function 17 -/
mutual
def threshold_Size.l0 : Nat → Int → List (S27) → Int → Int → Option (Int)
  | 0, _, _, _, _ => none
  | k + 1, x3, x14, x15, x16 => if x16 < x15 then (if 0 ≤ x16 then (if x16 < (x14.length : Int) then ((threshold_Size.f k ((rd_T27 x14 x16).f0) ((rd_T27 x14 x16).f1) ((rd_T27 x14 x16).f2)).bind fun t259 => (threshold_Size.l0 k (wrap64 (x3 + t259)) x14 x15 (wrap64 (x16 + 1)))) else (none)) else (none)) else (some x3)
def threshold_Size.f : Nat → Int → List Int → List (S27) → Option (Int)
  | 0, _, _, _ => none
  | k + 1, a0_0, l0_1, l0_2 => threshold_Size.l0 k (wrap64 ((l0_1.length : Int) + (l0_2.length : Int))) l0_2 (l0_2.length : Int) 0
end
theorem threshold_Size.mono_l : ∀ k, (∀ y0 y1 y2, LeO (threshold_Size.f k y0 y1 y2) (threshold_Size.f (k + 1) y0 y1 y2)) ∧ (∀ y0 y1 y2 y3, LeO (threshold_Size.l0 k y0 y1 y2 y3) (threshold_Size.l0 (k + 1) y0 y1 y2 y3))
  | 0 => ⟨fun _ _ _ r h => by simp [threshold_Size.f] at h, fun _ _ _ _ r h => by simp [threshold_Size.l0] at h⟩
  | k + 1 => by
    obtain ⟨ih0, ih1⟩ := threshold_Size.mono_l k
    refine ⟨?_, ?_⟩
    · intro y0 y1 y2
      unfold threshold_Size.f
      repeat' first
      | (with_reducible exact ih0 _ _ _)
      | (with_reducible exact ih1 _ _ _ _)
      | (with_reducible exact LeO.refl _)
      | (with_reducible exact LeO.none _)
      | (with_reducible refine LeO.ite ?_ ?_)
      | (with_reducible refine LeO.bind ?_ (fun _ => ?_))
      | exact ih0 _ _ _
      | exact ih1 _ _ _ _
      | exact LeO.none _
      | refine LeO.ite ?_ ?_
      | refine LeO.bind ?_ (fun _ => ?_)
    · intro y0 y1 y2 y3
      unfold threshold_Size.l0
      repeat' first
      | (with_reducible exact ih0 _ _ _)
      | (with_reducible exact ih1 _ _ _ _)
      | (with_reducible exact LeO.refl _)
      | (with_reducible exact LeO.none _)
      | (with_reducible refine LeO.ite ?_ ?_)
      | (with_reducible refine LeO.bind ?_ (fun _ => ?_))
      | exact ih0 _ _ _
      | exact ih1 _ _ _ _
      | exact LeO.none _
      | refine LeO.ite ?_ ?_
      | refine LeO.bind ?_ (fun _ => ?_)
theorem threshold_Size.mono : ∀ a0 a1 a2 k, LeO (threshold_Size.f k a0 a1 a2) (threshold_Size.f (k + 1) a0 a1 a2) := by
  intro a0 a1 a2 k
  obtain ⟨ih0, ih1⟩ := threshold_Size.mono_l k
  exact ih0 a0 a1 a2
set_option maxHeartbeats 8000000 in
set_option maxRecDepth 100000 in
theorem threshold_Size.calls (k : Nat) : ∀ (a0_0 : Int) (A0_1 : Option Addr) (c0_1 : Nat) (l0_1 : List Int) (A0_2 : Option Addr) (c0_2 : Nat) (l0_2 : List (S27)) (r : Int) (w : World) (hr0_1 : Kd.C (Kd.int .i64) w A0_1 l0_1.length l0_1) (hc0_1 : l0_1.length ≤ c0_1) (hr0_2 : Kd.C k27 w A0_2 l0_2.length l0_2) (hc0_2 : l0_2.length ≤ c0_2) (h : threshold_Size.f k a0_0 l0_1 l0_2 = some r),
    Calls Try.prog 17 #[.agg #[.int .i64 a0_0, .slice A0_1 l0_1.length c0_1, .slice A0_2 l0_2.length c0_2]] w fun e w' => e = .returned (.int .i64 r) ∧ Below w.heap.size w w' := by
 induction k using Nat.strongRecOn with
 | _ k ih =>
 intro a0_0 A0_1 c0_1 l0_1 A0_2 c0_2 l0_2 r w hr0_1 hc0_1 hr0_2 hc0_2 h
 cases k with
 | zero => exact absurd h (by simp [threshold_Size.f])
 | succ k =>
 simp only [threshold_Size.f] at h; have hu27 := Try.underlying27; have HR0_1 := am hr0_1; have HC0_1 := am hc0_1; clear hr0_1 hc0_1; have HR0_2 := am hr0_2; have HC0_2 := am hc0_2; clear hr0_2 hc0_2; have HB := am (Below.refl w.heap.size w); have H : (threshold_Size.l0 k (wrap64 ((l0_1.length : Int) + (l0_2.length : Int))) l0_2 (l0_2.length : Int) 0) = some r := h; clear h; have H' := am H; clear H
 go_enter Try.func17, Try.ntmps17
 go_wp2_with (first | ((with_reducible refine gate_dst (N := 1) rfl ?_); refine box_event ?hg (N := 1) ?hd (cs := #[.int .i64 a0_0, .slice A0_1 l0_1.length c0_1, .slice A0_2 l0_2.length c0_2]) (t := 27) ?hr ?_; (case hd => rfl); (case hg => rfl); (case hr => first | (go_simp; done) | (go_simp; rfl)); intro gb256 hg w2 hbox hb; have BK256 := am (hbox); have GW256 := am ((by rw [hg]; exact (below_size HB.out) : w.heap.size ≤ gb256)); have GE256 := am ((by rw [hg]; exact (below_size HB.out) : w.heap.size ≤ gb256)); replace HB := bs HB hb; clear hb hbox hg; obtain ⟨hcz3_0, hcz3_1, hcz3_2, hfz3_0, hfz3_1, hfz3_2⟩ := blkC3 BK256.out))
 go_loopg [3, 16] k (fun kq v3 v16 w' => ∃ (x3_1 : Int) (x16_1 : Int), v3 = .int .i64 x3_1 ∧ v16 = .int .i64 x16_1 ∧ Aside0 (threshold_Size.l0 kq x3_1 l0_2 (l0_2.length : Int) x16_1 = some r) ∧ Aside0 (kq ≤ k) ∧ Aside0 (Below w.heap.size w w'))
 case atStart => exact ⟨(wrap64 ((l0_1.length : Int) + (l0_2.length : Int))), (0), ar, ar, H', ⟨Nat.le_refl _⟩, ⟨by exact HB.out⟩⟩
 case round =>
  clear H'; (try clear c1); (try clear p2); (try clear hcz3_0 hcz3_1 hcz3_2 hfz3_0 hfz3_1 hfz3_2); obtain ⟨x3_1, x16_1, rfl, rfl, HA, HK1, HB⟩ := hrel
  cases gk with
  | zero => exact absurd HA.out (by simp [threshold_Size.l0])
  | succ k1 =>
   have H := HA.out; clear HA; simp only [threshold_Size.l0] at H
   by_cases c4 : x16_1 < (l0_2.length : Int)
   ·
    rw [if_pos c4] at H; have c4b0 : decide (x16_1 < (l0_2.length : Int)) = true := decide_eq_true c4; clear c4
    by_cases c5 : 0 ≤ x16_1
    ·
     rw [if_pos c5] at H; have c5b0 : decide (0 ≤ x16_1) = true := decide_eq_true c5; clear c5
     by_cases c6 : x16_1 < (l0_2.length : Int)
     ·
      rw [if_pos c6] at H; have c6b0 : decide (x16_1 < (l0_2.length : Int)) = true := decide_eq_true c6; clear c6; replace H := Option.bind_eq_some_iff.mp H; obtain ⟨t259, A70, H⟩ := H; replace H : (threshold_Size.l0 k1 (wrap64 (x3_1 + t259)) l0_2 (l0_2.length : Int) (wrap64 (x16_1 + 1))) = some r := H; have A7 := am A70; clear A70; have H' := am H; clear H; have p257 : 0 ≤ (x16_1 : Int) := od; have q257 : x16_1 < (l0_2.length : Int) := od; obtain ⟨ad257, A257_1, c257_1, A257_2, c257_2, e257, hx257_0, hx257_1, hx257_2, hl257_1, hi257_1, hl257_2, hi257_2⟩ := at_T27 HR0_2.out x16_1 p257 q257
      cases e257
      replace hx257_0 := (HB.out.cell (World.block_lt_of_cell? w _ hx257_0)).trans hx257_0; replace hx257_1 := (HB.out.cell (World.block_lt_of_cell? w _ hx257_1)).trans hx257_1; replace hx257_2 := (HB.out.cell (World.block_lt_of_cell? w _ hx257_2)).trans hx257_2; have HR257_1 := am hi257_1; have HC257_1 := am hl257_1; clear hi257_1 hl257_1; have HR257_2 := am hi257_2; have HC257_2 := am hl257_2; clear hi257_2 hl257_2; replace p257 := eq_true p257; replace q257 := eq_true q257
      go_wp2_with (first | ((with_reducible refine gate_dst (N := 5) rfl ?_); refine box_event ?hg (N := 5) ?hd (cs := #[.int .i64 0, .slice none 0 0, .slice none 0 0]) (t := 27) ?hr ?_; (case hd => rfl); (case hg => rfl); (case hr => first | (go_simp; done) | (go_simp; rfl)); intro gb258 hg w8 hbox hb; have BK258 := am (hbox); have GW258 := am ((by rw [hg]; exact (below_size HB.out) : w.heap.size ≤ gb258)); have GE258 := am ((by rw [hg]; exact (below_size HB.out) : w.heap.size ≤ gb258)); replace HB := bs HB hb; clear hb hbox hg; obtain ⟨hcz9_0, hcz9_1, hcz9_2, hfz9_0, hfz9_1, hfz9_2⟩ := blkC3 BK258.out) | ((with_reducible refine gate_callee (f := 17) rfl ?_); refine goesL_ (some 22) rfl rfl Try.func17 (by kernel_rfl) rfl #[.agg #[.int .i64 ((rd_T27 l0_2 x16_1).f0), .slice A257_1 ((rd_T27 l0_2 x16_1).f1).length c257_1, .slice A257_2 ((rd_T27 l0_2 x16_1).f2).length c257_2]] rfl ax ?_; (with_reducible refine (ih k1 (by have := HK1.out; omega) ((rd_T27 l0_2 x16_1).f0) _ _ ((rd_T27 l0_2 x16_1).f1) _ _ ((rd_T27 l0_2 x16_1).f2) t259 _ ?side1 ?side2 ?side3 ?side4 A7.out).mono ?_); (case side1 => exact Kd.C_below HR257_1.out (by repeat (first | (with_reducible first | exact HB.out | apply below_alloc | apply pw_below_drewN | apply below_drew1 | refine below_set ?_ GE258.out) | exact HB.out))); (case side2 => exact HC257_1.out); (case side3 => exact Kd.C_below HR257_2.out (by repeat (first | (with_reducible first | exact HB.out | apply below_alloc | apply pw_below_drewN | apply below_drew1 | refine below_set ?_ GE258.out) | exact HB.out))); (case side4 => exact HC257_2.out); rintro e w10 ⟨rfl, hb⟩; refine ⟨_, rfl, ?_⟩; replace BK258 := am (blk_below (g := gb258) (o := .cells #[.int .i64 ((rd_T27 l0_2 x16_1).f0), .slice A257_1 ((rd_T27 l0_2 x16_1).f1).length c257_1, .slice A257_2 ((rd_T27 l0_2 x16_1).f2).length c257_2] 27 (0, 0)) (by (with_reducible repeat first | apply blk_drewN | apply blk_drew | apply blk_alloc); refine blk_put (cs := #[.int .i64 ((rd_T27 l0_2 x16_1).f0), .slice A257_1 ((rd_T27 l0_2 x16_1).f1).length c257_1, .slice none 0 0]) ?_ 2 _ rfl; (with_reducible repeat first | apply blk_drewN | apply blk_drew | apply blk_alloc); refine blk_put (cs := #[.int .i64 ((rd_T27 l0_2 x16_1).f0), .slice none 0 0, .slice none 0 0]) ?_ 1 _ rfl; (with_reducible repeat first | apply blk_drewN | apply blk_drew | apply blk_alloc); refine blk_put (cs := #[.int .i64 0, .slice none 0 0, .slice none 0 0]) ?_ 0 _ rfl; (with_reducible repeat first | apply blk_drewN | apply blk_drew | apply blk_alloc); exact BK258.out) hb); replace HB := am (below_step (by repeat (first | (with_reducible first | exact HB.out | apply below_alloc | apply pw_below_drewN | apply below_drew1 | refine below_set ?_ GE258.out) | exact HB.out)) hb); (try clear hb); (try clear hb2); (try clear hk); (try clear hi)))
      go_roundg k1
      case measure => have := HK1.out; omega
      case rel => exact ⟨(wrap64 (x3_1 + t259)), (wrap64 (x16_1 + 1)), ar, ar, H', ⟨by have := HK1.out; omega⟩, ⟨by exact HB.out⟩⟩
     ·
      rw [if_neg c6] at H; exact absurd H (by simp)
    ·
     rw [if_neg c5] at H; exact absurd H (by simp)
   ·
    rw [if_neg c4] at H; have c4b0 : decide (x16_1 < (l0_2.length : Int)) = false := decide_eq_false c4; clear c4; obtain rfl := Option.some.inj H
    go_wp2
    go_ret
    exact ⟨er, by exact HB.out⟩
/-! ### threshold_Depth: function 18 -/
mutual
def threshold_Depth.l0 : Nat → Int → List (S27) → Int → Int → Option (Int)
  | 0, _, _, _, _ => none
  | k + 1, x3, x7, x8, x9 => if x9 < x8 then (if 0 ≤ x9 then (if x9 < (x7.length : Int) then ((threshold_Depth.f k ((rd_T27 x7 x9).f0) ((rd_T27 x7 x9).f1) ((rd_T27 x7 x9).f2)).bind fun t263 => (threshold_Depth.l0 k (mx x3 t263) x7 x8 (wrap64 (x9 + 1)))) else (none)) else (none)) else (some (wrap64 (x3 + 1)))
def threshold_Depth.f : Nat → Int → List Int → List (S27) → Option (Int)
  | 0, _, _, _ => none
  | k + 1, a0_0, l0_1, l0_2 => threshold_Depth.l0 k 0 l0_2 (l0_2.length : Int) 0
end
theorem threshold_Depth.mono_l : ∀ k, (∀ y0 y1 y2, LeO (threshold_Depth.f k y0 y1 y2) (threshold_Depth.f (k + 1) y0 y1 y2)) ∧ (∀ y0 y1 y2 y3, LeO (threshold_Depth.l0 k y0 y1 y2 y3) (threshold_Depth.l0 (k + 1) y0 y1 y2 y3))
  | 0 => ⟨fun _ _ _ r h => by simp [threshold_Depth.f] at h, fun _ _ _ _ r h => by simp [threshold_Depth.l0] at h⟩
  | k + 1 => by
    obtain ⟨ih0, ih1⟩ := threshold_Depth.mono_l k
    refine ⟨?_, ?_⟩
    · intro y0 y1 y2
      unfold threshold_Depth.f
      repeat' first
      | (with_reducible exact ih0 _ _ _)
      | (with_reducible exact ih1 _ _ _ _)
      | (with_reducible exact LeO.refl _)
      | (with_reducible exact LeO.none _)
      | (with_reducible refine LeO.ite ?_ ?_)
      | (with_reducible refine LeO.bind ?_ (fun _ => ?_))
      | exact ih0 _ _ _
      | exact ih1 _ _ _ _
      | exact LeO.none _
      | refine LeO.ite ?_ ?_
      | refine LeO.bind ?_ (fun _ => ?_)
    · intro y0 y1 y2 y3
      unfold threshold_Depth.l0
      repeat' first
      | (with_reducible exact ih0 _ _ _)
      | (with_reducible exact ih1 _ _ _ _)
      | (with_reducible exact LeO.refl _)
      | (with_reducible exact LeO.none _)
      | (with_reducible refine LeO.ite ?_ ?_)
      | (with_reducible refine LeO.bind ?_ (fun _ => ?_))
      | exact ih0 _ _ _
      | exact ih1 _ _ _ _
      | exact LeO.none _
      | refine LeO.ite ?_ ?_
      | refine LeO.bind ?_ (fun _ => ?_)
theorem threshold_Depth.mono : ∀ a0 a1 a2 k, LeO (threshold_Depth.f k a0 a1 a2) (threshold_Depth.f (k + 1) a0 a1 a2) := by
  intro a0 a1 a2 k
  obtain ⟨ih0, ih1⟩ := threshold_Depth.mono_l k
  exact ih0 a0 a1 a2
set_option maxHeartbeats 8000000 in
set_option maxRecDepth 100000 in
theorem threshold_Depth.calls (k : Nat) : ∀ (a0_0 : Int) (A0_1 : Option Addr) (c0_1 : Nat) (l0_1 : List Int) (A0_2 : Option Addr) (c0_2 : Nat) (l0_2 : List (S27)) (r : Int) (w : World) (hr0_1 : Kd.C (Kd.int .i64) w A0_1 l0_1.length l0_1) (hc0_1 : l0_1.length ≤ c0_1) (hr0_2 : Kd.C k27 w A0_2 l0_2.length l0_2) (hc0_2 : l0_2.length ≤ c0_2) (h : threshold_Depth.f k a0_0 l0_1 l0_2 = some r),
    Calls Try.prog 18 #[.agg #[.int .i64 a0_0, .slice A0_1 l0_1.length c0_1, .slice A0_2 l0_2.length c0_2]] w fun e w' => e = .returned (.int .i64 r) ∧ Below w.heap.size w w' := by
 induction k using Nat.strongRecOn with
 | _ k ih =>
 intro a0_0 A0_1 c0_1 l0_1 A0_2 c0_2 l0_2 r w hr0_1 hc0_1 hr0_2 hc0_2 h
 cases k with
 | zero => exact absurd h (by simp [threshold_Depth.f])
 | succ k =>
 simp only [threshold_Depth.f] at h; have hu27 := Try.underlying27; have HR0_1 := am hr0_1; have HC0_1 := am hc0_1; clear hr0_1 hc0_1; have HR0_2 := am hr0_2; have HC0_2 := am hc0_2; clear hr0_2 hc0_2; have HB := am (Below.refl w.heap.size w); have H : (threshold_Depth.l0 k 0 l0_2 (l0_2.length : Int) 0) = some r := h; clear h; have H' := am H; clear H
 go_enter Try.func18, Try.ntmps18
 go_wp2_with (first | ((with_reducible refine gate_dst (N := 1) rfl ?_); refine box_event ?hg (N := 1) ?hd (cs := #[.int .i64 a0_0, .slice A0_1 l0_1.length c0_1, .slice A0_2 l0_2.length c0_2]) (t := 27) ?hr ?_; (case hd => rfl); (case hg => rfl); (case hr => first | (go_simp; done) | (go_simp; rfl)); intro gb260 hg w2 hbox hb; have BK260 := am (hbox); have GW260 := am ((by rw [hg]; exact (below_size HB.out) : w.heap.size ≤ gb260)); have GE260 := am ((by rw [hg]; exact (below_size HB.out) : w.heap.size ≤ gb260)); replace HB := bs HB hb; clear hb hbox hg; obtain ⟨hcz3_0, hcz3_1, hcz3_2, hfz3_0, hfz3_1, hfz3_2⟩ := blkC3 BK260.out))
 go_loopg [3, 9] k (fun kq v3 v9 w' => ∃ (x3_1 : Int) (x9_1 : Int), v3 = .int .i64 x3_1 ∧ v9 = .int .i64 x9_1 ∧ Aside0 (threshold_Depth.l0 kq x3_1 l0_2 (l0_2.length : Int) x9_1 = some r) ∧ Aside0 (kq ≤ k) ∧ Aside0 (Below w.heap.size w w'))
 case atStart => exact ⟨(0), (0), ar, ar, H', ⟨Nat.le_refl _⟩, ⟨by exact HB.out⟩⟩
 case round =>
  clear H'; (try clear c1); (try clear p2); (try clear hcz3_0 hcz3_1 hcz3_2 hfz3_0 hfz3_1 hfz3_2); obtain ⟨x3_1, x9_1, rfl, rfl, HA, HK1, HB⟩ := hrel
  cases gk with
  | zero => exact absurd HA.out (by simp [threshold_Depth.l0])
  | succ k1 =>
   have H := HA.out; clear HA; simp only [threshold_Depth.l0] at H
   by_cases c4 : x9_1 < (l0_2.length : Int)
   ·
    rw [if_pos c4] at H; have c4b0 : decide (x9_1 < (l0_2.length : Int)) = true := decide_eq_true c4; clear c4
    by_cases c5 : 0 ≤ x9_1
    ·
     rw [if_pos c5] at H; have c5b0 : decide (0 ≤ x9_1) = true := decide_eq_true c5; clear c5
     by_cases c6 : x9_1 < (l0_2.length : Int)
     ·
      rw [if_pos c6] at H; have c6b0 : decide (x9_1 < (l0_2.length : Int)) = true := decide_eq_true c6; clear c6; replace H := Option.bind_eq_some_iff.mp H; obtain ⟨t263, A70, H⟩ := H; replace H : (threshold_Depth.l0 k1 (mx x3_1 t263) l0_2 (l0_2.length : Int) (wrap64 (x9_1 + 1))) = some r := H; have A7 := am A70; clear A70; obtain ⟨ji8, hji8⟩ : ∃ j_ : Int, (mx x3_1 t263) = j_ := ⟨_, rfl⟩; replace H : (threshold_Depth.l0 k1 ji8 l0_2 (l0_2.length : Int) (wrap64 (x9_1 + 1))) = some r := by first | (rw [hji8] at H; exact H) | (simp only [hji8] at H ⊢; exact H)
      (try rw [hji8] at A7); have hji8_ : (if x3_1 < t263 then t263 else x3_1) = ji8 := hji8; have H' := am H; clear H; have p261 : 0 ≤ (x9_1 : Int) := od; have q261 : x9_1 < (l0_2.length : Int) := od; obtain ⟨ad261, A261_1, c261_1, A261_2, c261_2, e261, hx261_0, hx261_1, hx261_2, hl261_1, hi261_1, hl261_2, hi261_2⟩ := at_T27 HR0_2.out x9_1 p261 q261
      cases e261
      replace hx261_0 := (HB.out.cell (World.block_lt_of_cell? w _ hx261_0)).trans hx261_0; replace hx261_1 := (HB.out.cell (World.block_lt_of_cell? w _ hx261_1)).trans hx261_1; replace hx261_2 := (HB.out.cell (World.block_lt_of_cell? w _ hx261_2)).trans hx261_2; have HR261_1 := am hi261_1; have HC261_1 := am hl261_1; clear hi261_1 hl261_1; have HR261_2 := am hi261_2; have HC261_2 := am hl261_2; clear hi261_2 hl261_2; replace p261 := eq_true p261; replace q261 := eq_true q261
      go_wp2_with (first | ((with_reducible refine gate_dst (N := 5) rfl ?_); refine box_event ?hg (N := 5) ?hd (cs := #[.int .i64 0, .slice none 0 0, .slice none 0 0]) (t := 27) ?hr ?_; (case hd => rfl); (case hg => rfl); (case hr => first | (go_simp; done) | (go_simp; rfl)); intro gb262 hg w9 hbox hb; have BK262 := am (hbox); have GW262 := am ((by rw [hg]; exact (below_size HB.out) : w.heap.size ≤ gb262)); have GE262 := am ((by rw [hg]; exact (below_size HB.out) : w.heap.size ≤ gb262)); replace HB := bs HB hb; clear hb hbox hg; obtain ⟨hcz10_0, hcz10_1, hcz10_2, hfz10_0, hfz10_1, hfz10_2⟩ := blkC3 BK262.out) | ((with_reducible refine gate_callee (f := 18) rfl ?_); refine goesL_ (some 15) rfl rfl Try.func18 (by kernel_rfl) rfl #[.agg #[.int .i64 ((rd_T27 l0_2 x9_1).f0), .slice A261_1 ((rd_T27 l0_2 x9_1).f1).length c261_1, .slice A261_2 ((rd_T27 l0_2 x9_1).f2).length c261_2]] rfl ax ?_; (with_reducible refine (ih k1 (by have := HK1.out; omega) ((rd_T27 l0_2 x9_1).f0) _ _ ((rd_T27 l0_2 x9_1).f1) _ _ ((rd_T27 l0_2 x9_1).f2) t263 _ ?side1 ?side2 ?side3 ?side4 A7.out).mono ?_); (case side1 => exact Kd.C_below HR261_1.out (by repeat (first | (with_reducible first | exact HB.out | apply below_alloc | apply pw_below_drewN | apply below_drew1 | refine below_set ?_ GE262.out) | exact HB.out))); (case side2 => exact HC261_1.out); (case side3 => exact Kd.C_below HR261_2.out (by repeat (first | (with_reducible first | exact HB.out | apply below_alloc | apply pw_below_drewN | apply below_drew1 | refine below_set ?_ GE262.out) | exact HB.out))); (case side4 => exact HC261_2.out); rintro e w11 ⟨rfl, hb⟩; refine ⟨_, rfl, ?_⟩; replace BK262 := am (blk_below (g := gb262) (o := .cells #[.int .i64 ((rd_T27 l0_2 x9_1).f0), .slice A261_1 ((rd_T27 l0_2 x9_1).f1).length c261_1, .slice A261_2 ((rd_T27 l0_2 x9_1).f2).length c261_2] 27 (0, 0)) (by (with_reducible repeat first | apply blk_drewN | apply blk_drew | apply blk_alloc); refine blk_put (cs := #[.int .i64 ((rd_T27 l0_2 x9_1).f0), .slice A261_1 ((rd_T27 l0_2 x9_1).f1).length c261_1, .slice none 0 0]) ?_ 2 _ rfl; (with_reducible repeat first | apply blk_drewN | apply blk_drew | apply blk_alloc); refine blk_put (cs := #[.int .i64 ((rd_T27 l0_2 x9_1).f0), .slice none 0 0, .slice none 0 0]) ?_ 1 _ rfl; (with_reducible repeat first | apply blk_drewN | apply blk_drew | apply blk_alloc); refine blk_put (cs := #[.int .i64 0, .slice none 0 0, .slice none 0 0]) ?_ 0 _ rfl; (with_reducible repeat first | apply blk_drewN | apply blk_drew | apply blk_alloc); exact BK262.out) hb); replace HB := am (below_step (by repeat (first | (with_reducible first | exact HB.out | apply below_alloc | apply pw_below_drewN | apply below_drew1 | refine below_set ?_ GE262.out) | exact HB.out)) hb); (try clear hb); (try clear hb2); (try clear hk); (try clear hi)))
      go_roundg k1
      case measure => have := HK1.out; omega
      case rel => exact ⟨(ji8), (wrap64 (x9_1 + 1)), (by first | rfl | (simp; done) | (simp only [← hji8] <;> (first | rfl | simp)) | (simp [*]; done)), ar, H', ⟨by have := HK1.out; omega⟩, ⟨by exact HB.out⟩⟩
     ·
      rw [if_neg c6] at H; exact absurd H (by simp)
    ·
     rw [if_neg c5] at H; exact absurd H (by simp)
   ·
    rw [if_neg c4] at H; have c4b0 : decide (x9_1 < (l0_2.length : Int)) = false := decide_eq_false c4; clear c4; obtain rfl := Option.some.inj H
    go_wp2
    go_ret
    exact ⟨er, by exact HB.out⟩
-- NOT PRINTED: function 52 (slices_IndexFunc_int_int)

-- NOT PRINTED: function 48 (slices_ContainsFunc_int_int)

/-! ### threshold_level_1: function 49 -/
def threshold_level_1.f (a0 : Int) : Option (Bool) := (threshold_node.f a0).bind fun t264 => (some (!t264))
set_option maxHeartbeats 8000000 in
set_option maxRecDepth 100000 in
theorem threshold_level_1.calls (a0 : Int) (r : Bool) (w : World) (h : threshold_level_1.f a0 = some r) :
    Calls Try.prog 49 #[.int .i64 a0] w fun e w' => e = .returned (.bool r) ∧ Drawn0 w w' := by
 have H : ((threshold_node.f a0).bind fun t264 => (some (!t264))) = some r := h; clear h; replace H := Option.bind_eq_some_iff.mp H; obtain ⟨t264, A20, H⟩ := H; replace H : (some (!t264)) = some r := H; have A2 := am A20; clear A20; obtain rfl := Option.some.inj H
 go_enter Try.func49, Try.ntmps49
 go_wp2_with (first | ((with_reducible refine gate_callee (f := 35) rfl ?_); refine goesL_ (some 4) rfl rfl Try.func35 (by kernel_rfl) rfl #[.int .i64 a0] rfl ax ?_; (with_reducible refine (threshold_node.calls a0 t264 _ A2.out).mono ?_); rintro e w' ⟨rfl, ⟨nd, rfl⟩⟩; refine ⟨_, rfl, ?_⟩))
 go_ret
 exact ⟨by first | rfl | (simp; done) | (simp [*]; done) | (refine congrArg (Value.int .i64) ?_; unfold wrap64; omega), by repeat (first | exact Drawn0.refl _ | apply Drawn0.step)⟩
/-! ### nodeset_Of: function 50 -/
mutual
def nodeset_Of.l0 : Nat → Int → List Int → Int → Int → Option (Int × Int)
  | 0, _, _, _, _ => none
  | k + 1, x4, x7, x8, x9 => if x9 < x8 then (if 0 ≤ x9 then (if x9 < (x7.length : Int) then (if (rd x7 x9) < 0 then (nodeset_Of.j1 k x4 (rd x7 x9) x7 x8 x9 true) else (nodeset_Of.j1 k x4 (rd x7 x9) x7 x8 x9 (decide ((rd x7 x9) ≥ 10)))) else (none)) else (none)) else (some (x4, 0))
def nodeset_Of.j1 : Nat → Int → Int → List Int → Int → Int → Bool → Option (Int × Int)
  | 0, _, _, _, _, _, _ => none
  | k + 1, x4, x6, x7, x8, x9, x18 => if x18 = true then (some (0, 5)) else ((nodeset_Has.f x4 x6).bind fun t266 => (if t266 = true then (some (0, 6)) else (if 0 ≤ x6 then (nodeset_Of.l0 k (Go.bits .or .i64 x4 (shl .i64 1 x6)) x7 x8 (wrap64 (x9 + 1))) else (none))))
end
def nodeset_Of.f (k : Nat) (l0 : List Int) : Option (Int × Int) := nodeset_Of.l0 k 0 l0 (l0.length : Int) 0
theorem nodeset_Of.mono_l : ∀ k, (∀ y0 y1 y2 y3, LeO (nodeset_Of.l0 k y0 y1 y2 y3) (nodeset_Of.l0 (k + 1) y0 y1 y2 y3)) ∧ (∀ y0 y1 y2 y3 y4 y5, LeO (nodeset_Of.j1 k y0 y1 y2 y3 y4 y5) (nodeset_Of.j1 (k + 1) y0 y1 y2 y3 y4 y5))
  | 0 => ⟨fun _ _ _ _ r h => by simp [nodeset_Of.l0] at h, fun _ _ _ _ _ _ r h => by simp [nodeset_Of.j1] at h⟩
  | k + 1 => by
    obtain ⟨ih0, ih1⟩ := nodeset_Of.mono_l k
    refine ⟨?_, ?_⟩
    · intro y0 y1 y2 y3
      unfold nodeset_Of.l0
      repeat' first
      | (with_reducible exact ih0 _ _ _ _)
      | (with_reducible exact ih1 _ _ _ _ _ _)
      | (with_reducible exact LeO.refl _)
      | (with_reducible exact LeO.none _)
      | (with_reducible refine LeO.ite ?_ ?_)
      | (with_reducible refine LeO.bind ?_ (fun _ => ?_))
      | exact ih0 _ _ _ _
      | exact ih1 _ _ _ _ _ _
      | exact LeO.none _
      | refine LeO.ite ?_ ?_
      | refine LeO.bind ?_ (fun _ => ?_)
    · intro y0 y1 y2 y3 y4 y5
      unfold nodeset_Of.j1
      repeat' first
      | (with_reducible exact ih0 _ _ _ _)
      | (with_reducible exact ih1 _ _ _ _ _ _)
      | (with_reducible exact LeO.refl _)
      | (with_reducible exact LeO.none _)
      | (with_reducible refine LeO.ite ?_ ?_)
      | (with_reducible refine LeO.bind ?_ (fun _ => ?_))
      | exact ih0 _ _ _ _
      | exact ih1 _ _ _ _ _ _
      | exact LeO.none _
      | refine LeO.ite ?_ ?_
      | refine LeO.bind ?_ (fun _ => ?_)
theorem nodeset_Of.mono : ∀ a0 k, LeO (nodeset_Of.f k a0) (nodeset_Of.f (k + 1) a0) := by
  intro a0 k
  obtain ⟨ih0, ih1⟩ := nodeset_Of.mono_l k
  unfold nodeset_Of.f
  repeat' first
      | (with_reducible exact ih0 _ _ _ _)
      | (with_reducible exact ih1 _ _ _ _ _ _)
      | (with_reducible exact LeO.refl _)
      | (with_reducible exact LeO.none _)
      | (with_reducible refine LeO.ite ?_ ?_)
      | (with_reducible refine LeO.bind ?_ (fun _ => ?_))
      | exact ih0 _ _ _ _
      | exact ih1 _ _ _ _ _ _
      | exact LeO.none _
      | refine LeO.ite ?_ ?_
      | refine LeO.bind ?_ (fun _ => ?_)
set_option maxHeartbeats 8000000 in
set_option maxRecDepth 100000 in
theorem nodeset_Of.calls (k : Nat) (A0 : Option Addr) (c0 : Nat) (l0 : List Int) (r1 : Int) (r2 : Int) (w : World) (hr0 : Kd.C (Kd.int .i64) w A0 l0.length l0) (hc0 : l0.length ≤ c0) (h : nodeset_Of.f k l0 = some (r1, r2)) :
    Calls Try.prog 50 #[.slice A0 l0.length c0] w fun e w' => e = .returned (.tuple #[.int .i64 r1, .int .i64 r2]) ∧ Drawn0 w w' := by
 have HR0 := am hr0; have HC0 := am hc0; clear hr0 hc0; have H : (nodeset_Of.l0 k 0 l0 (l0.length : Int) 0) = some (r1, r2) := h; clear h; have H' := am H; clear H
 go_enter Try.func50, Try.ntmps50
 go_wp2
 go_loopg [4, 9] k (fun kq v4 v9 w' => ∃ (x4_1 : Int) (x9_1 : Int), v4 = .int .i64 x4_1 ∧ v9 = .int .i64 x9_1 ∧ Aside0 (nodeset_Of.l0 kq x4_1 l0 (l0.length : Int) x9_1 = some (r1, r2)) ∧ Aside0 (kq ≤ k) ∧ Drawn0 w w')
 case atStart => exact ⟨(0), (0), ar, ar, H', ⟨Nat.le_refl _⟩, by repeat (first | exact Drawn0.refl _ | apply Drawn0.step)⟩
 case round =>
  clear H'; obtain ⟨x4_1, x9_1, rfl, rfl, HA, HK1, ⟨m1, rfl⟩⟩ := hrel
  cases gk with
  | zero => exact absurd HA.out (by simp [nodeset_Of.l0])
  | succ k1 =>
   have H := HA.out; clear HA; simp only [nodeset_Of.l0] at H
   by_cases c2 : x9_1 < (l0.length : Int)
   ·
    rw [if_pos c2] at H; have c2b0 : decide (x9_1 < (l0.length : Int)) = true := decide_eq_true c2; clear c2
    by_cases c3 : 0 ≤ x9_1
    ·
     rw [if_pos c3] at H; have c3b0 : decide (0 ≤ x9_1) = true := decide_eq_true c3; clear c3
     by_cases c4 : x9_1 < (l0.length : Int)
     ·
      rw [if_pos c4] at H; have c4b0 : decide (x9_1 < (l0.length : Int)) = true := decide_eq_true c4; clear c4; have HC5 := am H; clear H; have p265 : 0 ≤ (x9_1 : Int) := od; have q265 : x9_1 < (l0.length : Int) := od; obtain ⟨ad265, e265, hx265_0⟩ := Kd.at_int HR0.out x9_1 p265 q265
      cases e265
      replace p265 := eq_true p265; replace q265 := eq_true q265
      go_upto_region 5 with (fail)
      go_cut [18] (fun v18 wc => ∃ (kq : Nat) (x18_4 : Bool), v18 = .bool x18_4 ∧ Aside0 (nodeset_Of.j1 kq x4_1 (rd l0 x9_1) l0 (l0.length : Int) x9_1 x18_4 = some (r1, r2)) ∧ Aside0 (kq ≤ k1) ∧ Drawn0 w wc)
      case first =>
       have H := HC5.out; clear HC5
       by_cases c6 : (rd l0 x9_1) < 0
       ·
        rw [if_pos c6] at H; have c6b0 : decide ((rd l0 x9_1) < 0) = true := decide_eq_true c6; clear c6; (first | rw [c6b0] | (simp only [i64_w, i32_w]; rw [c6b0]) | skip); have H' := am H; clear H
        go_wp2
        go_meet
        case rel => exact ⟨_, (true), ar, H', ⟨by have := HK1.out; first | omega | exact Nat.le_refl _⟩, by repeat (first | exact Drawn0.refl _ | apply Drawn0.step)⟩
       ·
        rw [if_neg c6] at H; have c6b0 : decide ((rd l0 x9_1) < 0) = false := decide_eq_false c6; clear c6; (first | rw [c6b0] | (simp only [i64_w, i32_w]; rw [c6b0]) | skip); have H' := am H; clear H
        go_wp2
        go_meet
        case rel => exact ⟨_, (decide ((rd l0 x9_1) ≥ 10)), ar, H', ⟨by have := HK1.out; first | omega | exact Nat.le_refl _⟩, by repeat (first | exact Drawn0.refl _ | apply Drawn0.step)⟩
      case rest =>
       clear HC5; (try clear c2); (try clear c2b0); (try clear p2); (try clear q2); (try clear hx2); (try clear c3); (try clear c3b0); (try clear c4); (try clear c4b0); (try clear c5); (try clear c6); (try clear c6b0); (try clear p6); (try clear hx265_0); (try clear p265); (try clear q265); obtain ⟨kq, x18_4, rfl, HA, HJ4, ⟨mc4, rfl⟩⟩ := hcut
       cases kq with
       | zero => exact absurd HA.out (by simp [nodeset_Of.j1])
       | succ kj4 =>
        have H := HA.out; clear HA; simp only [nodeset_Of.j1] at H
        by_cases c7 : x18_4 = true
        ·
         subst c7; have H1 : (some (0, 5)) = some (r1, r2) := by rw [if_pos rfl] at H; exact H
         clear H; have H := H1; clear H1; simp only [Option.some.injEq, Prod.mk.injEq] at H; obtain ⟨rfl, rfl⟩ := H
         go_wp2
         go_ret2
         exact ⟨by first | rfl | (simp; done) | (simp [*]; done) | (refine congrArg (Value.int .i64) ?_; unfold wrap64; omega), by repeat (first | exact Drawn0.refl _ | apply Drawn0.step)⟩
        ·
         replace c7 := Bool.eq_false_iff.mpr c7; subst c7; have H1 : ((nodeset_Has.f x4_1 (rd l0 x9_1)).bind fun t266 => (if t266 = true then (some (0, 6)) else (if 0 ≤ (rd l0 x9_1) then (nodeset_Of.l0 kj4 (Go.bits .or .i64 x4_1 (shl .i64 1 (rd l0 x9_1))) l0 (l0.length : Int) (wrap64 (x9_1 + 1))) else (none)))) = some (r1, r2) := by rw [if_neg (show ¬ (false = true) by decide)] at H; exact H
         clear H; have H := H1; clear H1; replace H := Option.bind_eq_some_iff.mp H; obtain ⟨t266, A80, H⟩ := H; replace H : (if t266 = true then (some (0, 6)) else (if 0 ≤ (rd l0 x9_1) then (nodeset_Of.l0 kj4 (Go.bits .or .i64 x4_1 (shl .i64 1 (rd l0 x9_1))) l0 (l0.length : Int) (wrap64 (x9_1 + 1))) else (none))) = some (r1, r2) := H; have A8 := am A80; clear A80
         by_cases c9 : t266 = true
         ·
          subst c9; have H1 : (some (0, 6)) = some (r1, r2) := by rw [if_pos rfl] at H; exact H
          clear H; have H := H1; clear H1; simp only [Option.some.injEq, Prod.mk.injEq] at H; obtain ⟨rfl, rfl⟩ := H
          go_wp2_with (first | ((with_reducible refine gate_callee (f := 34) rfl ?_); refine goesL_ (some 21) rfl rfl Try.func34 (by kernel_rfl) rfl #[.int .i64 x4_1, .int .i64 (rd l0 x9_1)] rfl ax ?_; (with_reducible refine (nodeset_Has.calls x4_1 (rd l0 x9_1) true _ A8.out).mono ?_); rintro e w' ⟨rfl, ⟨nd, rfl⟩⟩; refine ⟨_, rfl, ?_⟩))
          go_ret2
          exact ⟨by first | rfl | (simp; done) | (simp [*]; done) | (refine congrArg (Value.int .i64) ?_; unfold wrap64; omega), by repeat (first | exact Drawn0.refl _ | apply Drawn0.step)⟩
         ·
          replace c9 := Bool.eq_false_iff.mpr c9; subst c9; have H1 : (if 0 ≤ (rd l0 x9_1) then (nodeset_Of.l0 kj4 (Go.bits .or .i64 x4_1 (shl .i64 1 (rd l0 x9_1))) l0 (l0.length : Int) (wrap64 (x9_1 + 1))) else (none)) = some (r1, r2) := by rw [if_neg (show ¬ (false = true) by decide)] at H; exact H
          clear H; have H := H1; clear H1
          by_cases c10 : 0 ≤ (rd l0 x9_1)
          ·
           rw [if_pos c10] at H; have c10b0 := eq_true c10; have c10b1 : decide (0 ≤ (rd l0 x9_1)) = true := decide_eq_true c10; clear c10; obtain ⟨ji11, hji11⟩ : ∃ j_ : Int, (shl .i64 1 (rd l0 x9_1)) = j_ := ⟨_, rfl⟩; replace H : (nodeset_Of.l0 kj4 (Go.bits .or .i64 x4_1 (ji11)) l0 (l0.length : Int) (wrap64 (x9_1 + 1))) = some (r1, r2) := by first | (rw [hji11] at H; exact H) | (simp only [hji11] at H ⊢; exact H)
           (try rw [hji11] at A8); have hji11_ : (IntKind.i64.wrap (1 * 2 ^ min (rd l0 x9_1).toNat 64)) = ji11 := hji11; have hji11z : (rd l0 x9_1) ≤ 64 → (IntKind.i64.wrap (1 * 2 ^ (rd l0 x9_1).toNat)) = ji11 := shl_small hji11; have hji11u : (IntKind.i64.wrap (2 ^ min (rd l0 x9_1).toNat 64)) = ji11 := by have h_ := hji11_; rw [Int.one_mul] at h_; exact h_
           have hji11v : (rd l0 x9_1) ≤ 64 → (IntKind.i64.wrap (2 ^ (rd l0 x9_1).toNat)) = ji11 := fun hle_ => by have h_ := hji11z hle_; rw [Int.one_mul] at h_; exact h_
           have hji11y : (wrap64 (1 * 2 ^ min (rd l0 x9_1).toNat 64)) = ji11 := (i64_w _).symm.trans hji11_; have hji11x : (rd l0 x9_1) ≤ 64 → (wrap64 (1 * 2 ^ (rd l0 x9_1).toNat)) = ji11 := fun h_ => (i64_w _).symm.trans (hji11z h_); have H' := am H; clear H
           go_wp2_with (first | ((with_reducible refine gate_callee (f := 34) rfl ?_); refine goesL_ (some 21) rfl rfl Try.func34 (by kernel_rfl) rfl #[.int .i64 x4_1, .int .i64 (rd l0 x9_1)] rfl ax ?_; (with_reducible refine (nodeset_Has.calls x4_1 (rd l0 x9_1) false _ A8.out).mono ?_); rintro e w' ⟨rfl, ⟨nd, rfl⟩⟩; refine ⟨_, rfl, ?_⟩))
           go_roundg kj4
           case measure => have := HK1.out; have := HJ4.out; omega
           case rel => exact ⟨(Go.bits .or .i64 x4_1 (ji11)), (wrap64 (x9_1 + 1)), (by first | rfl | (simp; done) | (simp only [← hji11] <;> (first | rfl | simp)) | (simp [*]; done)), ar, H', ⟨by have := HK1.out; have := HJ4.out; omega⟩, by repeat (first | exact Drawn0.refl _ | apply Drawn0.step)⟩
          ·
           rw [if_neg c10] at H; exact absurd H (by simp)
     ·
      rw [if_neg c4] at H; exact absurd H (by simp)
    ·
     rw [if_neg c3] at H; exact absurd H (by simp)
   ·
    rw [if_neg c2] at H; have c2b0 : decide (x9_1 < (l0.length : Int)) = false := decide_eq_false c2; clear c2; simp only [Option.some.injEq, Prod.mk.injEq] at H; obtain ⟨rfl, rfl⟩ := H
    go_wp2
    go_ret2
    exact ⟨by first | rfl | (simp; done) | (simp [*]; done) | (refine congrArg (Value.int .i64) ?_; unfold wrap64; omega), by repeat (first | exact Drawn0.refl _ | apply Drawn0.step)⟩
end Go.Proofs.Yteljoemeogeidaa.QThresholdAnswers
