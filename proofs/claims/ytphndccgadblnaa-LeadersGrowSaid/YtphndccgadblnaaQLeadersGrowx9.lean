/- Lean functions that answer as the Go functions do which the law reaches, and proofs that the Go code comes to exactly these answers. Conditions: those that each theorem names. -/
import Derived.Test.YtphndccgadblnaaQLeadersGrowx0
import Derived.Test.YtphndccgadblnaaQLeadersGrowx2
import Derived.Test.YtphndccgadblnaaQLeadersGrowx5
import Derived.Test.YtphndccgadblnaaQLeadersGrowx8
namespace Go.Proofs.Ytphndccgadblnaa.QLeadersGrow
open Go.RowKit Go.Proofs.YtphndccgadblnaaW.PrintWords Go.Proofs.YtphndccgadblnaaW.PrintLast Go.Proofs.YtphndccgadblnaaW.PrintMore
attribute [local go_sem] max2_int min2_int max_two min_two max_three min_three max_four min_four   -- for this text's walks alone
set_option linter.unusedVariables false
set_option linter.unusedSimpArgs false

/-! ### leaders_Leaders: function 19 -/
def leaders_Leaders.l0 : Nat → Int → Int → Int → Int → Int → Int → List Int → List (S27) → Option (Int × Int)
  | 0, _, _, _, _, _, _, _, _ => none
  | k + 1, x1, x2, x11, x21, x22, x279000, x279001, x279002 => if x22 < x21 then ((leaders_choose.f k x279000 x279001 x279002 x1 x2 (wrap64 (x22 + 1))).bind fun t280 => (if 0 ≤ t280 then (leaders_Leaders.l0 k x1 x2 (Go.bits .or .i64 x11 (shl .i64 1 t280)) x21 (wrap64 (x22 + 1)) x279000 x279001 x279002) else (none))) else (some (x11, 0))
def leaders_Leaders.f (k : Nat) (a0_0 : Int) (l0_1 : List Int) (l0_2 : List (S27)) (a1 : Int) (a2 : Int) (a3 : Int) : Option (Int × Int) := (leaders_asked.f k a0_0 l0_1 l0_2 a1 a2 a3).bind fun t279 => (if t279 = 0 then (leaders_Leaders.l0 k a1 a2 0 a3 0 a0_0 l0_1 l0_2) else (some (0, t279)))
theorem leaders_Leaders.mono_l : ∀ k, (∀ y0 y1 y2 y3 y4 y5 y6 y7, LeO (leaders_Leaders.l0 k y0 y1 y2 y3 y4 y5 y6 y7) (leaders_Leaders.l0 (k + 1) y0 y1 y2 y3 y4 y5 y6 y7))
  | 0 => fun _ _ _ _ _ _ _ _ r h => by simp [leaders_Leaders.l0] at h
  | k + 1 => by
    have ih0 := leaders_Leaders.mono_l k
    · intro y0 y1 y2 y3 y4 y5 y6 y7
      unfold leaders_Leaders.l0
      repeat' first
      | (with_reducible exact ih0 _ _ _ _ _ _ _ _)
      | (with_reducible exact leaders_asked.mono _ _ _ _ _ _ _)
      | (with_reducible exact leaders_choose.mono _ _ _ _ _ _ _)
      | (with_reducible exact LeO.refl _)
      | (with_reducible exact LeO.none _)
      | (with_reducible refine LeO.ite ?_ ?_)
      | (with_reducible refine LeO.bind ?_ (fun _ => ?_))
      | exact ih0 _ _ _ _ _ _ _ _
      | exact leaders_asked.mono _ _ _ _ _ _ _
      | exact leaders_choose.mono _ _ _ _ _ _ _
      | exact LeO.none _
      | refine LeO.ite ?_ ?_
      | refine LeO.bind ?_ (fun _ => ?_)
theorem leaders_Leaders.mono : ∀ a0 a1 a2 a3 a4 a5 k, LeO (leaders_Leaders.f k a0 a1 a2 a3 a4 a5) (leaders_Leaders.f (k + 1) a0 a1 a2 a3 a4 a5) := by
  intro a0 a1 a2 a3 a4 a5 k
  have ih0 := leaders_Leaders.mono_l k
  unfold leaders_Leaders.f
  repeat' first
      | (with_reducible exact ih0 _ _ _ _ _ _ _ _)
      | (with_reducible exact leaders_asked.mono _ _ _ _ _ _ _)
      | (with_reducible exact leaders_choose.mono _ _ _ _ _ _ _)
      | (with_reducible exact LeO.refl _)
      | (with_reducible exact LeO.none _)
      | (with_reducible refine LeO.ite ?_ ?_)
      | (with_reducible refine LeO.bind ?_ (fun _ => ?_))
      | exact ih0 _ _ _ _ _ _ _ _
      | exact leaders_asked.mono _ _ _ _ _ _ _
      | exact leaders_choose.mono _ _ _ _ _ _ _
      | exact LeO.none _
      | refine LeO.ite ?_ ?_
      | refine LeO.bind ?_ (fun _ => ?_)
set_option maxHeartbeats 8000000 in
set_option maxRecDepth 100000 in
theorem leaders_Leaders.calls (k : Nat) (a0_0 : Int) (A0_1 : Option Addr) (c0_1 : Nat) (l0_1 : List Int) (A0_2 : Option Addr) (c0_2 : Nat) (l0_2 : List (S27)) (a1 : Int) (a2 : Int) (a3 : Int) (r1 : Int) (r2 : Int) (w : World) (hr0_1 : Kd.C (Kd.int .i64) w A0_1 l0_1.length l0_1) (hc0_1 : l0_1.length ≤ c0_1) (hr0_2 : Kd.C k27 w A0_2 l0_2.length l0_2) (hc0_2 : l0_2.length ≤ c0_2) (h : leaders_Leaders.f k a0_0 l0_1 l0_2 a1 a2 a3 = some (r1, r2)) :
    Calls Try.prog 19 #[.agg #[.int .i64 a0_0, .slice A0_1 l0_1.length c0_1, .slice A0_2 l0_2.length c0_2], .int .i64 a1, .int .i64 a2, .int .i64 a3] w fun e w' => e = .returned (.tuple #[.int .i64 r1, .int .i64 r2]) ∧ Below w.heap.size w w' := by
  have hu27 := Try.underlying27
  have HR0_1 := Aside0.mk hr0_1
  have HC0_1 := Aside0.mk hc0_1
  clear hr0_1 hc0_1
  have HR0_2 := Aside0.mk hr0_2
  have HC0_2 := Aside0.mk hc0_2
  clear hr0_2 hc0_2
  have HB := Aside0.mk (Below.refl w.heap.size w)
  have H : ((leaders_asked.f k a0_0 l0_1 l0_2 a1 a2 a3).bind fun t279 => (if t279 = 0 then (leaders_Leaders.l0 k a1 a2 0 a3 0 a0_0 l0_1 l0_2) else (some (0, t279)))) = some (r1, r2) := h
  clear h
  replace H := Option.bind_eq_some_iff.mp H
  obtain ⟨t279, A50, H⟩ := H
  replace H : (if t279 = 0 then (leaders_Leaders.l0 k a1 a2 0 a3 0 a0_0 l0_1 l0_2) else (some (0, t279))) = some (r1, r2) := H
  have A5 := Aside0.mk A50
  clear A50
  by_cases c6 : t279 = 0
  · rw [if_pos c6] at H
    have c6b0 : (t279 == 0) = true := beq_iff_eq.mpr c6
    have c6b1 : (t279 != 0) = false := bne_eq_false_iff_eq.mpr c6
    clear c6
    have H' := Aside0.mk H
    clear H
    go_enter Try.func19, Try.ntmps19
    go_wp2_with (first | ((with_reducible refine gate_dst (N := 4) rfl ?_); refine box_event ?hg (N := 4) ?hd (cs := #[.int .i64 a0_0, .slice A0_1 l0_1.length c0_1, .slice A0_2 l0_2.length c0_2]) (t := 27) ?hr ?_; (case hd => rfl); (case hg => rfl); (case hr => first | (go_simp; done) | (go_simp; rfl)); intro gb278 hg w7 hbox hb; have n0_ := Aside0.mk (below_step (by repeat (first | (with_reducible first | exact HB.out | apply below_alloc | apply pw_below_drewN | apply below_drew1) | exact HB.out)) hb); have n1_ := Aside0.mk (hbox); have n2_ := Aside0.mk ((by rw [hg]; exact (below_size (by repeat (first | (with_reducible first | exact HB.out | apply below_alloc | apply pw_below_drewN | apply below_drew1) | exact HB.out))) : w.heap.size ≤ gb278)); have n3_ := Aside0.mk ((by rw [hg]; exact (below_size (by repeat (first | (with_reducible first | exact HB.out | apply below_alloc | apply pw_below_drewN | apply below_drew1) | exact HB.out))) : w.heap.size ≤ gb278)); clear HB; have HB := n0_; have BK278 := n1_; have GW278 := n2_; have GE278 := n3_; clear n0_ n1_ n2_ n3_; clear hb hbox hg; have hcz8_0 : w7.cell? ⟨gb278, 0, none⟩ = some (.int .i64 a0_0) := (blk_cell BK278.out 0).trans rfl; have hcz8_1 : w7.cell? ⟨gb278, 1, none⟩ = some (.slice A0_1 l0_1.length c0_1) := (blk_cell BK278.out 1).trans rfl; have hcz8_2 : w7.cell? ⟨gb278, 2, none⟩ = some (.slice A0_2 l0_2.length c0_2) := (blk_cell BK278.out 2).trans rfl; have hfz8_0 := blk_frozen BK278.out 0; have hfz8_1 := blk_frozen BK278.out 1; have hfz8_2 := blk_frozen BK278.out 2) | ((with_reducible refine gate_callee (f := 38) rfl ?_); refine goesL_ (some 17) rfl rfl Try.func38 (by kernel_rfl) rfl #[.agg #[.int .i64 a0_0, .slice A0_1 l0_1.length c0_1, .slice A0_2 l0_2.length c0_2], .int .i64 a1, .int .i64 a2, .int .i64 a3] rfl (by (try simp only [List.map_toArray, List.map_cons, List.map_nil]); first | done | rfl | (simp only [List.length_drop, List.length_take]; rfl)) ?_; (with_reducible refine (leaders_asked.calls k a0_0 _ _ l0_1 _ _ l0_2 a1 a2 a3 t279 _ ?side1 ?side2 ?side3 ?side4 A5.out).mono ?_); (case side1 => repeat (first | exact (Kd.C_below HR0_1.out HB.out) | (with_reducible refine Kd.C_alloc ?_ _) | (with_reducible refine Kd.C_drewN ?_ _) | (with_reducible refine Kd.C_drew ?_))); (case side2 => exact HC0_1.out); (case side3 => repeat (first | exact (Kd.C_below HR0_2.out HB.out) | (with_reducible refine Kd.C_alloc ?_ _) | (with_reducible refine Kd.C_drewN ?_ _) | (with_reducible refine Kd.C_drew ?_))); (case side4 => exact HC0_2.out); rintro e w9 ⟨rfl, hb⟩; refine ⟨_, rfl, ?_⟩; have n0_ := Aside0.mk (blk_below (g := gb278) (o := .cells #[.int .i64 a0_0, .slice A0_1 l0_1.length c0_1, .slice A0_2 l0_2.length c0_2] 27 (0, 0)) (by (with_reducible repeat (first | refine blk_drewN ?_ _ | refine blk_drew ?_ | refine blk_alloc ?_ _)); exact BK278.out) hb); have n1_ := Aside0.mk (below_step (by repeat (first | (with_reducible first | exact HB.out | apply below_alloc | apply pw_below_drewN | apply below_drew1 | refine below_set ?_ GE278.out) | exact HB.out)) hb); clear BK278; clear HB; have BK278 := n0_; have HB := n1_; clear n0_ n1_; (try clear hb); (try clear hb2); (try clear hk); (try clear hi)))
    go_loopg [11, 22] k (fun kq v11 v22 w' => ∃ (x11_1 : Int) (x22_1 : Int), v11 = .int .i64 x11_1 ∧ v22 = .int .i64 x22_1 ∧ Aside0 (leaders_Leaders.l0 kq a1 a2 x11_1 a3 x22_1 a0_0 l0_1 l0_2 = some (r1, r2)) ∧ Aside0 (kq ≤ k) ∧ Aside0 (w'.heap[gb278]? = some (.cells #[.int .i64 a0_0, (.slice A0_1 l0_1.length c0_1), (.slice A0_2 l0_2.length c0_2)] 27 (0, 0))) ∧ Aside0 (Below w.heap.size w w'))
    case atStart => exact ⟨(0), (0), (by first | rfl | (simp; done) | (simp [*]; done)), (by first | rfl | (simp; done) | (simp [*]; done)), H', ⟨Nat.le_refl _⟩, ⟨by (with_reducible repeat (first | refine blk_drewN ?_ _ | refine blk_drew ?_ | refine blk_alloc ?_ _)); exact BK278.out⟩, ⟨by repeat (first | (with_reducible first | exact HB.out | apply below_alloc | apply pw_below_drewN | apply below_drew1 | refine below_set ?_ GE278.out) | exact HB.out)⟩⟩
    case round =>
      clear H'
      try clear c1
      try clear p2
      try clear c3
      try clear c6
      try clear c6b0
      try clear c6b1
      try clear hcz8_0
      try clear hcz8_1
      try clear hcz8_2
      try clear hfz8_0
      try clear hfz8_1
      try clear hfz8_2
      obtain ⟨x11_1, x22_1, rfl, rfl, HA, HK1, BK278, HB⟩ := hrel
      cases gk with
      | zero => exact absurd HA.out (by simp [leaders_Leaders.l0])
      | succ k1 =>
        have H := HA.out
        clear HA
        simp only [leaders_Leaders.l0] at H
        by_cases c10 : x22_1 < a3
        · rw [if_pos c10] at H
          have c10b0 : decide (x22_1 < a3) = true := decide_eq_true c10
          clear c10
          replace H := Option.bind_eq_some_iff.mp H
          obtain ⟨t280, A110, H⟩ := H
          replace H : (if 0 ≤ t280 then (leaders_Leaders.l0 k1 a1 a2 (Go.bits .or .i64 x11_1 (shl .i64 1 t280)) a3 (wrap64 (x22_1 + 1)) a0_0 l0_1 l0_2) else (none)) = some (r1, r2) := H
          have A11 := Aside0.mk A110
          clear A110
          by_cases c12 : 0 ≤ t280
          · rw [if_pos c12] at H
            have c12b0 := eq_true c12
            have c12b1 : decide (0 ≤ t280) = true := decide_eq_true c12
            clear c12
            obtain ⟨ji13, hji13⟩ : ∃ j_ : Int, (shl .i64 1 t280) = j_ := ⟨_, rfl⟩
            replace H : (leaders_Leaders.l0 k1 a1 a2 (Go.bits .or .i64 x11_1 (ji13)) a3 (wrap64 (x22_1 + 1)) a0_0 l0_1 l0_2) = some (r1, r2) := by first | (rw [hji13] at H; exact H) | (simp only [hji13] at H ⊢; exact H)
            (try rw [hji13] at A11)
            have hji13_ : (IntKind.i64.wrap (1 * 2 ^ min t280.toNat 64)) = ji13 := hji13
            have hji13z : t280 ≤ 64 → (IntKind.i64.wrap (1 * 2 ^ t280.toNat)) = ji13 := shl_small hji13
            have hji13u : (IntKind.i64.wrap (2 ^ min t280.toNat 64)) = ji13 := by have h_ := hji13_; rw [Int.one_mul] at h_; exact h_
            have hji13v : t280 ≤ 64 → (IntKind.i64.wrap (2 ^ t280.toNat)) = ji13 := fun hle_ => by have h_ := hji13z hle_; rw [Int.one_mul] at h_; exact h_
            have hji13y : (wrap64 (1 * 2 ^ min t280.toNat 64)) = ji13 := (i64_w _).symm.trans hji13_
            have hji13x : t280 ≤ 64 → (wrap64 (1 * 2 ^ t280.toNat)) = ji13 := fun h_ => (i64_w _).symm.trans (hji13z h_)
            have H' := Aside0.mk H
            clear H
            have hcz14_0 : wr.cell? ⟨gb278, 0, none⟩ = some (.int .i64 a0_0) := (blk_cell BK278.out 0).trans rfl
            have hcz14_1 : wr.cell? ⟨gb278, 1, none⟩ = some (.slice A0_1 l0_1.length c0_1) := (blk_cell BK278.out 1).trans rfl
            have hcz14_2 : wr.cell? ⟨gb278, 2, none⟩ = some (.slice A0_2 l0_2.length c0_2) := (blk_cell BK278.out 2).trans rfl
            have hfz14_0 := blk_frozen BK278.out 0
            have hfz14_1 := blk_frozen BK278.out 1
            have hfz14_2 := blk_frozen BK278.out 2
            go_wp2_with (first | ((with_reducible refine gate_callee (f := 40) rfl ?_); refine goesL_ (some 31) rfl rfl Try.func40 (by kernel_rfl) rfl #[.agg #[.int .i64 a0_0, .slice A0_1 l0_1.length c0_1, .slice A0_2 l0_2.length c0_2], .int .i64 a1, .int .i64 a2, .int .i64 (wrap64 (x22_1 + 1))] rfl (by (try simp only [List.map_toArray, List.map_cons, List.map_nil]); first | done | rfl | (simp only [List.length_drop, List.length_take]; rfl)) ?_; (with_reducible refine (leaders_choose.calls k1 a0_0 _ _ l0_1 _ _ l0_2 a1 a2 (wrap64 (x22_1 + 1)) t280 _ ?side1 ?side2 ?side3 ?side4 A11.out).mono ?_); (case side1 => repeat (first | exact (Kd.C_below HR0_1.out HB.out) | (with_reducible refine Kd.C_alloc ?_ _) | (with_reducible refine Kd.C_drewN ?_ _) | (with_reducible refine Kd.C_drew ?_))); (case side2 => exact HC0_1.out); (case side3 => repeat (first | exact (Kd.C_below HR0_2.out HB.out) | (with_reducible refine Kd.C_alloc ?_ _) | (with_reducible refine Kd.C_drewN ?_ _) | (with_reducible refine Kd.C_drew ?_))); (case side4 => exact HC0_2.out); rintro e w15 ⟨rfl, hb⟩; refine ⟨_, rfl, ?_⟩; have n0_ := Aside0.mk (blk_below (g := gb278) (o := .cells #[.int .i64 a0_0, .slice A0_1 l0_1.length c0_1, .slice A0_2 l0_2.length c0_2] 27 (0, 0)) (by (with_reducible repeat (first | refine blk_drewN ?_ _ | refine blk_drew ?_ | refine blk_alloc ?_ _)); exact BK278.out) hb); have n1_ := Aside0.mk (below_step (by repeat (first | (with_reducible first | exact HB.out | apply below_alloc | apply pw_below_drewN | apply below_drew1 | refine below_set ?_ GE278.out) | exact HB.out)) hb); clear BK278; clear HB; have BK278 := n0_; have HB := n1_; clear n0_ n1_; (try clear hb); (try clear hb2); (try clear hk); (try clear hi)))
            go_roundg k1
            case measure => have := HK1.out; omega
            case rel => exact ⟨(Go.bits .or .i64 x11_1 (ji13)), (wrap64 (x22_1 + 1)), (by first | rfl | (simp; done) | (simp only [← hji13] <;> (first | rfl | simp)) | (simp [*]; done)), (by first | rfl | (simp; done) | (simp [*]; done)), H', ⟨by have := HK1.out; omega⟩, ⟨by (with_reducible repeat (first | refine blk_drewN ?_ _ | refine blk_drew ?_ | refine blk_alloc ?_ _)); exact BK278.out⟩, ⟨by repeat (first | (with_reducible first | exact HB.out | apply below_alloc | apply pw_below_drewN | apply below_drew1 | refine below_set ?_ GE278.out) | exact HB.out)⟩⟩
          · rw [if_neg c12] at H
            exact absurd H (by simp)
        · rw [if_neg c10] at H
          have c10b0 : decide (x22_1 < a3) = false := decide_eq_false c10
          clear c10
          simp only [Option.some.injEq, Prod.mk.injEq] at H
          obtain ⟨rfl, rfl⟩ := H
          go_wp2
          go_ret2
          exact ⟨by first | rfl | (simp [errW_none, errW_some] <;> rfl) | (simp [*, errW_none, errW_some] <;> rfl), by repeat (first | (with_reducible first | exact HB.out | apply below_alloc | apply pw_below_drewN | apply below_drew1 | refine below_set ?_ GE278.out) | exact HB.out)⟩
  · rw [if_neg c6] at H
    have c6b0 : (t279 == 0) = false := beq_eq_false_iff_ne.mpr c6
    have c6b1 : (t279 != 0) = true := bne_iff_ne.mpr c6
    simp only [Option.some.injEq, Prod.mk.injEq] at H
    obtain ⟨rfl, rfl⟩ := H
    go_enter Try.func19, Try.ntmps19
    go_wp2_with (first | ((with_reducible refine gate_dst (N := 4) rfl ?_); refine box_event ?hg (N := 4) ?hd (cs := #[.int .i64 a0_0, .slice A0_1 l0_1.length c0_1, .slice A0_2 l0_2.length c0_2]) (t := 27) ?hr ?_; (case hd => rfl); (case hg => rfl); (case hr => first | (go_simp; done) | (go_simp; rfl)); intro gb278 hg w16 hbox hb; have n0_ := Aside0.mk (below_step (by repeat (first | (with_reducible first | exact HB.out | apply below_alloc | apply pw_below_drewN | apply below_drew1) | exact HB.out)) hb); have n1_ := Aside0.mk (hbox); have n2_ := Aside0.mk ((by rw [hg]; exact (below_size (by repeat (first | (with_reducible first | exact HB.out | apply below_alloc | apply pw_below_drewN | apply below_drew1) | exact HB.out))) : w.heap.size ≤ gb278)); have n3_ := Aside0.mk ((by rw [hg]; exact (below_size (by repeat (first | (with_reducible first | exact HB.out | apply below_alloc | apply pw_below_drewN | apply below_drew1) | exact HB.out))) : w.heap.size ≤ gb278)); clear HB; have HB := n0_; have BK278 := n1_; have GW278 := n2_; have GE278 := n3_; clear n0_ n1_ n2_ n3_; clear hb hbox hg; have hcz17_0 : w16.cell? ⟨gb278, 0, none⟩ = some (.int .i64 a0_0) := (blk_cell BK278.out 0).trans rfl; have hcz17_1 : w16.cell? ⟨gb278, 1, none⟩ = some (.slice A0_1 l0_1.length c0_1) := (blk_cell BK278.out 1).trans rfl; have hcz17_2 : w16.cell? ⟨gb278, 2, none⟩ = some (.slice A0_2 l0_2.length c0_2) := (blk_cell BK278.out 2).trans rfl; have hfz17_0 := blk_frozen BK278.out 0; have hfz17_1 := blk_frozen BK278.out 1; have hfz17_2 := blk_frozen BK278.out 2) | ((with_reducible refine gate_callee (f := 38) rfl ?_); refine goesL_ (some 17) rfl rfl Try.func38 (by kernel_rfl) rfl #[.agg #[.int .i64 a0_0, .slice A0_1 l0_1.length c0_1, .slice A0_2 l0_2.length c0_2], .int .i64 a1, .int .i64 a2, .int .i64 a3] rfl (by (try simp only [List.map_toArray, List.map_cons, List.map_nil]); first | done | rfl | (simp only [List.length_drop, List.length_take]; rfl)) ?_; (with_reducible refine (leaders_asked.calls k a0_0 _ _ l0_1 _ _ l0_2 a1 a2 a3 t279 _ ?side1 ?side2 ?side3 ?side4 A5.out).mono ?_); (case side1 => repeat (first | exact (Kd.C_below HR0_1.out HB.out) | (with_reducible refine Kd.C_alloc ?_ _) | (with_reducible refine Kd.C_drewN ?_ _) | (with_reducible refine Kd.C_drew ?_))); (case side2 => exact HC0_1.out); (case side3 => repeat (first | exact (Kd.C_below HR0_2.out HB.out) | (with_reducible refine Kd.C_alloc ?_ _) | (with_reducible refine Kd.C_drewN ?_ _) | (with_reducible refine Kd.C_drew ?_))); (case side4 => exact HC0_2.out); rintro e w18 ⟨rfl, hb⟩; refine ⟨_, rfl, ?_⟩; have n0_ := Aside0.mk (blk_below (g := gb278) (o := .cells #[.int .i64 a0_0, .slice A0_1 l0_1.length c0_1, .slice A0_2 l0_2.length c0_2] 27 (0, 0)) (by (with_reducible repeat (first | refine blk_drewN ?_ _ | refine blk_drew ?_ | refine blk_alloc ?_ _)); exact BK278.out) hb); have n1_ := Aside0.mk (below_step (by repeat (first | (with_reducible first | exact HB.out | apply below_alloc | apply pw_below_drewN | apply below_drew1 | refine below_set ?_ GE278.out) | exact HB.out)) hb); clear BK278; clear HB; have BK278 := n0_; have HB := n1_; clear n0_ n1_; (try clear hb); (try clear hb2); (try clear hk); (try clear hi)))
    go_ret2
    exact ⟨by first | rfl | (simp [errW_none, errW_some] <;> rfl) | (simp [*, errW_none, errW_some] <;> rfl), by repeat (first | (with_reducible first | exact HB.out | apply below_alloc | apply pw_below_drewN | apply below_drew1 | refine below_set ?_ GE278.out) | exact HB.out)⟩

/-! ### trustquorumlaw21_LeadersGrow: function 6 -/
def trustquorumlaw21_LeadersGrow.l0 : Nat → Int → Int → Int → Int → Int → Int → List Int → List (S27) → Option (Bool)
  | 0, _, _, _, _, _, _, _, _ => none
  | k + 1, x5, x6, x7, x8, x9, x295000, x295001, x295002 => if x9 ≤ x7 then ((leaders_Choose.f k x295000 x295001 x295002 x5 x6 x9).bind fun bt302 => ((leaders_Leaders.f k x295000 x295001 x295002 x5 x6 x9).bind fun bt304 => (if bt302.2 = 0 then (if bt304.2 = 0 then (if bt302.1 < 0 then (some false) else (if bt302.1 ≥ 10 then (some false) else (if 0 ≤ bt302.1 then (if bt304.1 = (Go.bits .or .i64 x8 (shl .i64 1 bt302.1)) then (trustquorumlaw21_LeadersGrow.l0 k x5 x6 x7 bt304.1 (wrap64 (x9 + 1)) x295000 x295001 x295002) else (some false)) else (none)))) else (some false)) else (some false)))) else ((trustquorumlaw21_awake.f k).bind fun t301 => (some t301))
def trustquorumlaw21_LeadersGrow.f (k : Nat) (l0 : List Int) : Option (Bool) := (trustquorummake_New.f l0).bind fun bt281 => ((trustquorummake_Tape_Range.f bt281.1 bt281.2 1 10).bind fun bt284 => ((trustquorummake_Trust.f k bt281.1 bt284.2 bt284.1 3).bind fun bt286 => ((trustquorummake_Tape_N.f bt281.1 bt286.2.2.2 10).bind fun bt295 => ((trustquorummake_Tape_N.f bt281.1 bt295.2 1000).bind fun bt297 => ((trustquorummake_Tape_Range.f bt281.1 bt297.2 1 12).bind fun bt299 => (trustquorumlaw21_LeadersGrow.l0 k bt295.1 bt297.1 bt299.1 0 1 bt286.1 bt286.2.1 bt286.2.2.1))))))
theorem trustquorumlaw21_LeadersGrow.mono_l : ∀ k, (∀ y0 y1 y2 y3 y4 y5 y6 y7, LeO (trustquorumlaw21_LeadersGrow.l0 k y0 y1 y2 y3 y4 y5 y6 y7) (trustquorumlaw21_LeadersGrow.l0 (k + 1) y0 y1 y2 y3 y4 y5 y6 y7))
  | 0 => fun _ _ _ _ _ _ _ _ r h => by simp [trustquorumlaw21_LeadersGrow.l0] at h
  | k + 1 => by
    have ih0 := trustquorumlaw21_LeadersGrow.mono_l k
    · intro y0 y1 y2 y3 y4 y5 y6 y7
      unfold trustquorumlaw21_LeadersGrow.l0
      repeat' first
      | (with_reducible exact ih0 _ _ _ _ _ _ _ _)
      | (with_reducible exact leaders_Choose.mono _ _ _ _ _ _ _)
      | (with_reducible exact leaders_Leaders.mono _ _ _ _ _ _ _)
      | (with_reducible exact trustquorumlaw21_awake.mono _)
      | (with_reducible exact trustquorummake_Trust.mono _ _ _ _ _)
      | (with_reducible exact LeO.refl _)
      | (with_reducible exact LeO.none _)
      | (with_reducible refine LeO.ite ?_ ?_)
      | (with_reducible refine LeO.bind ?_ (fun _ => ?_))
      | exact ih0 _ _ _ _ _ _ _ _
      | exact leaders_Choose.mono _ _ _ _ _ _ _
      | exact leaders_Leaders.mono _ _ _ _ _ _ _
      | exact trustquorumlaw21_awake.mono _
      | exact trustquorummake_Trust.mono _ _ _ _ _
      | exact LeO.none _
      | refine LeO.ite ?_ ?_
      | refine LeO.bind ?_ (fun _ => ?_)
theorem trustquorumlaw21_LeadersGrow.mono : ∀ a0 k, LeO (trustquorumlaw21_LeadersGrow.f k a0) (trustquorumlaw21_LeadersGrow.f (k + 1) a0) := by
  intro a0 k
  have ih0 := trustquorumlaw21_LeadersGrow.mono_l k
  unfold trustquorumlaw21_LeadersGrow.f
  repeat' first
      | (with_reducible exact ih0 _ _ _ _ _ _ _ _)
      | (with_reducible exact leaders_Choose.mono _ _ _ _ _ _ _)
      | (with_reducible exact leaders_Leaders.mono _ _ _ _ _ _ _)
      | (with_reducible exact trustquorumlaw21_awake.mono _)
      | (with_reducible exact trustquorummake_Trust.mono _ _ _ _ _)
      | (with_reducible exact LeO.refl _)
      | (with_reducible exact LeO.none _)
      | (with_reducible refine LeO.ite ?_ ?_)
      | (with_reducible refine LeO.bind ?_ (fun _ => ?_))
      | exact ih0 _ _ _ _ _ _ _ _
      | exact leaders_Choose.mono _ _ _ _ _ _ _
      | exact leaders_Leaders.mono _ _ _ _ _ _ _
      | exact trustquorumlaw21_awake.mono _
      | exact trustquorummake_Trust.mono _ _ _ _ _
      | exact LeO.none _
      | refine LeO.ite ?_ ?_
      | refine LeO.bind ?_ (fun _ => ?_)
set_option maxHeartbeats 8000000 in
set_option maxRecDepth 100000 in
theorem trustquorumlaw21_LeadersGrow.calls (k : Nat) (A0 : Option Addr) (c0 : Nat) (l0 : List Int) (r : Bool) (w : World) (hr0 : Kd.C (Kd.int .i64) w A0 l0.length l0) (hc0 : l0.length ≤ c0) (h : trustquorumlaw21_LeadersGrow.f k l0 = some r) :
    Calls Try.prog 6 #[.slice A0 l0.length c0] w fun e w' => e = .returned (.bool r) ∧ Below w.heap.size w w' := by
  have hu27 := Try.underlying27
  have HR0 := Aside0.mk hr0
  have HC0 := Aside0.mk hc0
  clear hr0 hc0
  have HB := Aside0.mk (Below.refl w.heap.size w)
  have H : ((trustquorummake_New.f l0).bind fun bt281 => ((trustquorummake_Tape_Range.f bt281.1 bt281.2 1 10).bind fun bt284 => ((trustquorummake_Trust.f k bt281.1 bt284.2 bt284.1 3).bind fun bt286 => ((trustquorummake_Tape_N.f bt281.1 bt286.2.2.2 10).bind fun bt295 => ((trustquorummake_Tape_N.f bt281.1 bt295.2 1000).bind fun bt297 => ((trustquorummake_Tape_Range.f bt281.1 bt297.2 1 12).bind fun bt299 => (trustquorumlaw21_LeadersGrow.l0 k bt295.1 bt297.1 bt299.1 0 1 bt286.1 bt286.2.1 bt286.2.2.1))))))) = some r := h
  clear h
  replace H := Option.bind_eq_some_iff.mp H
  obtain ⟨⟨t281, t282⟩, A20, H⟩ := H
  replace H : ((trustquorummake_Tape_Range.f t281 t282 1 10).bind fun bt284 => ((trustquorummake_Trust.f k t281 bt284.2 bt284.1 3).bind fun bt286 => ((trustquorummake_Tape_N.f t281 bt286.2.2.2 10).bind fun bt295 => ((trustquorummake_Tape_N.f t281 bt295.2 1000).bind fun bt297 => ((trustquorummake_Tape_Range.f t281 bt297.2 1 12).bind fun bt299 => (trustquorumlaw21_LeadersGrow.l0 k bt295.1 bt297.1 bt299.1 0 1 bt286.1 bt286.2.1 bt286.2.2.1)))))) = some r := H
  have A2 := Aside0.mk A20
  clear A20
  replace H := Option.bind_eq_some_iff.mp H
  obtain ⟨⟨t284, t285⟩, A30, H⟩ := H
  replace H : ((trustquorummake_Trust.f k t281 t285 t284 3).bind fun bt286 => ((trustquorummake_Tape_N.f t281 bt286.2.2.2 10).bind fun bt295 => ((trustquorummake_Tape_N.f t281 bt295.2 1000).bind fun bt297 => ((trustquorummake_Tape_Range.f t281 bt297.2 1 12).bind fun bt299 => (trustquorumlaw21_LeadersGrow.l0 k bt295.1 bt297.1 bt299.1 0 1 bt286.1 bt286.2.1 bt286.2.2.1))))) = some r := H
  have A3 := Aside0.mk A30
  clear A30
  replace H := Option.bind_eq_some_iff.mp H
  obtain ⟨⟨t286, t287, t290, t293⟩, A40, H⟩ := H
  replace H : ((trustquorummake_Tape_N.f t281 t293 10).bind fun bt295 => ((trustquorummake_Tape_N.f t281 bt295.2 1000).bind fun bt297 => ((trustquorummake_Tape_Range.f t281 bt297.2 1 12).bind fun bt299 => (trustquorumlaw21_LeadersGrow.l0 k bt295.1 bt297.1 bt299.1 0 1 t286 t287 t290)))) = some r := H
  have A4 := Aside0.mk A40
  clear A40
  replace H := Option.bind_eq_some_iff.mp H
  obtain ⟨⟨t295, t296⟩, A50, H⟩ := H
  replace H : ((trustquorummake_Tape_N.f t281 t296 1000).bind fun bt297 => ((trustquorummake_Tape_Range.f t281 bt297.2 1 12).bind fun bt299 => (trustquorumlaw21_LeadersGrow.l0 k t295 bt297.1 bt299.1 0 1 t286 t287 t290))) = some r := H
  have A5 := Aside0.mk A50
  clear A50
  replace H := Option.bind_eq_some_iff.mp H
  obtain ⟨⟨t297, t298⟩, A60, H⟩ := H
  replace H : ((trustquorummake_Tape_Range.f t281 t298 1 12).bind fun bt299 => (trustquorumlaw21_LeadersGrow.l0 k t295 t297 bt299.1 0 1 t286 t287 t290)) = some r := H
  have A6 := Aside0.mk A60
  clear A60
  replace H := Option.bind_eq_some_iff.mp H
  obtain ⟨⟨t299, t300⟩, A70, H⟩ := H
  replace H : (trustquorumlaw21_LeadersGrow.l0 k t295 t297 t299 0 1 t286 t287 t290) = some r := H
  have A7 := Aside0.mk A70
  clear A70
  have H' := Aside0.mk H
  clear H
  go_enter Try.func6, Try.ntmps6
  go_wp2_with (first | ((with_reducible refine gate_callee (f := 8) rfl ?_); refine goesL_ (some 15) rfl rfl Try.func8 (by kernel_rfl) rfl #[.slice A0 l0.length c0] rfl (by (try simp only [List.map_toArray, List.map_cons, List.map_nil]); first | done | rfl | (simp only [List.length_drop, List.length_take]; rfl)) ?_; (with_reducible refine (trustquorummake_New.calls _ _ l0 t281 t282 w _ ?side1 ?side2 ?side3 A2.out).mono ?_); (case side1 => repeat (first | (with_reducible first | exact HB.out | apply below_alloc | apply pw_below_drewN | apply below_drew1) | exact HB.out)); (case side2 => exact HR0.out); (case side3 => exact HC0.out); rintro e w8 ⟨g283, rfl, hi, hb, hb2⟩; refine ⟨_, rfl, ?_⟩; have n0_ := Aside0.mk (hb); have n1_ := Aside0.mk (hi); clear HB; have HB := n0_; have HI283 := n1_; clear n0_ n1_; (try clear hb); (try clear hb2); (try clear hk); (try clear hi)) | ((with_reducible refine gate_callee (f := 10) rfl ?_); refine goesL_ (some 18) rfl rfl Try.func10 (by kernel_rfl) rfl #[.pointer (some ⟨g283, 0, none⟩), .int .i64 1, .int .i64 10] rfl (by (try simp only [List.map_toArray, List.map_cons, List.map_nil]); first | done | rfl | (simp only [List.length_drop, List.length_take]; rfl)) ?_; (with_reducible refine (trustquorummake_Tape_Range.calls g283 t281 t282 1 10 t284 t285 w _ ?side1 ?side2 A3.out).mono ?_); (case side1 => repeat (first | (with_reducible first | exact HI283.out | apply IsS62.alloc | apply IsS62.drewN | apply IsS62.drew | apply IsS62.set_1) | exact HI283.out)); (case side2 => repeat (first | (with_reducible first | exact HB.out | apply below_alloc | apply pw_below_drewN | apply below_drew1 | refine below_set ?_ (IsS62.ge HI283.out)) | exact HB.out)); rintro e w9 ⟨rfl, hi, hb, hk⟩; refine ⟨_, rfl, ?_⟩; have n0_ := Aside0.mk (hb); have n1_ := Aside0.mk (hi); clear HB; clear HI283; have HB := n0_; have HI283 := n1_; clear n0_ n1_; (try clear hb); (try clear hb2); (try clear hk); (try clear hi)) | ((with_reducible refine gate_callee (f := 9) rfl ?_); refine goesL_ (some 19) rfl rfl Try.func9 (by kernel_rfl) rfl #[.pointer (some ⟨g283, 0, none⟩), .int .i64 t284, .int .i64 3] rfl (by (try simp only [List.map_toArray, List.map_cons, List.map_nil]); first | done | rfl | (simp only [List.length_drop, List.length_take]; rfl)) ?_; (with_reducible refine (trustquorummake_Trust.calls k g283 t281 t285 t284 3 t286 t287 t290 t293 w _ ?side1 ?side2 A4.out).mono ?_); (case side1 => repeat (first | (with_reducible first | exact HI283.out | apply IsS62.alloc | apply IsS62.drewN | apply IsS62.drew | apply IsS62.set_1) | exact HI283.out)); (case side2 => repeat (first | (with_reducible first | exact HB.out | apply below_alloc | apply pw_below_drewN | apply below_drew1 | refine below_set ?_ (IsS62.ge HI283.out)) | exact HB.out)); rintro e w10 ⟨v288, v291, rfl, ho0, ho1, hi, hb, hk⟩; refine ⟨_, rfl, ?_⟩; have n0_ := Aside0.mk (Kd.R_lower ho0 (below_size (by repeat (first | (with_reducible first | exact HB.out | apply below_alloc | apply pw_below_drewN | apply below_drew1 | refine below_set ?_ (IsS62.ge HI283.out)) | exact HB.out)))); have n1_ := Aside0.mk (Kd.R_lower ho1 (below_size (by repeat (first | (with_reducible first | exact HB.out | apply below_alloc | apply pw_below_drewN | apply below_drew1 | refine below_set ?_ (IsS62.ge HI283.out)) | exact HB.out)))); have n2_ := Aside0.mk (hb); have n3_ := Aside0.mk (hi); clear HB; clear HI283; have HO289 := n0_; have HO292 := n1_; have HB := n2_; have HI283 := n3_; clear n0_ n1_ n2_ n3_; (try clear hb); (try clear hb2); (try clear hk); (try clear hi); (try clear ho0); (try clear ho1)) | ((with_reducible refine gate_dst (N := 4) rfl ?_); refine box_event ?hg (N := 4) ?hd (cs := #[.int .i64 0, .slice none 0 0, .slice none 0 0]) (t := 27) ?hr ?_; (case hd => rfl); (case hg => rfl); (case hr => first | (go_simp; done) | (go_simp; rfl)); intro gb294 hg w11 hbox hb; have n0_ := Aside0.mk (Kd.R_below (by (with_reducible repeat (first | apply Kd.R_alloc | apply Kd.R_drewN | apply Kd.R_drew)); exact HO289.out) hb); have n1_ := Aside0.mk (Kd.R_below (Kd.R_elderB (by (with_reducible repeat (first | apply Kd.R_alloc | apply Kd.R_drewN | apply Kd.R_drew)); exact HO292.out) gb294 (Nat.le_of_eq hg.symm)) hb); have n2_ := Aside0.mk (IsS62.below (by repeat (first | (with_reducible first | exact HI283.out | apply IsS62.alloc | apply IsS62.drewN | apply IsS62.drew | apply IsS62.set_1) | exact HI283.out)) hb); have n3_ := Aside0.mk (below_step (by repeat (first | (with_reducible first | exact HB.out | apply below_alloc | apply pw_below_drewN | apply below_drew1 | refine below_set ?_ (IsS62.ge HI283.out)) | exact HB.out)) hb); have n4_ := Aside0.mk (hbox); have n5_ := Aside0.mk ((by rw [hg]; exact (below_size (by repeat (first | (with_reducible first | exact HB.out | apply below_alloc | apply pw_below_drewN | apply below_drew1 | refine below_set ?_ (IsS62.ge HI283.out)) | exact HB.out))) : w.heap.size ≤ gb294)); have n6_ := Aside0.mk ((by rw [hg]; exact (below_size (by repeat (first | (with_reducible first | exact HB.out | apply below_alloc | apply pw_below_drewN | apply below_drew1 | refine below_set ?_ (IsS62.ge HI283.out)) | exact HB.out))) : w.heap.size ≤ gb294)); have n7_ := Aside0.mk ((by rw [hg]; exact Nat.ne_of_lt (IsS62.lt (show IsS62 w _ g283 t281 t293 from by repeat (first | (with_reducible first | exact HI283.out | apply IsS62.alloc | apply IsS62.drewN | apply IsS62.drew | apply IsS62.set_1) | exact HI283.out))) : g283 ≠ gb294)); have n8_ := Aside0.mk ((by rw [hg]; exact Nat.ne_of_gt (IsS62.lt (show IsS62 w _ g283 t281 t293 from by repeat (first | (with_reducible first | exact HI283.out | apply IsS62.alloc | apply IsS62.drewN | apply IsS62.drew | apply IsS62.set_1) | exact HI283.out))) : gb294 ≠ g283)); clear HO289; clear HO292; clear HI283; clear HB; have HO289 := n0_; have HO292 := n1_; have HI283 := n2_; have HB := n3_; have BK294 := n4_; have GW294 := n5_; have GE294 := n6_; have NB283_294 := n7_; have NB294_283 := n8_; clear n0_ n1_ n2_ n3_ n4_ n5_ n6_ n7_ n8_; clear hb hbox hg; have hnb12 := NB294_283.out; have hnc12 := NB283_294.out; have hcz13_0 : w11.cell? ⟨gb294, 0, none⟩ = some (.int .i64 0) := (blk_cell BK294.out 0).trans rfl; have hcz13_1 : w11.cell? ⟨gb294, 1, none⟩ = some (.slice none 0 0) := (blk_cell BK294.out 1).trans rfl; have hcz13_2 : w11.cell? ⟨gb294, 2, none⟩ = some (.slice none 0 0) := (blk_cell BK294.out 2).trans rfl; have hfz13_0 := blk_frozen BK294.out 0; have hfz13_1 := blk_frozen BK294.out 1; have hfz13_2 := blk_frozen BK294.out 2; obtain ⟨Ao14, co14, eo14⟩ := Kd.R_slice HO289.out; subst eo14; obtain ⟨Ao15, co15, eo15⟩ := Kd.R_slice HO292.out; subst eo15) | ((with_reducible refine gate_callee (f := 15) rfl ?_); refine goesL_ (some 21) rfl rfl Try.func15 (by kernel_rfl) rfl #[.pointer (some ⟨g283, 0, none⟩), .int .i64 10] rfl (by (try simp only [List.map_toArray, List.map_cons, List.map_nil]); first | done | rfl | (simp only [List.length_drop, List.length_take]; rfl)) ?_; (with_reducible refine (trustquorummake_Tape_N.calls g283 t281 t293 10 t295 t296 w _ ?side1 ?side2 A5.out).mono ?_); (case side1 => repeat (first | (with_reducible first | exact HI283.out | apply IsS62.alloc | apply IsS62.drewN | apply IsS62.drew | apply IsS62.set_1 | refine IsS62.far ?_ NB283_294.out _) | exact HI283.out)); (case side2 => repeat (first | (with_reducible first | exact HB.out | apply below_alloc | apply pw_below_drewN | apply below_drew1 | refine below_set ?_ (IsS62.ge HI283.out) | refine below_set ?_ GE294.out) | exact HB.out)); rintro e w16 ⟨rfl, hi, hb, hk⟩; refine ⟨_, rfl, ?_⟩; have n0_ := Aside0.mk (Kd.R_mono (Kd.R_keep (IsS62.apart (show IsS62 w _ g283 t281 t293 from by repeat (first | (with_reducible first | exact HI283.out | apply IsS62.alloc | apply IsS62.drewN | apply IsS62.drew | apply IsS62.set_1 | refine IsS62.far ?_ NB283_294.out _) | exact HI283.out)) (by (with_reducible repeat (first | apply Kd.R_alloc | apply Kd.R_drewN | apply Kd.R_drew)); exact (Kd.R_mono (Kd.R_far (p := ⟨gb294, 2, none⟩) (Kd.R_far (p := ⟨gb294, 1, none⟩) (Kd.R_far (p := ⟨gb294, 0, none⟩) (Kd.R_types HO289.out BK294.out (by decide)) (fun _ hk => hk.2) (.int .i64 t286)) (fun _ hk => hk.2) (.slice Ao14 t287.length co14)) (fun _ hk => hk.2) (.slice Ao15 t290.length co15)) (fun _ h_ => h_.1))) (by decide)) hk (fun _ h => h.2)) (fun _ h => h.1)); have n1_ := Aside0.mk (Kd.R_mono (Kd.R_keep (IsS62.apart (show IsS62 w _ g283 t281 t293 from by repeat (first | (with_reducible first | exact HI283.out | apply IsS62.alloc | apply IsS62.drewN | apply IsS62.drew | apply IsS62.set_1 | refine IsS62.far ?_ NB283_294.out _) | exact HI283.out)) (by (with_reducible repeat (first | apply Kd.R_alloc | apply Kd.R_drewN | apply Kd.R_drew)); exact (Kd.R_mono (Kd.R_far (p := ⟨gb294, 2, none⟩) (Kd.R_far (p := ⟨gb294, 1, none⟩) (Kd.R_far (p := ⟨gb294, 0, none⟩) (Kd.R_mono HO292.out (fun k_ hk => (⟨hk, hk.2⟩ : _ ∧ k_ ≠ gb294))) (fun _ hk => hk.2) (.int .i64 t286)) (fun _ hk => hk.2) (.slice Ao14 t287.length co14)) (fun _ hk => hk.2) (.slice Ao15 t290.length co15)) (fun _ h_ => h_.1))) (by decide)) hk (fun _ h => h.2)) (fun _ h => h.1)); have n2_ := Aside0.mk (KeepBut.blk hk (g' := gb294) (o := .cells #[.int .i64 t286, .slice Ao14 t287.length co14, .slice Ao15 t290.length co15] 27 (0, 0)) (by (with_reducible repeat (first | refine blk_drewN ?_ _ | refine blk_drew ?_ | refine blk_alloc ?_ _)); refine blk_put (cs := #[.int .i64 t286, .slice Ao14 t287.length co14, .slice none 0 0]) ?_ 2 _ rfl; (with_reducible repeat (first | refine blk_drewN ?_ _ | refine blk_drew ?_ | refine blk_alloc ?_ _)); refine blk_put (cs := #[.int .i64 t286, .slice none 0 0, .slice none 0 0]) ?_ 1 _ rfl; (with_reducible repeat (first | refine blk_drewN ?_ _ | refine blk_drew ?_ | refine blk_alloc ?_ _)); refine blk_put (cs := #[.int .i64 0, .slice none 0 0, .slice none 0 0]) ?_ 0 _ rfl; (with_reducible repeat (first | refine blk_drewN ?_ _ | refine blk_drew ?_ | refine blk_alloc ?_ _)); exact BK294.out) NB294_283.out (by simp)); have n3_ := Aside0.mk (hb); have n4_ := Aside0.mk (hi); clear HO289; clear HO292; clear BK294; clear HB; clear HI283; have HO289 := n0_; have HO292 := n1_; have BK294 := n2_; have HB := n3_; have HI283 := n4_; clear n0_ n1_ n2_ n3_ n4_; (try clear hb); (try clear hb2); (try clear hk); (try clear hi)) | ((with_reducible refine gate_callee (f := 15) rfl ?_); refine goesL_ (some 23) rfl rfl Try.func15 (by kernel_rfl) rfl #[.pointer (some ⟨g283, 0, none⟩), .int .i64 1000] rfl (by (try simp only [List.map_toArray, List.map_cons, List.map_nil]); first | done | rfl | (simp only [List.length_drop, List.length_take]; rfl)) ?_; (with_reducible refine (trustquorummake_Tape_N.calls g283 t281 t296 1000 t297 t298 w _ ?side1 ?side2 A6.out).mono ?_); (case side1 => repeat (first | (with_reducible first | exact HI283.out | apply IsS62.alloc | apply IsS62.drewN | apply IsS62.drew | apply IsS62.set_1 | refine IsS62.far ?_ NB283_294.out _) | exact HI283.out)); (case side2 => repeat (first | (with_reducible first | exact HB.out | apply below_alloc | apply pw_below_drewN | apply below_drew1 | refine below_set ?_ (IsS62.ge HI283.out) | refine below_set ?_ GE294.out) | exact HB.out)); rintro e w17 ⟨rfl, hi, hb, hk⟩; refine ⟨_, rfl, ?_⟩; have n0_ := Aside0.mk (Kd.R_mono (Kd.R_keep (IsS62.apart (show IsS62 w _ g283 t281 t296 from by repeat (first | (with_reducible first | exact HI283.out | apply IsS62.alloc | apply IsS62.drewN | apply IsS62.drew | apply IsS62.set_1 | refine IsS62.far ?_ NB283_294.out _) | exact HI283.out)) (by (with_reducible repeat (first | apply Kd.R_alloc | apply Kd.R_drewN | apply Kd.R_drew)); exact HO289.out) (by decide)) hk (fun _ h => h.2)) (fun _ h => h.1)); have n1_ := Aside0.mk (Kd.R_mono (Kd.R_keep (IsS62.apart (show IsS62 w _ g283 t281 t296 from by repeat (first | (with_reducible first | exact HI283.out | apply IsS62.alloc | apply IsS62.drewN | apply IsS62.drew | apply IsS62.set_1 | refine IsS62.far ?_ NB283_294.out _) | exact HI283.out)) (by (with_reducible repeat (first | apply Kd.R_alloc | apply Kd.R_drewN | apply Kd.R_drew)); exact HO292.out) (by decide)) hk (fun _ h => h.2)) (fun _ h => h.1)); have n2_ := Aside0.mk (KeepBut.blk hk (g' := gb294) (o := .cells #[.int .i64 t286, .slice Ao14 t287.length co14, .slice Ao15 t290.length co15] 27 (0, 0)) (by (with_reducible repeat (first | refine blk_drewN ?_ _ | refine blk_drew ?_ | refine blk_alloc ?_ _)); exact BK294.out) NB294_283.out (by simp)); have n3_ := Aside0.mk (hb); have n4_ := Aside0.mk (hi); clear HO289; clear HO292; clear BK294; clear HB; clear HI283; have HO289 := n0_; have HO292 := n1_; have BK294 := n2_; have HB := n3_; have HI283 := n4_; clear n0_ n1_ n2_ n3_ n4_; (try clear hb); (try clear hb2); (try clear hk); (try clear hi)) | ((with_reducible refine gate_callee (f := 10) rfl ?_); refine goesL_ (some 25) rfl rfl Try.func10 (by kernel_rfl) rfl #[.pointer (some ⟨g283, 0, none⟩), .int .i64 1, .int .i64 12] rfl (by (try simp only [List.map_toArray, List.map_cons, List.map_nil]); first | done | rfl | (simp only [List.length_drop, List.length_take]; rfl)) ?_; (with_reducible refine (trustquorummake_Tape_Range.calls g283 t281 t298 1 12 t299 t300 w _ ?side1 ?side2 A7.out).mono ?_); (case side1 => repeat (first | (with_reducible first | exact HI283.out | apply IsS62.alloc | apply IsS62.drewN | apply IsS62.drew | apply IsS62.set_1 | refine IsS62.far ?_ NB283_294.out _) | exact HI283.out)); (case side2 => repeat (first | (with_reducible first | exact HB.out | apply below_alloc | apply pw_below_drewN | apply below_drew1 | refine below_set ?_ (IsS62.ge HI283.out) | refine below_set ?_ GE294.out) | exact HB.out)); rintro e w18 ⟨rfl, hi, hb, hk⟩; refine ⟨_, rfl, ?_⟩; have n0_ := Aside0.mk (Kd.R_mono (Kd.R_keep (IsS62.apart (show IsS62 w _ g283 t281 t298 from by repeat (first | (with_reducible first | exact HI283.out | apply IsS62.alloc | apply IsS62.drewN | apply IsS62.drew | apply IsS62.set_1 | refine IsS62.far ?_ NB283_294.out _) | exact HI283.out)) (by (with_reducible repeat (first | apply Kd.R_alloc | apply Kd.R_drewN | apply Kd.R_drew)); exact HO289.out) (by decide)) hk (fun _ h => h.2)) (fun _ h => h.1)); have n1_ := Aside0.mk (Kd.R_mono (Kd.R_keep (IsS62.apart (show IsS62 w _ g283 t281 t298 from by repeat (first | (with_reducible first | exact HI283.out | apply IsS62.alloc | apply IsS62.drewN | apply IsS62.drew | apply IsS62.set_1 | refine IsS62.far ?_ NB283_294.out _) | exact HI283.out)) (by (with_reducible repeat (first | apply Kd.R_alloc | apply Kd.R_drewN | apply Kd.R_drew)); exact HO292.out) (by decide)) hk (fun _ h => h.2)) (fun _ h => h.1)); have n2_ := Aside0.mk (KeepBut.blk hk (g' := gb294) (o := .cells #[.int .i64 t286, .slice Ao14 t287.length co14, .slice Ao15 t290.length co15] 27 (0, 0)) (by (with_reducible repeat (first | refine blk_drewN ?_ _ | refine blk_drew ?_ | refine blk_alloc ?_ _)); exact BK294.out) NB294_283.out (by simp)); have n3_ := Aside0.mk (hb); have n4_ := Aside0.mk (hi); clear HO289; clear HO292; clear BK294; clear HB; clear HI283; have HO289 := n0_; have HO292 := n1_; have BK294 := n2_; have HB := n3_; have HI283 := n4_; clear n0_ n1_ n2_ n3_ n4_; (try clear hb); (try clear hb2); (try clear hk); (try clear hi)))
  go_loopg [8, 9] k (fun kq v8 v9 w' => ∃ (x8_1 : Int) (x9_1 : Int), v8 = .int .i64 x8_1 ∧ v9 = .int .i64 x9_1 ∧ Aside0 (trustquorumlaw21_LeadersGrow.l0 kq t295 t297 t299 x8_1 x9_1 t286 t287 t290 = some r) ∧ Aside0 (kq ≤ k) ∧ Aside0 (Kd.R (Kd.int .i64) 3 w' w.heap.size (fun _ => True) (.slice Ao14 t287.length co14) t287) ∧ Aside0 (Kd.R k27 27 w' w.heap.size (fun k_ => some k_ ≠ ((.slice Ao14 t287.length co14) : Value).ownBlock ∧ k_ ≠ gb294) (.slice Ao15 t290.length co15) t290) ∧ Aside0 (w'.heap[gb294]? = some (.cells #[.int .i64 t286, (.slice Ao14 t287.length co14), (.slice Ao15 t290.length co15)] 27 (0, 0))) ∧ Aside0 (Below w.heap.size w w'))
  case atStart => exact ⟨(0), (1), (by first | rfl | (simp; done) | (simp [*]; done)), (by first | rfl | (simp; done) | (simp [*]; done)), H', ⟨Nat.le_refl _⟩, ⟨by (with_reducible repeat (first | apply Kd.R_alloc | apply Kd.R_drewN | apply Kd.R_drew)); exact HO289.out⟩, ⟨by (with_reducible repeat (first | apply Kd.R_alloc | apply Kd.R_drewN | apply Kd.R_drew)); exact HO292.out⟩, ⟨by (with_reducible repeat (first | refine blk_drewN ?_ _ | refine blk_drew ?_ | refine blk_alloc ?_ _)); exact BK294.out⟩, ⟨by repeat (first | (with_reducible first | exact HB.out | apply below_alloc | apply pw_below_drewN | apply below_drew1 | refine below_set ?_ (IsS62.ge HI283.out) | refine below_set ?_ GE294.out) | exact HB.out)⟩⟩
  case round =>
    clear H'
    try clear c1
    try clear p2
    try clear c6
    try clear c8
    try clear c9
    try clear c10
    try clear c12
    try clear c15
    try clear hcz13_0
    try clear hcz13_1
    try clear hcz13_2
    try clear hfz13_0
    try clear hfz13_1
    try clear hfz13_2
    obtain ⟨x8_1, x9_1, rfl, rfl, HA, HK1, HO_295001, HO_295002, BK294, HB⟩ := hrel
    cases gk with
    | zero => exact absurd HA.out (by simp [trustquorumlaw21_LeadersGrow.l0])
    | succ k1 =>
      have H := HA.out
      clear HA
      simp only [trustquorumlaw21_LeadersGrow.l0] at H
      by_cases c19 : x9_1 ≤ t299
      · rw [if_pos c19] at H
        have c19b0 : decide (x9_1 ≤ t299) = true := decide_eq_true c19
        clear c19
        replace H := Option.bind_eq_some_iff.mp H
        obtain ⟨⟨t302, t303⟩, A200, H⟩ := H
        replace H : ((leaders_Leaders.f k1 t286 t287 t290 t295 t297 x9_1).bind fun bt304 => (if t303 = 0 then (if bt304.2 = 0 then (if t302 < 0 then (some false) else (if t302 ≥ 10 then (some false) else (if 0 ≤ t302 then (if bt304.1 = (Go.bits .or .i64 x8_1 (shl .i64 1 t302)) then (trustquorumlaw21_LeadersGrow.l0 k1 t295 t297 t299 bt304.1 (wrap64 (x9_1 + 1)) t286 t287 t290) else (some false)) else (none)))) else (some false)) else (some false))) = some r := H
        have A20 := Aside0.mk A200
        clear A200
        replace H := Option.bind_eq_some_iff.mp H
        obtain ⟨⟨t304, t305⟩, A210, H⟩ := H
        replace H : (if t303 = 0 then (if t305 = 0 then (if t302 < 0 then (some false) else (if t302 ≥ 10 then (some false) else (if 0 ≤ t302 then (if t304 = (Go.bits .or .i64 x8_1 (shl .i64 1 t302)) then (trustquorumlaw21_LeadersGrow.l0 k1 t295 t297 t299 t304 (wrap64 (x9_1 + 1)) t286 t287 t290) else (some false)) else (none)))) else (some false)) else (some false)) = some r := H
        have A21 := Aside0.mk A210
        clear A210
        by_cases c22 : t303 = 0
        · rw [if_pos c22] at H
          have c22b0 : (t303 == 0) = true := beq_iff_eq.mpr c22
          have c22b1 : (t303 != 0) = false := bne_eq_false_iff_eq.mpr c22
          clear c22
          by_cases c23 : t305 = 0
          · rw [if_pos c23] at H
            have c23b0 : (t305 == 0) = true := beq_iff_eq.mpr c23
            have c23b1 : (t305 != 0) = false := bne_eq_false_iff_eq.mpr c23
            clear c23
            by_cases c24 : t302 < 0
            · rw [if_pos c24] at H
              have c24b0 : decide (t302 < 0) = true := decide_eq_true c24
              clear c24
              obtain rfl := Option.some.inj H
              have hcz25_0 : wr.cell? ⟨gb294, 0, none⟩ = some (.int .i64 t286) := (blk_cell BK294.out 0).trans rfl
              have hcz25_1 : wr.cell? ⟨gb294, 1, none⟩ = some (.slice Ao14 t287.length co14) := (blk_cell BK294.out 1).trans rfl
              have hcz25_2 : wr.cell? ⟨gb294, 2, none⟩ = some (.slice Ao15 t290.length co15) := (blk_cell BK294.out 2).trans rfl
              have hfz25_0 := blk_frozen BK294.out 0
              have hfz25_1 := blk_frozen BK294.out 1
              have hfz25_2 := blk_frozen BK294.out 2
              go_wp2_with (first | ((with_reducible refine gate_callee (f := 17) rfl ?_); refine goesL_ (some 36) rfl rfl Try.func17 (by kernel_rfl) rfl #[.agg #[.int .i64 t286, .slice Ao14 t287.length co14, .slice Ao15 t290.length co15], .int .i64 t295, .int .i64 t297, .int .i64 x9_1] rfl (by (try simp only [List.map_toArray, List.map_cons, List.map_nil]); first | done | rfl | (simp only [List.length_drop, List.length_take]; rfl)) ?_; (with_reducible refine (leaders_Choose.calls k1 t286 _ _ t287 _ _ t290 t295 t297 x9_1 t302 t303 _ ?side1 ?side2 ?side3 ?side4 A20.out).mono ?_); (case side1 => repeat (first | exact (Kd.R_reads' HO_295001.out).2.2 | (with_reducible refine Kd.C_alloc ?_ _) | (with_reducible refine Kd.C_drewN ?_ _) | (with_reducible refine Kd.C_drew ?_))); (case side2 => exact (Kd.R_reads' HO_295001.out).2.1); (case side3 => repeat (first | exact (Kd.R_reads' HO_295002.out).2.2 | (with_reducible refine Kd.C_alloc ?_ _) | (with_reducible refine Kd.C_drewN ?_ _) | (with_reducible refine Kd.C_drew ?_))); (case side4 => exact (Kd.R_reads' HO_295002.out).2.1); rintro e w26 ⟨rfl, hb⟩; refine ⟨_, rfl, ?_⟩; have n0_ := Aside0.mk (Kd.R_below (by (with_reducible repeat (first | apply Kd.R_alloc | apply Kd.R_drewN | apply Kd.R_drew)); exact HO_295001.out) hb); have n1_ := Aside0.mk (Kd.R_below (by (with_reducible repeat (first | apply Kd.R_alloc | apply Kd.R_drewN | apply Kd.R_drew)); exact HO_295002.out) hb); have n2_ := Aside0.mk (blk_below (g := gb294) (o := .cells #[.int .i64 t286, .slice Ao14 t287.length co14, .slice Ao15 t290.length co15] 27 (0, 0)) (by (with_reducible repeat (first | refine blk_drewN ?_ _ | refine blk_drew ?_ | refine blk_alloc ?_ _)); exact BK294.out) hb); have n3_ := Aside0.mk (below_step (by repeat (first | (with_reducible first | exact HB.out | apply below_alloc | apply pw_below_drewN | apply below_drew1 | refine below_set ?_ GE294.out) | exact HB.out)) hb); clear HO_295001; clear HO_295002; clear BK294; clear HB; have HO_295001 := n0_; have HO_295002 := n1_; have BK294 := n2_; have HB := n3_; clear n0_ n1_ n2_ n3_; (try clear hb); (try clear hb2); (try clear hk); (try clear hi); have hcz27_0 : w26.cell? ⟨gb294, 0, none⟩ = some (.int .i64 t286) := (blk_cell BK294.out 0).trans rfl; have hcz27_1 : w26.cell? ⟨gb294, 1, none⟩ = some (.slice Ao14 t287.length co14) := (blk_cell BK294.out 1).trans rfl; have hcz27_2 : w26.cell? ⟨gb294, 2, none⟩ = some (.slice Ao15 t290.length co15) := (blk_cell BK294.out 2).trans rfl; have hfz27_0 := blk_frozen BK294.out 0; have hfz27_1 := blk_frozen BK294.out 1; have hfz27_2 := blk_frozen BK294.out 2) | ((with_reducible refine gate_callee (f := 19) rfl ?_); refine goesL_ (some 44) rfl rfl Try.func19 (by kernel_rfl) rfl #[.agg #[.int .i64 t286, .slice Ao14 t287.length co14, .slice Ao15 t290.length co15], .int .i64 t295, .int .i64 t297, .int .i64 x9_1] rfl (by (try simp only [List.map_toArray, List.map_cons, List.map_nil]); first | done | rfl | (simp only [List.length_drop, List.length_take]; rfl)) ?_; (with_reducible refine (leaders_Leaders.calls k1 t286 _ _ t287 _ _ t290 t295 t297 x9_1 t304 t305 _ ?side1 ?side2 ?side3 ?side4 A21.out).mono ?_); (case side1 => repeat (first | exact (Kd.R_reads' HO_295001.out).2.2 | (with_reducible refine Kd.C_alloc ?_ _) | (with_reducible refine Kd.C_drewN ?_ _) | (with_reducible refine Kd.C_drew ?_))); (case side2 => exact (Kd.R_reads' HO_295001.out).2.1); (case side3 => repeat (first | exact (Kd.R_reads' HO_295002.out).2.2 | (with_reducible refine Kd.C_alloc ?_ _) | (with_reducible refine Kd.C_drewN ?_ _) | (with_reducible refine Kd.C_drew ?_))); (case side4 => exact (Kd.R_reads' HO_295002.out).2.1); rintro e w28 ⟨rfl, hb⟩; refine ⟨_, rfl, ?_⟩; have n0_ := Aside0.mk (Kd.R_below (by (with_reducible repeat (first | apply Kd.R_alloc | apply Kd.R_drewN | apply Kd.R_drew)); exact HO_295001.out) hb); have n1_ := Aside0.mk (Kd.R_below (by (with_reducible repeat (first | apply Kd.R_alloc | apply Kd.R_drewN | apply Kd.R_drew)); exact HO_295002.out) hb); have n2_ := Aside0.mk (blk_below (g := gb294) (o := .cells #[.int .i64 t286, .slice Ao14 t287.length co14, .slice Ao15 t290.length co15] 27 (0, 0)) (by (with_reducible repeat (first | refine blk_drewN ?_ _ | refine blk_drew ?_ | refine blk_alloc ?_ _)); exact BK294.out) hb); have n3_ := Aside0.mk (below_step (by repeat (first | (with_reducible first | exact HB.out | apply below_alloc | apply pw_below_drewN | apply below_drew1 | refine below_set ?_ GE294.out) | exact HB.out)) hb); clear HO_295001; clear HO_295002; clear BK294; clear HB; have HO_295001 := n0_; have HO_295002 := n1_; have BK294 := n2_; have HB := n3_; clear n0_ n1_ n2_ n3_; (try clear hb); (try clear hb2); (try clear hk); (try clear hi)))
              go_ret
              exact ⟨by first | rfl | (simp [errW_none, errW_some] <;> rfl) | (simp [*, errW_none, errW_some] <;> rfl), by repeat (first | (with_reducible first | exact HB.out | apply below_alloc | apply pw_below_drewN | apply below_drew1 | refine below_set ?_ GE294.out) | exact HB.out)⟩
            · rw [if_neg c24] at H
              have c24b0 : decide (t302 < 0) = false := decide_eq_false c24
              clear c24
              by_cases c29 : t302 ≥ 10
              · rw [if_pos c29] at H
                have c29b0 : decide (10 ≤ t302) = true := decide_eq_true c29
                clear c29
                obtain rfl := Option.some.inj H
                have hcz30_0 : wr.cell? ⟨gb294, 0, none⟩ = some (.int .i64 t286) := (blk_cell BK294.out 0).trans rfl
                have hcz30_1 : wr.cell? ⟨gb294, 1, none⟩ = some (.slice Ao14 t287.length co14) := (blk_cell BK294.out 1).trans rfl
                have hcz30_2 : wr.cell? ⟨gb294, 2, none⟩ = some (.slice Ao15 t290.length co15) := (blk_cell BK294.out 2).trans rfl
                have hfz30_0 := blk_frozen BK294.out 0
                have hfz30_1 := blk_frozen BK294.out 1
                have hfz30_2 := blk_frozen BK294.out 2
                go_wp2_with (first | ((with_reducible refine gate_callee (f := 17) rfl ?_); refine goesL_ (some 36) rfl rfl Try.func17 (by kernel_rfl) rfl #[.agg #[.int .i64 t286, .slice Ao14 t287.length co14, .slice Ao15 t290.length co15], .int .i64 t295, .int .i64 t297, .int .i64 x9_1] rfl (by (try simp only [List.map_toArray, List.map_cons, List.map_nil]); first | done | rfl | (simp only [List.length_drop, List.length_take]; rfl)) ?_; (with_reducible refine (leaders_Choose.calls k1 t286 _ _ t287 _ _ t290 t295 t297 x9_1 t302 t303 _ ?side1 ?side2 ?side3 ?side4 A20.out).mono ?_); (case side1 => repeat (first | exact (Kd.R_reads' HO_295001.out).2.2 | (with_reducible refine Kd.C_alloc ?_ _) | (with_reducible refine Kd.C_drewN ?_ _) | (with_reducible refine Kd.C_drew ?_))); (case side2 => exact (Kd.R_reads' HO_295001.out).2.1); (case side3 => repeat (first | exact (Kd.R_reads' HO_295002.out).2.2 | (with_reducible refine Kd.C_alloc ?_ _) | (with_reducible refine Kd.C_drewN ?_ _) | (with_reducible refine Kd.C_drew ?_))); (case side4 => exact (Kd.R_reads' HO_295002.out).2.1); rintro e w31 ⟨rfl, hb⟩; refine ⟨_, rfl, ?_⟩; have n0_ := Aside0.mk (Kd.R_below (by (with_reducible repeat (first | apply Kd.R_alloc | apply Kd.R_drewN | apply Kd.R_drew)); exact HO_295001.out) hb); have n1_ := Aside0.mk (Kd.R_below (by (with_reducible repeat (first | apply Kd.R_alloc | apply Kd.R_drewN | apply Kd.R_drew)); exact HO_295002.out) hb); have n2_ := Aside0.mk (blk_below (g := gb294) (o := .cells #[.int .i64 t286, .slice Ao14 t287.length co14, .slice Ao15 t290.length co15] 27 (0, 0)) (by (with_reducible repeat (first | refine blk_drewN ?_ _ | refine blk_drew ?_ | refine blk_alloc ?_ _)); exact BK294.out) hb); have n3_ := Aside0.mk (below_step (by repeat (first | (with_reducible first | exact HB.out | apply below_alloc | apply pw_below_drewN | apply below_drew1 | refine below_set ?_ GE294.out) | exact HB.out)) hb); clear HO_295001; clear HO_295002; clear BK294; clear HB; have HO_295001 := n0_; have HO_295002 := n1_; have BK294 := n2_; have HB := n3_; clear n0_ n1_ n2_ n3_; (try clear hb); (try clear hb2); (try clear hk); (try clear hi); have hcz32_0 : w31.cell? ⟨gb294, 0, none⟩ = some (.int .i64 t286) := (blk_cell BK294.out 0).trans rfl; have hcz32_1 : w31.cell? ⟨gb294, 1, none⟩ = some (.slice Ao14 t287.length co14) := (blk_cell BK294.out 1).trans rfl; have hcz32_2 : w31.cell? ⟨gb294, 2, none⟩ = some (.slice Ao15 t290.length co15) := (blk_cell BK294.out 2).trans rfl; have hfz32_0 := blk_frozen BK294.out 0; have hfz32_1 := blk_frozen BK294.out 1; have hfz32_2 := blk_frozen BK294.out 2) | ((with_reducible refine gate_callee (f := 19) rfl ?_); refine goesL_ (some 44) rfl rfl Try.func19 (by kernel_rfl) rfl #[.agg #[.int .i64 t286, .slice Ao14 t287.length co14, .slice Ao15 t290.length co15], .int .i64 t295, .int .i64 t297, .int .i64 x9_1] rfl (by (try simp only [List.map_toArray, List.map_cons, List.map_nil]); first | done | rfl | (simp only [List.length_drop, List.length_take]; rfl)) ?_; (with_reducible refine (leaders_Leaders.calls k1 t286 _ _ t287 _ _ t290 t295 t297 x9_1 t304 t305 _ ?side1 ?side2 ?side3 ?side4 A21.out).mono ?_); (case side1 => repeat (first | exact (Kd.R_reads' HO_295001.out).2.2 | (with_reducible refine Kd.C_alloc ?_ _) | (with_reducible refine Kd.C_drewN ?_ _) | (with_reducible refine Kd.C_drew ?_))); (case side2 => exact (Kd.R_reads' HO_295001.out).2.1); (case side3 => repeat (first | exact (Kd.R_reads' HO_295002.out).2.2 | (with_reducible refine Kd.C_alloc ?_ _) | (with_reducible refine Kd.C_drewN ?_ _) | (with_reducible refine Kd.C_drew ?_))); (case side4 => exact (Kd.R_reads' HO_295002.out).2.1); rintro e w33 ⟨rfl, hb⟩; refine ⟨_, rfl, ?_⟩; have n0_ := Aside0.mk (Kd.R_below (by (with_reducible repeat (first | apply Kd.R_alloc | apply Kd.R_drewN | apply Kd.R_drew)); exact HO_295001.out) hb); have n1_ := Aside0.mk (Kd.R_below (by (with_reducible repeat (first | apply Kd.R_alloc | apply Kd.R_drewN | apply Kd.R_drew)); exact HO_295002.out) hb); have n2_ := Aside0.mk (blk_below (g := gb294) (o := .cells #[.int .i64 t286, .slice Ao14 t287.length co14, .slice Ao15 t290.length co15] 27 (0, 0)) (by (with_reducible repeat (first | refine blk_drewN ?_ _ | refine blk_drew ?_ | refine blk_alloc ?_ _)); exact BK294.out) hb); have n3_ := Aside0.mk (below_step (by repeat (first | (with_reducible first | exact HB.out | apply below_alloc | apply pw_below_drewN | apply below_drew1 | refine below_set ?_ GE294.out) | exact HB.out)) hb); clear HO_295001; clear HO_295002; clear BK294; clear HB; have HO_295001 := n0_; have HO_295002 := n1_; have BK294 := n2_; have HB := n3_; clear n0_ n1_ n2_ n3_; (try clear hb); (try clear hb2); (try clear hk); (try clear hi)))
                go_ret
                exact ⟨by first | rfl | (simp [errW_none, errW_some] <;> rfl) | (simp [*, errW_none, errW_some] <;> rfl), by repeat (first | (with_reducible first | exact HB.out | apply below_alloc | apply pw_below_drewN | apply below_drew1 | refine below_set ?_ GE294.out) | exact HB.out)⟩
              · rw [if_neg c29] at H
                have c29b0 : decide (10 ≤ t302) = false := decide_eq_false c29
                clear c29
                by_cases c34 : 0 ≤ t302
                · rw [if_pos c34] at H
                  have c34b0 := eq_true c34
                  have c34b1 : decide (0 ≤ t302) = true := decide_eq_true c34
                  clear c34
                  obtain ⟨ji35, hji35⟩ : ∃ j_ : Int, (shl .i64 1 t302) = j_ := ⟨_, rfl⟩
                  replace H : (if t304 = (Go.bits .or .i64 x8_1 (ji35)) then (trustquorumlaw21_LeadersGrow.l0 k1 t295 t297 t299 t304 (wrap64 (x9_1 + 1)) t286 t287 t290) else (some false)) = some r := by first | (rw [hji35] at H; exact H) | (simp only [hji35] at H ⊢; exact H)
                  (try rw [hji35] at A20)
                  (try rw [hji35] at A21)
                  have hji35_ : (IntKind.i64.wrap (1 * 2 ^ min t302.toNat 64)) = ji35 := hji35
                  have hji35z : t302 ≤ 64 → (IntKind.i64.wrap (1 * 2 ^ t302.toNat)) = ji35 := shl_small hji35
                  have hji35u : (IntKind.i64.wrap (2 ^ min t302.toNat 64)) = ji35 := by have h_ := hji35_; rw [Int.one_mul] at h_; exact h_
                  have hji35v : t302 ≤ 64 → (IntKind.i64.wrap (2 ^ t302.toNat)) = ji35 := fun hle_ => by have h_ := hji35z hle_; rw [Int.one_mul] at h_; exact h_
                  have hji35y : (wrap64 (1 * 2 ^ min t302.toNat 64)) = ji35 := (i64_w _).symm.trans hji35_
                  have hji35x : t302 ≤ 64 → (wrap64 (1 * 2 ^ t302.toNat)) = ji35 := fun h_ => (i64_w _).symm.trans (hji35z h_)
                  by_cases c36 : t304 = (Go.bits .or .i64 x8_1 (ji35))
                  · rw [if_pos c36] at H
                    have c36b0 : (t304 == (Go.bits .or .i64 x8_1 (ji35))) = true := beq_iff_eq.mpr c36
                    have c36b1 : (t304 != (Go.bits .or .i64 x8_1 (ji35))) = false := bne_eq_false_iff_eq.mpr c36
                    clear c36
                    have H' := Aside0.mk H
                    clear H
                    have hcz37_0 : wr.cell? ⟨gb294, 0, none⟩ = some (.int .i64 t286) := (blk_cell BK294.out 0).trans rfl
                    have hcz37_1 : wr.cell? ⟨gb294, 1, none⟩ = some (.slice Ao14 t287.length co14) := (blk_cell BK294.out 1).trans rfl
                    have hcz37_2 : wr.cell? ⟨gb294, 2, none⟩ = some (.slice Ao15 t290.length co15) := (blk_cell BK294.out 2).trans rfl
                    have hfz37_0 := blk_frozen BK294.out 0
                    have hfz37_1 := blk_frozen BK294.out 1
                    have hfz37_2 := blk_frozen BK294.out 2
                    go_wp2_with (first | ((with_reducible refine gate_callee (f := 17) rfl ?_); refine goesL_ (some 36) rfl rfl Try.func17 (by kernel_rfl) rfl #[.agg #[.int .i64 t286, .slice Ao14 t287.length co14, .slice Ao15 t290.length co15], .int .i64 t295, .int .i64 t297, .int .i64 x9_1] rfl (by (try simp only [List.map_toArray, List.map_cons, List.map_nil]); first | done | rfl | (simp only [List.length_drop, List.length_take]; rfl)) ?_; (with_reducible refine (leaders_Choose.calls k1 t286 _ _ t287 _ _ t290 t295 t297 x9_1 t302 t303 _ ?side1 ?side2 ?side3 ?side4 A20.out).mono ?_); (case side1 => repeat (first | exact (Kd.R_reads' HO_295001.out).2.2 | (with_reducible refine Kd.C_alloc ?_ _) | (with_reducible refine Kd.C_drewN ?_ _) | (with_reducible refine Kd.C_drew ?_))); (case side2 => exact (Kd.R_reads' HO_295001.out).2.1); (case side3 => repeat (first | exact (Kd.R_reads' HO_295002.out).2.2 | (with_reducible refine Kd.C_alloc ?_ _) | (with_reducible refine Kd.C_drewN ?_ _) | (with_reducible refine Kd.C_drew ?_))); (case side4 => exact (Kd.R_reads' HO_295002.out).2.1); rintro e w38 ⟨rfl, hb⟩; refine ⟨_, rfl, ?_⟩; have n0_ := Aside0.mk (Kd.R_below (by (with_reducible repeat (first | apply Kd.R_alloc | apply Kd.R_drewN | apply Kd.R_drew)); exact HO_295001.out) hb); have n1_ := Aside0.mk (Kd.R_below (by (with_reducible repeat (first | apply Kd.R_alloc | apply Kd.R_drewN | apply Kd.R_drew)); exact HO_295002.out) hb); have n2_ := Aside0.mk (blk_below (g := gb294) (o := .cells #[.int .i64 t286, .slice Ao14 t287.length co14, .slice Ao15 t290.length co15] 27 (0, 0)) (by (with_reducible repeat (first | refine blk_drewN ?_ _ | refine blk_drew ?_ | refine blk_alloc ?_ _)); exact BK294.out) hb); have n3_ := Aside0.mk (below_step (by repeat (first | (with_reducible first | exact HB.out | apply below_alloc | apply pw_below_drewN | apply below_drew1 | refine below_set ?_ GE294.out) | exact HB.out)) hb); clear HO_295001; clear HO_295002; clear BK294; clear HB; have HO_295001 := n0_; have HO_295002 := n1_; have BK294 := n2_; have HB := n3_; clear n0_ n1_ n2_ n3_; (try clear hb); (try clear hb2); (try clear hk); (try clear hi); have hcz39_0 : w38.cell? ⟨gb294, 0, none⟩ = some (.int .i64 t286) := (blk_cell BK294.out 0).trans rfl; have hcz39_1 : w38.cell? ⟨gb294, 1, none⟩ = some (.slice Ao14 t287.length co14) := (blk_cell BK294.out 1).trans rfl; have hcz39_2 : w38.cell? ⟨gb294, 2, none⟩ = some (.slice Ao15 t290.length co15) := (blk_cell BK294.out 2).trans rfl; have hfz39_0 := blk_frozen BK294.out 0; have hfz39_1 := blk_frozen BK294.out 1; have hfz39_2 := blk_frozen BK294.out 2) | ((with_reducible refine gate_callee (f := 19) rfl ?_); refine goesL_ (some 44) rfl rfl Try.func19 (by kernel_rfl) rfl #[.agg #[.int .i64 t286, .slice Ao14 t287.length co14, .slice Ao15 t290.length co15], .int .i64 t295, .int .i64 t297, .int .i64 x9_1] rfl (by (try simp only [List.map_toArray, List.map_cons, List.map_nil]); first | done | rfl | (simp only [List.length_drop, List.length_take]; rfl)) ?_; (with_reducible refine (leaders_Leaders.calls k1 t286 _ _ t287 _ _ t290 t295 t297 x9_1 t304 t305 _ ?side1 ?side2 ?side3 ?side4 A21.out).mono ?_); (case side1 => repeat (first | exact (Kd.R_reads' HO_295001.out).2.2 | (with_reducible refine Kd.C_alloc ?_ _) | (with_reducible refine Kd.C_drewN ?_ _) | (with_reducible refine Kd.C_drew ?_))); (case side2 => exact (Kd.R_reads' HO_295001.out).2.1); (case side3 => repeat (first | exact (Kd.R_reads' HO_295002.out).2.2 | (with_reducible refine Kd.C_alloc ?_ _) | (with_reducible refine Kd.C_drewN ?_ _) | (with_reducible refine Kd.C_drew ?_))); (case side4 => exact (Kd.R_reads' HO_295002.out).2.1); rintro e w40 ⟨rfl, hb⟩; refine ⟨_, rfl, ?_⟩; have n0_ := Aside0.mk (Kd.R_below (by (with_reducible repeat (first | apply Kd.R_alloc | apply Kd.R_drewN | apply Kd.R_drew)); exact HO_295001.out) hb); have n1_ := Aside0.mk (Kd.R_below (by (with_reducible repeat (first | apply Kd.R_alloc | apply Kd.R_drewN | apply Kd.R_drew)); exact HO_295002.out) hb); have n2_ := Aside0.mk (blk_below (g := gb294) (o := .cells #[.int .i64 t286, .slice Ao14 t287.length co14, .slice Ao15 t290.length co15] 27 (0, 0)) (by (with_reducible repeat (first | refine blk_drewN ?_ _ | refine blk_drew ?_ | refine blk_alloc ?_ _)); exact BK294.out) hb); have n3_ := Aside0.mk (below_step (by repeat (first | (with_reducible first | exact HB.out | apply below_alloc | apply pw_below_drewN | apply below_drew1 | refine below_set ?_ GE294.out) | exact HB.out)) hb); clear HO_295001; clear HO_295002; clear BK294; clear HB; have HO_295001 := n0_; have HO_295002 := n1_; have BK294 := n2_; have HB := n3_; clear n0_ n1_ n2_ n3_; (try clear hb); (try clear hb2); (try clear hk); (try clear hi)))
                    go_roundg k1
                    case measure => have := HK1.out; omega
                    case rel => exact ⟨(t304), (wrap64 (x9_1 + 1)), (by first | rfl | (simp; done) | (simp [*]; done)), (by first | rfl | (simp; done) | (simp [*]; done)), H', ⟨by have := HK1.out; omega⟩, ⟨by (with_reducible repeat (first | apply Kd.R_alloc | apply Kd.R_drewN | apply Kd.R_drew)); exact HO_295001.out⟩, ⟨by (with_reducible repeat (first | apply Kd.R_alloc | apply Kd.R_drewN | apply Kd.R_drew)); exact HO_295002.out⟩, ⟨by (with_reducible repeat (first | refine blk_drewN ?_ _ | refine blk_drew ?_ | refine blk_alloc ?_ _)); exact BK294.out⟩, ⟨by repeat (first | (with_reducible first | exact HB.out | apply below_alloc | apply pw_below_drewN | apply below_drew1 | refine below_set ?_ GE294.out) | exact HB.out)⟩⟩
                  · rw [if_neg c36] at H
                    have c36b0 : (t304 == (Go.bits .or .i64 x8_1 (ji35))) = false := beq_eq_false_iff_ne.mpr c36
                    have c36b1 : (t304 != (Go.bits .or .i64 x8_1 (ji35))) = true := bne_iff_ne.mpr c36
                    obtain rfl := Option.some.inj H
                    have hcz41_0 : wr.cell? ⟨gb294, 0, none⟩ = some (.int .i64 t286) := (blk_cell BK294.out 0).trans rfl
                    have hcz41_1 : wr.cell? ⟨gb294, 1, none⟩ = some (.slice Ao14 t287.length co14) := (blk_cell BK294.out 1).trans rfl
                    have hcz41_2 : wr.cell? ⟨gb294, 2, none⟩ = some (.slice Ao15 t290.length co15) := (blk_cell BK294.out 2).trans rfl
                    have hfz41_0 := blk_frozen BK294.out 0
                    have hfz41_1 := blk_frozen BK294.out 1
                    have hfz41_2 := blk_frozen BK294.out 2
                    go_wp2_with (first | ((with_reducible refine gate_callee (f := 17) rfl ?_); refine goesL_ (some 36) rfl rfl Try.func17 (by kernel_rfl) rfl #[.agg #[.int .i64 t286, .slice Ao14 t287.length co14, .slice Ao15 t290.length co15], .int .i64 t295, .int .i64 t297, .int .i64 x9_1] rfl (by (try simp only [List.map_toArray, List.map_cons, List.map_nil]); first | done | rfl | (simp only [List.length_drop, List.length_take]; rfl)) ?_; (with_reducible refine (leaders_Choose.calls k1 t286 _ _ t287 _ _ t290 t295 t297 x9_1 t302 t303 _ ?side1 ?side2 ?side3 ?side4 A20.out).mono ?_); (case side1 => repeat (first | exact (Kd.R_reads' HO_295001.out).2.2 | (with_reducible refine Kd.C_alloc ?_ _) | (with_reducible refine Kd.C_drewN ?_ _) | (with_reducible refine Kd.C_drew ?_))); (case side2 => exact (Kd.R_reads' HO_295001.out).2.1); (case side3 => repeat (first | exact (Kd.R_reads' HO_295002.out).2.2 | (with_reducible refine Kd.C_alloc ?_ _) | (with_reducible refine Kd.C_drewN ?_ _) | (with_reducible refine Kd.C_drew ?_))); (case side4 => exact (Kd.R_reads' HO_295002.out).2.1); rintro e w42 ⟨rfl, hb⟩; refine ⟨_, rfl, ?_⟩; have n0_ := Aside0.mk (Kd.R_below (by (with_reducible repeat (first | apply Kd.R_alloc | apply Kd.R_drewN | apply Kd.R_drew)); exact HO_295001.out) hb); have n1_ := Aside0.mk (Kd.R_below (by (with_reducible repeat (first | apply Kd.R_alloc | apply Kd.R_drewN | apply Kd.R_drew)); exact HO_295002.out) hb); have n2_ := Aside0.mk (blk_below (g := gb294) (o := .cells #[.int .i64 t286, .slice Ao14 t287.length co14, .slice Ao15 t290.length co15] 27 (0, 0)) (by (with_reducible repeat (first | refine blk_drewN ?_ _ | refine blk_drew ?_ | refine blk_alloc ?_ _)); exact BK294.out) hb); have n3_ := Aside0.mk (below_step (by repeat (first | (with_reducible first | exact HB.out | apply below_alloc | apply pw_below_drewN | apply below_drew1 | refine below_set ?_ GE294.out) | exact HB.out)) hb); clear HO_295001; clear HO_295002; clear BK294; clear HB; have HO_295001 := n0_; have HO_295002 := n1_; have BK294 := n2_; have HB := n3_; clear n0_ n1_ n2_ n3_; (try clear hb); (try clear hb2); (try clear hk); (try clear hi); have hcz43_0 : w42.cell? ⟨gb294, 0, none⟩ = some (.int .i64 t286) := (blk_cell BK294.out 0).trans rfl; have hcz43_1 : w42.cell? ⟨gb294, 1, none⟩ = some (.slice Ao14 t287.length co14) := (blk_cell BK294.out 1).trans rfl; have hcz43_2 : w42.cell? ⟨gb294, 2, none⟩ = some (.slice Ao15 t290.length co15) := (blk_cell BK294.out 2).trans rfl; have hfz43_0 := blk_frozen BK294.out 0; have hfz43_1 := blk_frozen BK294.out 1; have hfz43_2 := blk_frozen BK294.out 2) | ((with_reducible refine gate_callee (f := 19) rfl ?_); refine goesL_ (some 44) rfl rfl Try.func19 (by kernel_rfl) rfl #[.agg #[.int .i64 t286, .slice Ao14 t287.length co14, .slice Ao15 t290.length co15], .int .i64 t295, .int .i64 t297, .int .i64 x9_1] rfl (by (try simp only [List.map_toArray, List.map_cons, List.map_nil]); first | done | rfl | (simp only [List.length_drop, List.length_take]; rfl)) ?_; (with_reducible refine (leaders_Leaders.calls k1 t286 _ _ t287 _ _ t290 t295 t297 x9_1 t304 t305 _ ?side1 ?side2 ?side3 ?side4 A21.out).mono ?_); (case side1 => repeat (first | exact (Kd.R_reads' HO_295001.out).2.2 | (with_reducible refine Kd.C_alloc ?_ _) | (with_reducible refine Kd.C_drewN ?_ _) | (with_reducible refine Kd.C_drew ?_))); (case side2 => exact (Kd.R_reads' HO_295001.out).2.1); (case side3 => repeat (first | exact (Kd.R_reads' HO_295002.out).2.2 | (with_reducible refine Kd.C_alloc ?_ _) | (with_reducible refine Kd.C_drewN ?_ _) | (with_reducible refine Kd.C_drew ?_))); (case side4 => exact (Kd.R_reads' HO_295002.out).2.1); rintro e w44 ⟨rfl, hb⟩; refine ⟨_, rfl, ?_⟩; have n0_ := Aside0.mk (Kd.R_below (by (with_reducible repeat (first | apply Kd.R_alloc | apply Kd.R_drewN | apply Kd.R_drew)); exact HO_295001.out) hb); have n1_ := Aside0.mk (Kd.R_below (by (with_reducible repeat (first | apply Kd.R_alloc | apply Kd.R_drewN | apply Kd.R_drew)); exact HO_295002.out) hb); have n2_ := Aside0.mk (blk_below (g := gb294) (o := .cells #[.int .i64 t286, .slice Ao14 t287.length co14, .slice Ao15 t290.length co15] 27 (0, 0)) (by (with_reducible repeat (first | refine blk_drewN ?_ _ | refine blk_drew ?_ | refine blk_alloc ?_ _)); exact BK294.out) hb); have n3_ := Aside0.mk (below_step (by repeat (first | (with_reducible first | exact HB.out | apply below_alloc | apply pw_below_drewN | apply below_drew1 | refine below_set ?_ GE294.out) | exact HB.out)) hb); clear HO_295001; clear HO_295002; clear BK294; clear HB; have HO_295001 := n0_; have HO_295002 := n1_; have BK294 := n2_; have HB := n3_; clear n0_ n1_ n2_ n3_; (try clear hb); (try clear hb2); (try clear hk); (try clear hi)))
                    go_ret
                    exact ⟨by first | rfl | (simp [errW_none, errW_some] <;> rfl) | (simp only [← hji35]; first | rfl | (simp [errW_none, errW_some] <;> rfl)) | (simp [*, errW_none, errW_some] <;> rfl), by repeat (first | (with_reducible first | exact HB.out | apply below_alloc | apply pw_below_drewN | apply below_drew1 | refine below_set ?_ GE294.out) | exact HB.out)⟩
                · rw [if_neg c34] at H
                  exact absurd H (by simp)
          · rw [if_neg c23] at H
            have c23b0 : (t305 == 0) = false := beq_eq_false_iff_ne.mpr c23
            have c23b1 : (t305 != 0) = true := bne_iff_ne.mpr c23
            obtain rfl := Option.some.inj H
            have hcz45_0 : wr.cell? ⟨gb294, 0, none⟩ = some (.int .i64 t286) := (blk_cell BK294.out 0).trans rfl
            have hcz45_1 : wr.cell? ⟨gb294, 1, none⟩ = some (.slice Ao14 t287.length co14) := (blk_cell BK294.out 1).trans rfl
            have hcz45_2 : wr.cell? ⟨gb294, 2, none⟩ = some (.slice Ao15 t290.length co15) := (blk_cell BK294.out 2).trans rfl
            have hfz45_0 := blk_frozen BK294.out 0
            have hfz45_1 := blk_frozen BK294.out 1
            have hfz45_2 := blk_frozen BK294.out 2
            go_wp2_with (first | ((with_reducible refine gate_callee (f := 17) rfl ?_); refine goesL_ (some 36) rfl rfl Try.func17 (by kernel_rfl) rfl #[.agg #[.int .i64 t286, .slice Ao14 t287.length co14, .slice Ao15 t290.length co15], .int .i64 t295, .int .i64 t297, .int .i64 x9_1] rfl (by (try simp only [List.map_toArray, List.map_cons, List.map_nil]); first | done | rfl | (simp only [List.length_drop, List.length_take]; rfl)) ?_; (with_reducible refine (leaders_Choose.calls k1 t286 _ _ t287 _ _ t290 t295 t297 x9_1 t302 t303 _ ?side1 ?side2 ?side3 ?side4 A20.out).mono ?_); (case side1 => repeat (first | exact (Kd.R_reads' HO_295001.out).2.2 | (with_reducible refine Kd.C_alloc ?_ _) | (with_reducible refine Kd.C_drewN ?_ _) | (with_reducible refine Kd.C_drew ?_))); (case side2 => exact (Kd.R_reads' HO_295001.out).2.1); (case side3 => repeat (first | exact (Kd.R_reads' HO_295002.out).2.2 | (with_reducible refine Kd.C_alloc ?_ _) | (with_reducible refine Kd.C_drewN ?_ _) | (with_reducible refine Kd.C_drew ?_))); (case side4 => exact (Kd.R_reads' HO_295002.out).2.1); rintro e w46 ⟨rfl, hb⟩; refine ⟨_, rfl, ?_⟩; have n0_ := Aside0.mk (Kd.R_below (by (with_reducible repeat (first | apply Kd.R_alloc | apply Kd.R_drewN | apply Kd.R_drew)); exact HO_295001.out) hb); have n1_ := Aside0.mk (Kd.R_below (by (with_reducible repeat (first | apply Kd.R_alloc | apply Kd.R_drewN | apply Kd.R_drew)); exact HO_295002.out) hb); have n2_ := Aside0.mk (blk_below (g := gb294) (o := .cells #[.int .i64 t286, .slice Ao14 t287.length co14, .slice Ao15 t290.length co15] 27 (0, 0)) (by (with_reducible repeat (first | refine blk_drewN ?_ _ | refine blk_drew ?_ | refine blk_alloc ?_ _)); exact BK294.out) hb); have n3_ := Aside0.mk (below_step (by repeat (first | (with_reducible first | exact HB.out | apply below_alloc | apply pw_below_drewN | apply below_drew1 | refine below_set ?_ GE294.out) | exact HB.out)) hb); clear HO_295001; clear HO_295002; clear BK294; clear HB; have HO_295001 := n0_; have HO_295002 := n1_; have BK294 := n2_; have HB := n3_; clear n0_ n1_ n2_ n3_; (try clear hb); (try clear hb2); (try clear hk); (try clear hi); have hcz47_0 : w46.cell? ⟨gb294, 0, none⟩ = some (.int .i64 t286) := (blk_cell BK294.out 0).trans rfl; have hcz47_1 : w46.cell? ⟨gb294, 1, none⟩ = some (.slice Ao14 t287.length co14) := (blk_cell BK294.out 1).trans rfl; have hcz47_2 : w46.cell? ⟨gb294, 2, none⟩ = some (.slice Ao15 t290.length co15) := (blk_cell BK294.out 2).trans rfl; have hfz47_0 := blk_frozen BK294.out 0; have hfz47_1 := blk_frozen BK294.out 1; have hfz47_2 := blk_frozen BK294.out 2) | ((with_reducible refine gate_callee (f := 19) rfl ?_); refine goesL_ (some 44) rfl rfl Try.func19 (by kernel_rfl) rfl #[.agg #[.int .i64 t286, .slice Ao14 t287.length co14, .slice Ao15 t290.length co15], .int .i64 t295, .int .i64 t297, .int .i64 x9_1] rfl (by (try simp only [List.map_toArray, List.map_cons, List.map_nil]); first | done | rfl | (simp only [List.length_drop, List.length_take]; rfl)) ?_; (with_reducible refine (leaders_Leaders.calls k1 t286 _ _ t287 _ _ t290 t295 t297 x9_1 t304 t305 _ ?side1 ?side2 ?side3 ?side4 A21.out).mono ?_); (case side1 => repeat (first | exact (Kd.R_reads' HO_295001.out).2.2 | (with_reducible refine Kd.C_alloc ?_ _) | (with_reducible refine Kd.C_drewN ?_ _) | (with_reducible refine Kd.C_drew ?_))); (case side2 => exact (Kd.R_reads' HO_295001.out).2.1); (case side3 => repeat (first | exact (Kd.R_reads' HO_295002.out).2.2 | (with_reducible refine Kd.C_alloc ?_ _) | (with_reducible refine Kd.C_drewN ?_ _) | (with_reducible refine Kd.C_drew ?_))); (case side4 => exact (Kd.R_reads' HO_295002.out).2.1); rintro e w48 ⟨rfl, hb⟩; refine ⟨_, rfl, ?_⟩; have n0_ := Aside0.mk (Kd.R_below (by (with_reducible repeat (first | apply Kd.R_alloc | apply Kd.R_drewN | apply Kd.R_drew)); exact HO_295001.out) hb); have n1_ := Aside0.mk (Kd.R_below (by (with_reducible repeat (first | apply Kd.R_alloc | apply Kd.R_drewN | apply Kd.R_drew)); exact HO_295002.out) hb); have n2_ := Aside0.mk (blk_below (g := gb294) (o := .cells #[.int .i64 t286, .slice Ao14 t287.length co14, .slice Ao15 t290.length co15] 27 (0, 0)) (by (with_reducible repeat (first | refine blk_drewN ?_ _ | refine blk_drew ?_ | refine blk_alloc ?_ _)); exact BK294.out) hb); have n3_ := Aside0.mk (below_step (by repeat (first | (with_reducible first | exact HB.out | apply below_alloc | apply pw_below_drewN | apply below_drew1 | refine below_set ?_ GE294.out) | exact HB.out)) hb); clear HO_295001; clear HO_295002; clear BK294; clear HB; have HO_295001 := n0_; have HO_295002 := n1_; have BK294 := n2_; have HB := n3_; clear n0_ n1_ n2_ n3_; (try clear hb); (try clear hb2); (try clear hk); (try clear hi)))
            go_ret
            exact ⟨by first | rfl | (simp [errW_none, errW_some] <;> rfl) | (simp [*, errW_none, errW_some] <;> rfl), by repeat (first | (with_reducible first | exact HB.out | apply below_alloc | apply pw_below_drewN | apply below_drew1 | refine below_set ?_ GE294.out) | exact HB.out)⟩
        · rw [if_neg c22] at H
          have c22b0 : (t303 == 0) = false := beq_eq_false_iff_ne.mpr c22
          have c22b1 : (t303 != 0) = true := bne_iff_ne.mpr c22
          obtain rfl := Option.some.inj H
          have hcz49_0 : wr.cell? ⟨gb294, 0, none⟩ = some (.int .i64 t286) := (blk_cell BK294.out 0).trans rfl
          have hcz49_1 : wr.cell? ⟨gb294, 1, none⟩ = some (.slice Ao14 t287.length co14) := (blk_cell BK294.out 1).trans rfl
          have hcz49_2 : wr.cell? ⟨gb294, 2, none⟩ = some (.slice Ao15 t290.length co15) := (blk_cell BK294.out 2).trans rfl
          have hfz49_0 := blk_frozen BK294.out 0
          have hfz49_1 := blk_frozen BK294.out 1
          have hfz49_2 := blk_frozen BK294.out 2
          go_wp2_with (first | ((with_reducible refine gate_callee (f := 17) rfl ?_); refine goesL_ (some 36) rfl rfl Try.func17 (by kernel_rfl) rfl #[.agg #[.int .i64 t286, .slice Ao14 t287.length co14, .slice Ao15 t290.length co15], .int .i64 t295, .int .i64 t297, .int .i64 x9_1] rfl (by (try simp only [List.map_toArray, List.map_cons, List.map_nil]); first | done | rfl | (simp only [List.length_drop, List.length_take]; rfl)) ?_; (with_reducible refine (leaders_Choose.calls k1 t286 _ _ t287 _ _ t290 t295 t297 x9_1 t302 t303 _ ?side1 ?side2 ?side3 ?side4 A20.out).mono ?_); (case side1 => repeat (first | exact (Kd.R_reads' HO_295001.out).2.2 | (with_reducible refine Kd.C_alloc ?_ _) | (with_reducible refine Kd.C_drewN ?_ _) | (with_reducible refine Kd.C_drew ?_))); (case side2 => exact (Kd.R_reads' HO_295001.out).2.1); (case side3 => repeat (first | exact (Kd.R_reads' HO_295002.out).2.2 | (with_reducible refine Kd.C_alloc ?_ _) | (with_reducible refine Kd.C_drewN ?_ _) | (with_reducible refine Kd.C_drew ?_))); (case side4 => exact (Kd.R_reads' HO_295002.out).2.1); rintro e w50 ⟨rfl, hb⟩; refine ⟨_, rfl, ?_⟩; have n0_ := Aside0.mk (Kd.R_below (by (with_reducible repeat (first | apply Kd.R_alloc | apply Kd.R_drewN | apply Kd.R_drew)); exact HO_295001.out) hb); have n1_ := Aside0.mk (Kd.R_below (by (with_reducible repeat (first | apply Kd.R_alloc | apply Kd.R_drewN | apply Kd.R_drew)); exact HO_295002.out) hb); have n2_ := Aside0.mk (blk_below (g := gb294) (o := .cells #[.int .i64 t286, .slice Ao14 t287.length co14, .slice Ao15 t290.length co15] 27 (0, 0)) (by (with_reducible repeat (first | refine blk_drewN ?_ _ | refine blk_drew ?_ | refine blk_alloc ?_ _)); exact BK294.out) hb); have n3_ := Aside0.mk (below_step (by repeat (first | (with_reducible first | exact HB.out | apply below_alloc | apply pw_below_drewN | apply below_drew1 | refine below_set ?_ GE294.out) | exact HB.out)) hb); clear HO_295001; clear HO_295002; clear BK294; clear HB; have HO_295001 := n0_; have HO_295002 := n1_; have BK294 := n2_; have HB := n3_; clear n0_ n1_ n2_ n3_; (try clear hb); (try clear hb2); (try clear hk); (try clear hi); have hcz51_0 : w50.cell? ⟨gb294, 0, none⟩ = some (.int .i64 t286) := (blk_cell BK294.out 0).trans rfl; have hcz51_1 : w50.cell? ⟨gb294, 1, none⟩ = some (.slice Ao14 t287.length co14) := (blk_cell BK294.out 1).trans rfl; have hcz51_2 : w50.cell? ⟨gb294, 2, none⟩ = some (.slice Ao15 t290.length co15) := (blk_cell BK294.out 2).trans rfl; have hfz51_0 := blk_frozen BK294.out 0; have hfz51_1 := blk_frozen BK294.out 1; have hfz51_2 := blk_frozen BK294.out 2) | ((with_reducible refine gate_callee (f := 19) rfl ?_); refine goesL_ (some 44) rfl rfl Try.func19 (by kernel_rfl) rfl #[.agg #[.int .i64 t286, .slice Ao14 t287.length co14, .slice Ao15 t290.length co15], .int .i64 t295, .int .i64 t297, .int .i64 x9_1] rfl (by (try simp only [List.map_toArray, List.map_cons, List.map_nil]); first | done | rfl | (simp only [List.length_drop, List.length_take]; rfl)) ?_; (with_reducible refine (leaders_Leaders.calls k1 t286 _ _ t287 _ _ t290 t295 t297 x9_1 t304 t305 _ ?side1 ?side2 ?side3 ?side4 A21.out).mono ?_); (case side1 => repeat (first | exact (Kd.R_reads' HO_295001.out).2.2 | (with_reducible refine Kd.C_alloc ?_ _) | (with_reducible refine Kd.C_drewN ?_ _) | (with_reducible refine Kd.C_drew ?_))); (case side2 => exact (Kd.R_reads' HO_295001.out).2.1); (case side3 => repeat (first | exact (Kd.R_reads' HO_295002.out).2.2 | (with_reducible refine Kd.C_alloc ?_ _) | (with_reducible refine Kd.C_drewN ?_ _) | (with_reducible refine Kd.C_drew ?_))); (case side4 => exact (Kd.R_reads' HO_295002.out).2.1); rintro e w52 ⟨rfl, hb⟩; refine ⟨_, rfl, ?_⟩; have n0_ := Aside0.mk (Kd.R_below (by (with_reducible repeat (first | apply Kd.R_alloc | apply Kd.R_drewN | apply Kd.R_drew)); exact HO_295001.out) hb); have n1_ := Aside0.mk (Kd.R_below (by (with_reducible repeat (first | apply Kd.R_alloc | apply Kd.R_drewN | apply Kd.R_drew)); exact HO_295002.out) hb); have n2_ := Aside0.mk (blk_below (g := gb294) (o := .cells #[.int .i64 t286, .slice Ao14 t287.length co14, .slice Ao15 t290.length co15] 27 (0, 0)) (by (with_reducible repeat (first | refine blk_drewN ?_ _ | refine blk_drew ?_ | refine blk_alloc ?_ _)); exact BK294.out) hb); have n3_ := Aside0.mk (below_step (by repeat (first | (with_reducible first | exact HB.out | apply below_alloc | apply pw_below_drewN | apply below_drew1 | refine below_set ?_ GE294.out) | exact HB.out)) hb); clear HO_295001; clear HO_295002; clear BK294; clear HB; have HO_295001 := n0_; have HO_295002 := n1_; have BK294 := n2_; have HB := n3_; clear n0_ n1_ n2_ n3_; (try clear hb); (try clear hb2); (try clear hk); (try clear hi)))
          go_ret
          exact ⟨by first | rfl | (simp [errW_none, errW_some] <;> rfl) | (simp [*, errW_none, errW_some] <;> rfl), by repeat (first | (with_reducible first | exact HB.out | apply below_alloc | apply pw_below_drewN | apply below_drew1 | refine below_set ?_ GE294.out) | exact HB.out)⟩
      · rw [if_neg c19] at H
        have c19b0 : decide (x9_1 ≤ t299) = false := decide_eq_false c19
        clear c19
        replace H := Option.bind_eq_some_iff.mp H
        obtain ⟨t301, A530, H⟩ := H
        replace H : (some t301) = some r := H
        have A53 := Aside0.mk A530
        clear A530
        obtain rfl := Option.some.inj H
        go_wp2_with (first | ((with_reducible refine gate_callee (f := 14) rfl ?_); refine goesL_ (some 70) rfl rfl Try.func14 (by kernel_rfl) rfl #[] rfl (by (try simp only [List.map_toArray, List.map_cons, List.map_nil]); first | done | rfl | (simp only [List.length_drop, List.length_take]; rfl)) ?_; (with_reducible refine (trustquorumlaw21_awake.calls k1  t301 _ A53.out).mono ?_); rintro e w54 ⟨rfl, hb⟩; refine ⟨_, rfl, ?_⟩; have n0_ := Aside0.mk (Kd.R_below (by (with_reducible repeat (first | apply Kd.R_alloc | apply Kd.R_drewN | apply Kd.R_drew)); exact HO_295001.out) hb); have n1_ := Aside0.mk (Kd.R_below (by (with_reducible repeat (first | apply Kd.R_alloc | apply Kd.R_drewN | apply Kd.R_drew)); exact HO_295002.out) hb); have n2_ := Aside0.mk (blk_below (g := gb294) (o := .cells #[.int .i64 t286, .slice Ao14 t287.length co14, .slice Ao15 t290.length co15] 27 (0, 0)) (by (with_reducible repeat (first | refine blk_drewN ?_ _ | refine blk_drew ?_ | refine blk_alloc ?_ _)); exact BK294.out) hb); have n3_ := Aside0.mk (below_step (by repeat (first | (with_reducible first | exact HB.out | apply below_alloc | apply pw_below_drewN | apply below_drew1 | refine below_set ?_ GE294.out) | exact HB.out)) hb); clear HO_295001; clear HO_295002; clear BK294; clear HB; have HO_295001 := n0_; have HO_295002 := n1_; have BK294 := n2_; have HB := n3_; clear n0_ n1_ n2_ n3_; (try clear hb); (try clear hb2); (try clear hk); (try clear hi)))
        go_ret
        exact ⟨by first | rfl | (simp [errW_none, errW_some] <;> rfl) | (simp [*, errW_none, errW_some] <;> rfl), by repeat (first | (with_reducible first | exact HB.out | apply below_alloc | apply pw_below_drewN | apply below_drew1 | refine below_set ?_ GE294.out) | exact HB.out)⟩

/-- THE ONE PURE STATEMENT of trustquorumlaw21_LeadersGrow: yours. -/
def trustquorumlaw21_LeadersGrow.Pure : Prop := ∀ (l0 : List Int), l0.length ≤ maxLen → l0.length * 8 ≤ 140737488351232 → (∀ x ∈ l0, (Lit.int .i64 x).wf = true) → ∃ k, trustquorumlaw21_LeadersGrow.f k l0 = some true
theorem trustquorumlaw21_LeadersGrow.walk (P : trustquorumlaw21_LeadersGrow.Pure) (a0 : Option Addr) (len0 cap0 : Nat) (z0 : List Int) (w : World) (w0 : (a0 = none ∧ len0 = 0 ∧ cap0 = 0 ∧ z0 = []) ∨ ∃ x, a0 = some x ∧ len0 ≤ cap0 ∧ cap0 ≤ maxLen ∧ z0.length = cap0 ∧ (∀ i, i < z0.length → w.cell? (x.add i) = some (.int .i64 (z0.getD i 0))) ∧ ∀ n ∈ z0, (Lit.int .i64 n).wf = true) (y0 : len0 * 8 ≤ 140737488351232) :
    Calls Try.prog 6 #[.slice a0 len0 cap0] w fun e w' => e = .returned (.bool true) ∧ Below w.heap.size w w' := by
  obtain ⟨l0, rfl, hr0, hm0, hw0, hc0⟩ := ReadsInt.ofRowC w0
  obtain ⟨k, h⟩ := P l0 hm0 y0 hw0
  refine (trustquorumlaw21_LeadersGrow.calls k _ _ l0 true w (Kd.C_of_reads (d := (0 : Int)) (h1 := fun _ => rfl) hr0) hc0 h).mono ?_
  rintro e w' ⟨rfl, hd⟩
  exact ⟨rfl, hd⟩

end Go.Proofs.Ytphndccgadblnaa.QLeadersGrow
