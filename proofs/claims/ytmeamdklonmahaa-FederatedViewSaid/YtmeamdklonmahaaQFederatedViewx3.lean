/- Lean functions that answer as the Go functions do which the law reaches, and proofs that the Go code comes to exactly these answers. Conditions: those that each theorem names. -/
import Derived.Test.YtmeamdklonmahaaQFederatedViewx0
import Derived.Test.YtmeamdklonmahaaQFederatedViewx2
namespace Go.Proofs.Ytmeamdklonmahaa.QFederatedView
open Go.RowKit Go.Proofs.YtmeamdklonmahaaW.PrintWords Go.Proofs.YtmeamdklonmahaaW.PrintLast Go.Proofs.YtmeamdklonmahaaW.PrintMore
attribute [local go_sem] max2_int min2_int max_two min_two max_three min_three max_four min_four   -- for this text's walks alone
set_option linter.unusedVariables false
set_option linter.unusedSimpArgs false

/-! ### blocking_Blocks: function 48 -/
def blocking_Blocks.f (k : Nat) (l0_0 : List (S54)) (a1 : Int) (a2 : Int) : Option (Bool) := (nodeset_Valid.f a2).bind fun t117 => (if t117 = true then ((configuration_Declared.f k l0_0).bind fun t118 => ((nodeset_Has.f t118 a1).bind fun t119 => (if t119 = true then (if 0 ≤ a1 then (if a1 < (l0_0.length : Int) then ((threshold_Satisfied.f k ((rd_T54 l0_0 a1).f1.f0) ((rd_T54 l0_0 a1).f1.f1) ((rd_T54 l0_0 a1).f1.f2) (Go.bits .or .i64 (Go.bits .andNot .i64 1023 a2) (shl .i64 1 a1))).bind fun t121 => (some (!t121))) else (none)) else (none)) else (some false)))) else (some false))
theorem blocking_Blocks.mono : ∀ a0 a1 a2 k, LeO (blocking_Blocks.f k a0 a1 a2) (blocking_Blocks.f (k + 1) a0 a1 a2) := by
  intro a0 a1 a2 k
  unfold blocking_Blocks.f
  repeat' first
      | (with_reducible exact configuration_Declared.mono _ _)
      | (with_reducible exact threshold_Satisfied.mono _ _ _ _ _)
      | (with_reducible exact LeO.refl _)
      | (with_reducible exact LeO.none _)
      | (with_reducible refine LeO.ite ?_ ?_)
      | (with_reducible refine LeO.bind ?_ (fun _ => ?_))
      | exact configuration_Declared.mono _ _
      | exact threshold_Satisfied.mono _ _ _ _ _
      | exact LeO.none _
      | refine LeO.ite ?_ ?_
      | refine LeO.bind ?_ (fun _ => ?_)
def blocking_Blocks.T3 : Bool × List (List Nat × List Nat) := (true, [([], []), ([0], [0]), ([], []), ([1, 2], [1, 2]), ([3], [3]), ([4], [4]), ([], []), ([6], [6]), ([], []), ([8], [8]), ([7, 9], [7, 9]), ([5, 10], [5, 10]), ([11], [11]), ([12, 11, 0, 1, 2, 3, 4, 5, 6, 7, 8, 9, 10, 11, 12], [12])])
def blocking_Blocks.B3 : List Nat := [0, 1, 0, 7, 15, 31, 0, 64, 0, 256, 960, 2047, 4095, 8191]
theorem blocking_Blocks.tab3 : rtab .any (opsOf Try.f48 3) = blocking_Blocks.T3 := by kernel_rfl
theorem blocking_Blocks.bits3 : waitsOk blocking_Blocks.T3.2 blocking_Blocks.B3 = true := by kernel_rfl
set_option maxHeartbeats 8000000 in
set_option maxRecDepth 100000 in
theorem blocking_Blocks.calls (k : Nat) (A0_0 : Option Addr) (c0_0 : Nat) (l0_0 : List (S54)) (a1 : Int) (a2 : Int) (r : Bool) (w : World) (hr0_0 : Kd.C k54 w A0_0 l0_0.length l0_0) (hc0_0 : l0_0.length ≤ c0_0) (h : blocking_Blocks.f k l0_0 a1 a2 = some r) :
    Calls Try.prog 48 #[.agg #[.slice A0_0 l0_0.length c0_0], .int .i64 a1, .int .i64 a2] w fun e w' => e = .returned (.bool r) ∧ Below w.heap.size w w' := by
 have hu27 := Try.underlying27; have hu48 := Try.underlying48; have HR0_0 := Aside0.mk hr0_0; have HC0_0 := Aside0.mk hc0_0; clear hr0_0 hc0_0; have HB := Aside0.mk (Below.refl w.heap.size w); have H : ((nodeset_Valid.f a2).bind fun t117 => (if t117 = true then ((configuration_Declared.f k l0_0).bind fun t118 => ((nodeset_Has.f t118 a1).bind fun t119 => (if t119 = true then (if 0 ≤ a1 then (if a1 < (l0_0.length : Int) then ((threshold_Satisfied.f k ((rd_T54 l0_0 a1).f1.f0) ((rd_T54 l0_0 a1).f1.f1) ((rd_T54 l0_0 a1).f1.f2) (Go.bits .or .i64 (Go.bits .andNot .i64 1023 a2) (shl .i64 1 a1))).bind fun t121 => (some (!t121))) else (none)) else (none)) else (some false)))) else (some false))) = some r := h; clear h; replace H := Option.bind_eq_some_iff.mp H; obtain ⟨t117, A40, H⟩ := H; replace H : (if t117 = true then ((configuration_Declared.f k l0_0).bind fun t118 => ((nodeset_Has.f t118 a1).bind fun t119 => (if t119 = true then (if 0 ≤ a1 then (if a1 < (l0_0.length : Int) then ((threshold_Satisfied.f k ((rd_T54 l0_0 a1).f1.f0) ((rd_T54 l0_0 a1).f1.f1) ((rd_T54 l0_0 a1).f1.f2) (Go.bits .or .i64 (Go.bits .andNot .i64 1023 a2) (shl .i64 1 a1))).bind fun t121 => (some (!t121))) else (none)) else (none)) else (some false)))) else (some false)) = some r := H; have A4 := Aside0.mk A40; clear A40
 by_cases c5 : t117 = true
 ·
  subst c5; have H1 : ((configuration_Declared.f k l0_0).bind fun t118 => ((nodeset_Has.f t118 a1).bind fun t119 => (if t119 = true then (if 0 ≤ a1 then (if a1 < (l0_0.length : Int) then ((threshold_Satisfied.f k ((rd_T54 l0_0 a1).f1.f0) ((rd_T54 l0_0 a1).f1.f1) ((rd_T54 l0_0 a1).f1.f2) (Go.bits .or .i64 (Go.bits .andNot .i64 1023 a2) (shl .i64 1 a1))).bind fun t121 => (some (!t121))) else (none)) else (none)) else (some false)))) = some r := by rw [if_pos rfl] at H; exact H
  clear H; have H := H1; clear H1; replace H := Option.bind_eq_some_iff.mp H; obtain ⟨t118, A60, H⟩ := H; replace H : ((nodeset_Has.f t118 a1).bind fun t119 => (if t119 = true then (if 0 ≤ a1 then (if a1 < (l0_0.length : Int) then ((threshold_Satisfied.f k ((rd_T54 l0_0 a1).f1.f0) ((rd_T54 l0_0 a1).f1.f1) ((rd_T54 l0_0 a1).f1.f2) (Go.bits .or .i64 (Go.bits .andNot .i64 1023 a2) (shl .i64 1 a1))).bind fun t121 => (some (!t121))) else (none)) else (none)) else (some false))) = some r := H; have A6 := Aside0.mk A60; clear A60; replace H := Option.bind_eq_some_iff.mp H; obtain ⟨t119, A70, H⟩ := H; replace H : (if t119 = true then (if 0 ≤ a1 then (if a1 < (l0_0.length : Int) then ((threshold_Satisfied.f k ((rd_T54 l0_0 a1).f1.f0) ((rd_T54 l0_0 a1).f1.f1) ((rd_T54 l0_0 a1).f1.f2) (Go.bits .or .i64 (Go.bits .andNot .i64 1023 a2) (shl .i64 1 a1))).bind fun t121 => (some (!t121))) else (none)) else (none)) else (some false)) = some r := H; have A7 := Aside0.mk A70; clear A70
  by_cases c8 : t119 = true
  ·
   subst c8; have H1 : (if 0 ≤ a1 then (if a1 < (l0_0.length : Int) then ((threshold_Satisfied.f k ((rd_T54 l0_0 a1).f1.f0) ((rd_T54 l0_0 a1).f1.f1) ((rd_T54 l0_0 a1).f1.f2) (Go.bits .or .i64 (Go.bits .andNot .i64 1023 a2) (shl .i64 1 a1))).bind fun t121 => (some (!t121))) else (none)) else (none)) = some r := by rw [if_pos rfl] at H; exact H
   clear H; have H := H1; clear H1
   by_cases c9 : 0 ≤ a1
   ·
    rw [if_pos c9] at H; have c9b0 : decide (0 ≤ a1) = true := decide_eq_true c9; clear c9
    by_cases c10 : a1 < (l0_0.length : Int)
    ·
     rw [if_pos c10] at H; have c10b0 : decide (a1 < (l0_0.length : Int)) = true := decide_eq_true c10; clear c10; have c11b0 := eq_true (of_decide_eq_true (by first | (with_reducible assumption) | assumption) : 0 ≤ a1); obtain ⟨ji12, hji12⟩ : ∃ j_ : Int, (shl .i64 1 a1) = j_ := ⟨_, rfl⟩; replace H : ((threshold_Satisfied.f k ((rd_T54 l0_0 a1).f1.f0) ((rd_T54 l0_0 a1).f1.f1) ((rd_T54 l0_0 a1).f1.f2) (Go.bits .or .i64 (Go.bits .andNot .i64 1023 a2) (ji12))).bind fun t121 => (some (!t121))) = some r := by first | (rw [hji12] at H; exact H) | (simp only [hji12] at H ⊢; exact H)
     (try rw [hji12] at A4); (try rw [hji12] at A6); (try rw [hji12] at A7); have hji12_ : (IntKind.i64.wrap (1 * 2 ^ min a1.toNat 64)) = ji12 := hji12; have hji12z : a1 ≤ 64 → (IntKind.i64.wrap (1 * 2 ^ a1.toNat)) = ji12 := shl_small hji12; have hji12u : (IntKind.i64.wrap (2 ^ min a1.toNat 64)) = ji12 := by have h_ := hji12_; rw [Int.one_mul] at h_; exact h_
     have hji12v : a1 ≤ 64 → (IntKind.i64.wrap (2 ^ a1.toNat)) = ji12 := fun hle_ => by have h_ := hji12z hle_; rw [Int.one_mul] at h_; exact h_
     have hji12y : (wrap64 (1 * 2 ^ min a1.toNat 64)) = ji12 := (i64_w _).symm.trans hji12_; have hji12x : a1 ≤ 64 → (wrap64 (1 * 2 ^ a1.toNat)) = ji12 := fun h_ => (i64_w _).symm.trans (hji12z h_); replace H := Option.bind_eq_some_iff.mp H; obtain ⟨t121, A130, H⟩ := H; replace H : (some (!t121)) = some r := H; have A13 := Aside0.mk A130; clear A130; obtain rfl := Option.some.inj H
     go_enter Try.func48, Try.ntmps48
     try go_wp2_with (first | ((with_reducible refine gate_dst (N := 3) rfl ?_); refine box_event ?hg (N := 3) ?hd (cs := #[.slice A0_0 l0_0.length c0_0]) (t := 27) ?hr ?_; (case hd => rfl); (case hg => rfl); (case hr => first | (go_simp; done) | (go_simp; rfl)); intro gb116 hg w14 hbox hb; have BK116 := Aside0.mk (hbox); have GW116 := Aside0.mk ((by rw [hg]; exact (below_size HB.out) : w.heap.size ≤ gb116)); have GE116 := Aside0.mk ((by rw [hg]; exact (below_size HB.out) : w.heap.size ≤ gb116)); replace HB := Aside0.mk (below_step HB.out hb); clear hb hbox hg) | ((with_reducible refine gate_callee (f := 47) rfl ?_); refine goesL_ (some 8) rfl rfl Try.func47 (by kernel_rfl) rfl #[.int .i64 a2] rfl (by (try simp only [List.map_toArray, List.map_cons, List.map_nil]); first | done | rfl | (simp only [List.length_drop, List.length_take]; rfl)) ?_; (with_reducible refine (nodeset_Valid.calls a2 true _ A4.out).mono ?_); rintro e w' ⟨rfl, ⟨nd, rfl⟩⟩; refine ⟨_, rfl, ?_⟩; have hcz15_0 : w14.cell? ⟨gb116, 0, none⟩ = some (.slice A0_0 l0_0.length c0_0) := (blk_cell BK116.out 0).trans rfl; have hfz15_0 := blk_frozen BK116.out 0) | (go_at_call 82; (with_reducible refine (configuration_Declared.calls k _ _ l0_0 t118 _ ?side1 ?side2 A6.out).mono ?_); (case side1 => repeat (first | exact (Kd.C_below HR0_0.out (by repeat (first | (with_reducible first | exact HB.out | apply below_alloc | apply pw_below_drewN | apply below_drew1 | refine below_set ?_ GE116.out) | exact HB.out))) | (with_reducible refine Kd.C_alloc ?_ _) | (with_reducible refine Kd.C_drewN ?_ _) | (with_reducible refine Kd.C_drew ?_))); (case side2 => exact HC0_0.out); rintro e w16 ⟨rfl, hb⟩; replace BK116 := Aside0.mk (blk_below (g := gb116) (o := .cells #[.slice A0_0 l0_0.length c0_0] 27 (0, 0)) (by (with_reducible repeat (first | refine blk_drewN ?_ _ | refine blk_drew ?_ | refine blk_alloc ?_ _)); exact BK116.out) hb); replace HB := Aside0.mk (below_step (by repeat (first | (with_reducible first | exact HB.out | apply below_alloc | apply pw_below_drewN | apply below_drew1 | refine below_set ?_ GE116.out) | exact HB.out)) hb); (try clear hb); (try clear hb2); (try clear hk); (try clear hi)) | (go_at_call 49; (with_reducible refine (nodeset_Has.calls t118 a1 true _ A7.out).mono ?_); rintro e w' ⟨rfl, ⟨nd, rfl⟩⟩))
     (try (rw [drewN_self w16]; generalize hq_ : World.drewN w16 _ = w16; have n0_ : Aside0 (w16.heap[gb116]? = some (.cells #[.slice A0_0 l0_0.length c0_0] 27 (0, 0))) := ⟨by rw [← hq_]; exact (by (with_reducible repeat (first | refine blk_drewN ?_ _ | refine blk_drew ?_ | refine blk_alloc ?_ _)); exact BK116.out)⟩; have n1_ : Aside0 (Below w.heap.size w w16) := ⟨by rw [← hq_]; exact (by repeat (first | (with_reducible first | exact HB.out | apply below_alloc | apply pw_below_drewN | apply below_drew1 | refine below_set ?_ GE116.out) | exact HB.out))⟩; clear BK116 HB hq_; have BK116 := n0_; have HB := n1_; clear n0_ n1_)); replace BK116 := Aside0.mk (blk_drew BK116.out); replace HB := Aside0.mk (below_drew1 HB.out); have p120 : 0 ≤ (a1 : Int) := of_decide_eq_true (by first | (with_reducible assumption) | assumption); have q120 : a1 < (l0_0.length : Int) := of_decide_eq_true (by first | (with_reducible assumption) | assumption); obtain ⟨ad120, A120_2, c120_2, A120_3, c120_3, e120, hx120_0, hx120_1, hx120_2, hx120_3, hl120_2, hi120_2, hl120_3, hi120_3⟩ := at_T54 HR0_0.out a1 p120 q120; have hw120_3 := hx120_3; have hw120_2 := hx120_2; have hw120_1 := hx120_1; have hw120_0 := hx120_0
     cases e120
     replace hx120_0 := (HB.out.cell (World.block_lt_of_cell? w _ hx120_0)).trans hx120_0; replace hx120_1 := (HB.out.cell (World.block_lt_of_cell? w _ hx120_1)).trans hx120_1; replace hx120_2 := (HB.out.cell (World.block_lt_of_cell? w _ hx120_2)).trans hx120_2; replace hx120_3 := (HB.out.cell (World.block_lt_of_cell? w _ hx120_3)).trans hx120_3; have HR120_2 := Aside0.mk hi120_2; have HC120_2 := Aside0.mk hl120_2; clear hi120_2 hl120_2; have HR120_3 := Aside0.mk hi120_3; have HC120_3 := Aside0.mk hl120_3; clear hi120_3 hl120_3; replace p120 := eq_true p120; replace q120 := eq_true q120; refine start_ (n := 14) (S := fun w' => w'.cell? ⟨gb116, 0, none⟩ = some (.slice (some ad120) l0_0.length c0_0) ∧ w'.cell? (ad120.add ((a1).toNat * 4)) = some (.bool ((rd_T54 l0_0 a1).f0)) ∧ w'.cell? ⟨(ad120.add ((a1).toNat * 4)).block, (ad120.add ((a1).toNat * 4)).off + 1, none⟩ = some (.int .i64 ((rd_T54 l0_0 a1).f1.f0)) ∧ w'.cell? ⟨(ad120.add ((a1).toNat * 4)).block, (ad120.add ((a1).toNat * 4)).off + 2, none⟩ = some (.slice A120_2 ((rd_T54 l0_0 a1).f1.f1).length c120_2) ∧ w'.cell? ⟨(ad120.add ((a1).toNat * 4)).block, (ad120.add ((a1).toNat * 4)).off + 3, none⟩ = some (.slice A120_3 ((rd_T54 l0_0 a1).f1.f2).length c120_3)) (ds := []) #[false, false, false, false, false, false, false, false, false, false, false, false, false, false] (by kernel_rfl) rfl rfl ⟨(blk_cell BK116.out 0).trans rfl, ((HB.out.cell (World.block_lt_of_cell? w _ hw120_0)).trans hw120_0), ((HB.out.cell (World.block_lt_of_cell? w _ hw120_1)).trans hw120_1), ((HB.out.cell (World.block_lt_of_cell? w _ hw120_2)).trans hw120_2), ((HB.out.cell (World.block_lt_of_cell? w _ hw120_3)).trans hw120_3)⟩ (fun hHeld => ?_); refine with_tabW blocking_Blocks.tab3 blocking_Blocks.bits3 (fun HT_ HW_ => ?_)
     generalize w16.drew = w17 at BK116 HB HR120_2 HR120_3 hx120_0 hx120_1 hx120_2 hx120_3 hHeld ⊢; refine pure_ (i := 0) (N := some 17) (v := ?_) (a' := ?_) #[true, false, false, false, false, false, false, false, false, false, false, false, false, false] rfl rfl (any_of HT_.out (by kernel_rfl)) (fun _ _ _ h => h) (Or.inl ⟨by rfl, ?_⟩) ?_ ?_; rotate_left
     ·
      intro w'; go_simp
      with_reducible rfl
     rotate_left
     ·
      simp only [Act.put, List.setIfInBounds_toArray, List.set_cons_zero, List.set_cons_succ, i64_w, i32_w]; rfl
     refine pure_ (i := 2) (N := some 19) (v := ?_) (a' := ?_) #[true, false, true, false, false, false, false, false, false, false, false, false, false, false] rfl rfl (any_of HT_.out (by kernel_rfl)) (fun _ _ _ h => h) (Or.inl ⟨by rfl, ?_⟩) ?_ ?_; rotate_left
     ·
      intro w'; go_simp
      with_reducible rfl
     rotate_left
     ·
      simp only [Act.put, List.setIfInBounds_toArray, List.set_cons_zero, List.set_cons_succ, i64_w, i32_w]; rfl
     refine pure_ (i := 6) (N := some 23) (v := ?_) (a' := ?_) #[true, false, true, false, false, false, true, false, false, false, false, false, false, false] rfl rfl (any_of HT_.out (by kernel_rfl)) (fun _ _ _ h => h) (Or.inl ⟨by rfl, ?_⟩) ?_ ?_; rotate_left
     ·
      intro w'; go_simp
      with_reducible rfl
     rotate_left
     ·
      simp only [Act.put, List.setIfInBounds_toArray, List.set_cons_zero, List.set_cons_succ, i64_w, i32_w]; rfl
     refine pure_ (i := 7) (N := some 24) (v := ?_) (a' := ?_) #[true, false, true, false, false, false, true, true, false, false, false, false, false, false] rfl rfl (any_of HT_.out (by kernel_rfl)) (fun _ _ _ h => h) (Or.inl ⟨by rfl, ?_⟩) ?_ ?_; rotate_left
     ·
      intro w'; go_simp
      with_reducible rfl
     rotate_left
     ·
      simp only [Act.put, List.setIfInBounds_toArray, List.set_cons_zero, List.set_cons_succ, i64_w, i32_w]; rfl
     refine pure_ (i := 8) (N := some 25) (v := ?_) (a' := ?_) #[true, false, true, false, false, false, true, true, true, false, false, false, false, false] rfl rfl (any_of HT_.out (by kernel_rfl)) (fun _ _ _ h => h) (Or.inl ⟨by rfl, ?_⟩) ?_ ?_; rotate_left
     ·
      intro w'; go_simp
      with_reducible rfl
     rotate_left
     ·
      simp only [Act.put, List.setIfInBounds_toArray, List.set_cons_zero, List.set_cons_succ, i64_w, i32_w]; rfl
     refine pure_ (i := 9) (N := some 26) (v := ?_) (a' := ?_) #[true, false, true, false, false, false, true, true, true, true, false, false, false, false] rfl rfl (any_of HT_.out (by kernel_rfl)) (fun _ _ _ h => h) (Or.inl ⟨by rfl, ?_⟩) ?_ ?_; rotate_left
     ·
      intro w'; go_simp
      with_reducible rfl
     rotate_left
     ·
      simp only [Act.put, List.setIfInBounds_toArray, List.set_cons_zero, List.set_cons_succ, i64_w, i32_w]; rfl
     refine pure_ (i := 10) (N := some 27) (v := ?_) (a' := ?_) #[true, false, true, false, false, false, true, true, true, true, true, false, false, false] rfl rfl (any_of HT_.out (by kernel_rfl)) (fun _ _ _ h => h) (Or.inl ⟨by rfl, ?_⟩) ?_ ?_; rotate_left
     ·
      intro w'; go_simp
      with_reducible rfl
     rotate_left
     ·
      simp only [Act.put, List.setIfInBounds_toArray, List.set_cons_zero, List.set_cons_succ, i64_w, i32_w]; rfl
     refine take_ (i := 1) (N := some 18) (v := ?_) (a' := ?_) #[true, true, true, false, false, false, true, true, true, true, true, false, false, false] rfl rfl (take_ofW HT_.out HW_.out (by kernel_rfl)) (fun _ _ _ h => h) (Or.inl ⟨by rfl, ?_⟩) hHeld ?_ ?_; rotate_left
     ·
      rintro w' ⟨s0, s1, s2, s3, s4⟩; go_simp
      with_reducible rfl
     rotate_left
     ·
      simp only [Act.put, List.setIfInBounds_toArray, List.set_cons_zero, List.set_cons_succ, i64_w, i32_w]; rfl
     refine pure_ (i := 3) (N := some 20) (v := ?_) (a' := ?_) #[true, true, true, true, false, false, true, true, true, true, true, false, false, false] rfl rfl (any_of HT_.out (by kernel_rfl)) (fun _ _ _ h => h) (Or.inl ⟨by rfl, ?_⟩) ?_ ?_; rotate_left
     ·
      intro w'; go_simp
      with_reducible rfl
     rotate_left
     ·
      simp only [Act.put, List.setIfInBounds_toArray, List.set_cons_zero, List.set_cons_succ, i64_w, i32_w]; rfl
     refine pure_ (i := 4) (N := some 21) (v := ?_) (a' := ?_) #[true, true, true, true, true, false, true, true, true, true, true, false, false, false] rfl rfl (any_of HT_.out (by kernel_rfl)) (fun _ _ _ h => h) (Or.inl ⟨by rfl, ?_⟩) ?_ ?_; rotate_left
     ·
      intro w'; go_simp
      with_reducible rfl
     rotate_left
     ·
      simp only [Act.put, List.setIfInBounds_toArray, List.set_cons_zero, List.set_cons_succ, i64_w, i32_w]; rfl
     refine take_ (i := 5) (N := some 22) (v := ?_) (a' := ?_) #[true, true, true, true, true, true, true, true, true, true, true, false, false, false] rfl rfl (take_ofW HT_.out HW_.out (by kernel_rfl)) (fun _ _ _ h => h) (Or.inl ⟨by rfl, ?_⟩) hHeld ?_ ?_; rotate_left
     ·
      rintro w' ⟨s0, s1, s2, s3, s4⟩; go_simp
      with_reducible rfl
     rotate_left
     ·
      simp only [Act.put, List.setIfInBounds_toArray, List.set_cons_zero, List.set_cons_succ, i64_w, i32_w]; rfl
     refine one_ (i := 11) (N := some 28) #[true, true, true, true, true, true, true, true, true, true, true, true, false, false] rfl rfl (one_of HT_.out (by kernel_rfl)) (by decide) (fun K hK => ?_); refine goes_ Try.func83 (by kernel_rfl) rfl #[.agg #[.int .i64 ((rd_T54 l0_0 a1).f1.f0), .slice A120_2 ((rd_T54 l0_0 a1).f1.f1).length c120_2, .slice A120_3 ((rd_T54 l0_0 a1).f1.f2).length c120_3], .int .i64 (Go.bits .or .i64 (Go.bits .andNot .i64 1023 a2) (ji12))] (by rfl) rfl rfl (by (try simp only [List.map_toArray, List.map_cons, List.map_nil]); first | done | (simp only [hji12]; rfl) | rfl | (simp only [List.length_drop, List.length_take]; rfl)) ?_
     with_reducible refine (threshold_Satisfied.calls k ((rd_T54 l0_0 a1).f1.f0) _ _ ((rd_T54 l0_0 a1).f1.f1) _ _ ((rd_T54 l0_0 a1).f1.f2) (Go.bits .or .i64 (Go.bits .andNot .i64 1023 a2) (ji12)) t121 _ ?side1 ?side2 ?side3 ?side4 A13.out).mono ?_
     (case side1 => exact (Kd.C_below HR120_2.out HB.out))
     (case side2 => exact HC120_2.out)
     (case side3 => exact (Kd.C_below HR120_3.out HB.out))
     (case side4 => exact HC120_3.out)
     rintro e w18 ⟨rfl, hb⟩; refine ⟨_, rfl, ?_⟩; replace BK116 := Aside0.mk (blk_below BK116.out hb); replace HB := Aside0.mk (below_step HB.out hb); (try clear hb); (try clear hb2); (try clear hk); (try clear hi); refine hK.out _ _ ⟨(blk_cell BK116.out 0).trans rfl, ((HB.out.cell (World.block_lt_of_cell? w _ hw120_0)).trans hw120_0), ((HB.out.cell (World.block_lt_of_cell? w _ hw120_1)).trans hw120_1), ((HB.out.cell (World.block_lt_of_cell? w _ hw120_2)).trans hw120_2), ((HB.out.cell (World.block_lt_of_cell? w _ hw120_3)).trans hw120_3)⟩ (fun hHeld => ?_); clear hK K; refine norm_ (a' := ?_) ?_ ?_; rotate_left
     ·
      show Act.put _ (some 28) _ = _
      simp only [Act.put, List.setIfInBounds_toArray, List.set_cons_zero, List.set_cons_succ, i64_w, i32_w]; rfl
     refine pure_ (i := 12) (N := some 29) (v := ?_) (a' := ?_) #[true, true, true, true, true, true, true, true, true, true, true, true, true, false] rfl rfl (any_of HT_.out (by kernel_rfl)) (fun _ _ _ h => h) (Or.inl ⟨by rfl, ?_⟩) ?_ ?_; rotate_left
     ·
      intro w'; go_simp
      with_reducible rfl
     rotate_left
     ·
      simp only [Act.put, List.setIfInBounds_toArray, List.set_cons_zero, List.set_cons_succ, i64_w, i32_w]; rfl
     refine pure_ (i := 13) (N := some 6) (v := ?_) (a' := ?_) #[true, true, true, true, true, true, true, true, true, true, true, true, true, true] rfl rfl (any_of HT_.out (by kernel_rfl)) (fun _ _ _ h => h) (Or.inl ⟨by rfl, ?_⟩) ?_ ?_; rotate_left
     ·
      intro w'; go_simp
      with_reducible rfl
     rotate_left
     ·
      simp only [Act.put, List.setIfInBounds_toArray, List.set_cons_zero, List.set_cons_succ, i64_w, i32_w]; rfl
     refine done_ (done_of HT_.out (by kernel_rfl)) ?_
     try go_wp2
     go_ret
     exact ⟨by first | rfl | (simp [errW_none, errW_some] <;> rfl) | (simp only [← hji12]; first | rfl | (simp [errW_none, errW_some] <;> rfl)) | (simp [*, errW_none, errW_some] <;> rfl), by exact HB.out⟩
    ·
     rw [if_neg c10] at H; exact absurd H (by simp)
   ·
    rw [if_neg c9] at H; exact absurd H (by simp)
  ·
   replace c8 := Bool.eq_false_iff.mpr c8; subst c8; have H1 : (some false) = some r := by rw [if_neg (show ¬ (false = true) by decide)] at H; exact H
   clear H; have H := H1; clear H1; obtain rfl := Option.some.inj H
   go_enter Try.func48, Try.ntmps48
   go_wp2_with (first | ((with_reducible refine gate_dst (N := 3) rfl ?_); refine box_event ?hg (N := 3) ?hd (cs := #[.slice A0_0 l0_0.length c0_0]) (t := 27) ?hr ?_; (case hd => rfl); (case hg => rfl); (case hr => first | (go_simp; done) | (go_simp; rfl)); intro gb116 hg w19 hbox hb; have BK116 := Aside0.mk (hbox); have GW116 := Aside0.mk ((by rw [hg]; exact (below_size HB.out) : w.heap.size ≤ gb116)); have GE116 := Aside0.mk ((by rw [hg]; exact (below_size HB.out) : w.heap.size ≤ gb116)); replace HB := Aside0.mk (below_step HB.out hb); clear hb hbox hg) | ((with_reducible refine gate_callee (f := 47) rfl ?_); refine goesL_ (some 8) rfl rfl Try.func47 (by kernel_rfl) rfl #[.int .i64 a2] rfl (by (try simp only [List.map_toArray, List.map_cons, List.map_nil]); first | done | rfl | (simp only [List.length_drop, List.length_take]; rfl)) ?_; (with_reducible refine (nodeset_Valid.calls a2 true _ A4.out).mono ?_); rintro e w' ⟨rfl, ⟨nd, rfl⟩⟩; refine ⟨_, rfl, ?_⟩; have hcz20_0 : w19.cell? ⟨gb116, 0, none⟩ = some (.slice A0_0 l0_0.length c0_0) := (blk_cell BK116.out 0).trans rfl; have hfz20_0 := blk_frozen BK116.out 0) | (go_at_call 82; (with_reducible refine (configuration_Declared.calls k _ _ l0_0 t118 _ ?side1 ?side2 A6.out).mono ?_); (case side1 => repeat (first | exact (Kd.C_below HR0_0.out (by repeat (first | (with_reducible first | exact HB.out | apply below_alloc | apply pw_below_drewN | apply below_drew1 | refine below_set ?_ GE116.out) | exact HB.out))) | (with_reducible refine Kd.C_alloc ?_ _) | (with_reducible refine Kd.C_drewN ?_ _) | (with_reducible refine Kd.C_drew ?_))); (case side2 => exact HC0_0.out); rintro e w21 ⟨rfl, hb⟩; replace BK116 := Aside0.mk (blk_below (g := gb116) (o := .cells #[.slice A0_0 l0_0.length c0_0] 27 (0, 0)) (by (with_reducible repeat (first | refine blk_drewN ?_ _ | refine blk_drew ?_ | refine blk_alloc ?_ _)); exact BK116.out) hb); replace HB := Aside0.mk (below_step (by repeat (first | (with_reducible first | exact HB.out | apply below_alloc | apply pw_below_drewN | apply below_drew1 | refine below_set ?_ GE116.out) | exact HB.out)) hb); (try clear hb); (try clear hb2); (try clear hk); (try clear hi)) | (go_at_call 49; (with_reducible refine (nodeset_Has.calls t118 a1 false _ A7.out).mono ?_); rintro e w' ⟨rfl, ⟨nd, rfl⟩⟩))
   go_ret
   exact ⟨by first | rfl | (simp [errW_none, errW_some] <;> rfl) | (simp [*, errW_none, errW_some] <;> rfl), by repeat (first | (with_reducible first | exact HB.out | apply below_alloc | apply pw_below_drewN | apply below_drew1 | refine below_set ?_ GE116.out) | exact HB.out)⟩
 ·
  replace c5 := Bool.eq_false_iff.mpr c5; subst c5; have H1 : (some false) = some r := by rw [if_neg (show ¬ (false = true) by decide)] at H; exact H
  clear H; have H := H1; clear H1; obtain rfl := Option.some.inj H
  go_enter Try.func48, Try.ntmps48
  go_wp2_with (first | ((with_reducible refine gate_dst (N := 3) rfl ?_); refine box_event ?hg (N := 3) ?hd (cs := #[.slice A0_0 l0_0.length c0_0]) (t := 27) ?hr ?_; (case hd => rfl); (case hg => rfl); (case hr => first | (go_simp; done) | (go_simp; rfl)); intro gb116 hg w22 hbox hb; have BK116 := Aside0.mk (hbox); have GW116 := Aside0.mk ((by rw [hg]; exact (below_size HB.out) : w.heap.size ≤ gb116)); have GE116 := Aside0.mk ((by rw [hg]; exact (below_size HB.out) : w.heap.size ≤ gb116)); replace HB := Aside0.mk (below_step HB.out hb); clear hb hbox hg) | ((with_reducible refine gate_callee (f := 47) rfl ?_); refine goesL_ (some 8) rfl rfl Try.func47 (by kernel_rfl) rfl #[.int .i64 a2] rfl (by (try simp only [List.map_toArray, List.map_cons, List.map_nil]); first | done | rfl | (simp only [List.length_drop, List.length_take]; rfl)) ?_; (with_reducible refine (nodeset_Valid.calls a2 false _ A4.out).mono ?_); rintro e w' ⟨rfl, ⟨nd, rfl⟩⟩; refine ⟨_, rfl, ?_⟩))
  go_ret
  exact ⟨by first | rfl | (simp [errW_none, errW_some] <;> rfl) | (simp [*, errW_none, errW_some] <;> rfl), by repeat (first | (with_reducible first | exact HB.out | apply below_alloc | apply pw_below_drewN | apply below_drew1 | refine below_set ?_ GE116.out) | exact HB.out)⟩
/-! ### nodeset_Nodes: function 125 -/
def nodeset_Nodes.l0 : Nat → Int → List Int → Int → Option (List Int)
  | 0, _, _, _ => none
  | k + 1, x0, x3, x5 => if x5 < 10 then ((nodeset_Has.f x0 x5).bind fun t122 => (if t122 = true then (if x3.length < 17592186044416 then (nodeset_Nodes.l0 k x0 (x3 ++ [x5]) (wrap64 (x5 + 1))) else (none)) else (nodeset_Nodes.l0 k x0 x3 (wrap64 (x5 + 1))))) else (some x3)
def nodeset_Nodes.f (k : Nat) (a0 : Int) : Option (List Int) := nodeset_Nodes.l0 k a0 ([] : List Int) 0
theorem nodeset_Nodes.mono_l : ∀ k, (∀ y0 y1 y2, LeO (nodeset_Nodes.l0 k y0 y1 y2) (nodeset_Nodes.l0 (k + 1) y0 y1 y2))
  | 0 => fun _ _ _ r h => by simp [nodeset_Nodes.l0] at h
  | k + 1 => by
    have ih0 := nodeset_Nodes.mono_l k
    · intro y0 y1 y2
      unfold nodeset_Nodes.l0
      repeat' first
      | (with_reducible exact ih0 _ _ _)
      | (with_reducible exact LeO.refl _)
      | (with_reducible exact LeO.none _)
      | (with_reducible refine LeO.ite ?_ ?_)
      | (with_reducible refine LeO.bind ?_ (fun _ => ?_))
      | exact ih0 _ _ _
      | exact LeO.none _
      | refine LeO.ite ?_ ?_
      | refine LeO.bind ?_ (fun _ => ?_)
theorem nodeset_Nodes.mono : ∀ a0 k, LeO (nodeset_Nodes.f k a0) (nodeset_Nodes.f (k + 1) a0) := by
  intro a0 k
  have ih0 := nodeset_Nodes.mono_l k
  unfold nodeset_Nodes.f
  repeat' first
      | (with_reducible exact ih0 _ _ _)
      | (with_reducible exact LeO.refl _)
      | (with_reducible exact LeO.none _)
      | (with_reducible refine LeO.ite ?_ ?_)
      | (with_reducible refine LeO.bind ?_ (fun _ => ?_))
      | exact ih0 _ _ _
      | exact LeO.none _
      | refine LeO.ite ?_ ?_
      | refine LeO.bind ?_ (fun _ => ?_)
set_option maxHeartbeats 8000000 in
set_option maxRecDepth 100000 in
theorem nodeset_Nodes.calls (k : Nat) (a0 : Int) (r : List Int) (w : World) (h : nodeset_Nodes.f k a0 = some r) :
    Calls Try.prog 125 #[.int .i64 a0] w fun e w' => ∃ v0_ : Value, e = .returned (v0_) ∧ Kd.R (Kd.int .i64) 3 w' w.heap.size (fun _ => True) v0_ r ∧ Below w.heap.size w w' := by
 have HB := Aside0.mk (Below.refl w.heap.size w); have H : (nodeset_Nodes.l0 k a0 ([] : List Int) 0) = some r := h; clear h; have H' := Aside0.mk H; clear H
 go_enter Try.func125, Try.ntmps125
 go_wp2
 go_loopg [3, 5] k (fun kq v3 v5 w' => ∃ (x3_1 : List Int) (x5_1 : Int), v5 = .int .i64 x5_1 ∧ Aside0 (nodeset_Nodes.l0 kq a0 x3_1 x5_1 = some r) ∧ Aside0 (kq ≤ k) ∧ Aside0 (Kd.R (Kd.int .i64) 3 w' w.heap.size (fun _ => True) v3 x3_1) ∧ Aside0 (Below w.heap.size w w'))
 case atStart => exact ⟨(([] : List Int)), (0), (by first | rfl | (simp; done) | (simp [*]; done) | (refine congrArg (Value.int .i64) ?_; unfold wrap64; omega)), H', ⟨Nat.le_refl _⟩, ⟨by first | exact Kd.R_nil _ _ _ _ _ | exact Kd.N_nil _ _ _ _ _ | exact Kd.V_nil _ _ _ _ _ | exact Kd.Q_nil _ _ _ _ _ | exact Kd.S_nil _ _ _ _ _⟩, ⟨by exact HB.out⟩⟩
 case round =>
  clear H'; (try clear c1); obtain ⟨x3_1, x5_1, rfl, HA, HK1, HO_3, HB⟩ := hrel
  cases gk with
  | zero => exact absurd HA.out (by simp [nodeset_Nodes.l0])
  | succ k1 =>
   have H := HA.out; clear HA; simp only [nodeset_Nodes.l0] at H
   by_cases c2 : x5_1 < 10
   ·
    rw [if_pos c2] at H; have c2b0 : decide (x5_1 < 10) = true := decide_eq_true c2; clear c2; replace H := Option.bind_eq_some_iff.mp H; obtain ⟨t122, A30, H⟩ := H; replace H : (if t122 = true then (if x3_1.length < 17592186044416 then (nodeset_Nodes.l0 k1 a0 (x3_1 ++ [x5_1]) (wrap64 (x5_1 + 1))) else (none)) else (nodeset_Nodes.l0 k1 a0 x3_1 (wrap64 (x5_1 + 1)))) = some r := H; have A3 := Aside0.mk A30; clear A30
    by_cases c4 : t122 = true
    ·
     subst c4; have H1 : (if x3_1.length < 17592186044416 then (nodeset_Nodes.l0 k1 a0 (x3_1 ++ [x5_1]) (wrap64 (x5_1 + 1))) else (none)) = some r := by rw [if_pos rfl] at H; exact H
     clear H; have H := H1; clear H1
     by_cases c5 : x3_1.length < 17592186044416
     ·
      rw [if_pos c5] at H; have LMc5 := Aside0.mk c5; clear c5; obtain ⟨y123, hy123⟩ : ∃ y_ : List Int, y_ = (x3_1 ++ [x5_1]) := ⟨_, rfl⟩; replace H : (nodeset_Nodes.l0 k1 a0 y123 (wrap64 (x5_1 + 1))) = some r := by first | (rw [hy123]; with_reducible exact H) | (have H2_ := (Option.bind_some _ _).symm.trans H; rw [hy123]; with_reducible exact H2_) | (have H2_ := (Option.bind_some _ _).symm.trans H; with_reducible exact H2_) | with_reducible exact H | (rw [hy123]; exact H) | exact H
      have Ny123 := Aside0.mk hy123; clear hy123; have H' := Aside0.mk H; clear H
      go_wp2_with (first | ((with_reducible refine gate_callee (f := 49) rfl ?_); refine goesL_ (some 10) rfl rfl Try.func49 (by kernel_rfl) rfl #[.int .i64 a0, .int .i64 x5_1] rfl (by (try simp only [List.map_toArray, List.map_cons, List.map_nil]); first | done | rfl | (simp only [List.length_drop, List.length_take]; rfl)) ?_; (with_reducible refine (nodeset_Has.calls a0 x5_1 true _ A3.out).mono ?_); rintro e w' ⟨rfl, ⟨nd, rfl⟩⟩; refine ⟨_, rfl, ?_⟩) | ((with_reducible refine gate_builtin (b := .append) (xs := #[.tmp 11, .tmp 13]) rfl ?_); at_builtin; refine Kd.R_append (Kd.int .i64) (w0 := w) w.heap.size rfl (.tmp 11) (.tmp 13) 22 3 (.int .i64 0) 8 rfl Try.underlying22 info3 rfl (by decide) (by omega) u3 x3_1 x5_1 [.int .i64 x5_1] (fun _ => True) (fun _ => False) rfl rfl ?aP (fun _ hk => hk.elim) ?aF ?aO ?aB ?aS ?aL ?_; (case aP => exact rfl); (case aB => exact (by repeat (first | (with_reducible first | exact HB.out | apply below_alloc | apply pw_below_drewN | apply below_drew1) | exact HB.out))); (case aF => exact (fun _ _ => trivial)); (case aO => exact (by (with_reducible repeat (first | apply Kd.R_alloc | apply Kd.R_drewN | apply Kd.R_drew)); exact HO_3.out)); (case aS => exact (below_size (by repeat (first | (with_reducible first | exact HB.out | apply below_alloc | apply pw_below_drewN | apply below_drew1) | exact HB.out)))); (case aL => have := LMc5.out; omega); intro v124 w6 ho hb hg hat; rw [← Ny123.out] at ho; replace HB := Aside0.mk (hb); have HO125 := Aside0.mk (ho); clear HO_3; clear ho hb hg hat))
      go_roundg k1
      case measure => have := HK1.out; omega
      case rel => exact ⟨(y123), (wrap64 (x5_1 + 1)), (by first | rfl | (simp; done) | (simp [*]; done) | (refine congrArg (Value.int .i64) ?_; unfold wrap64; omega)), H', ⟨by have := HK1.out; omega⟩, ⟨by exact HO125.out⟩, ⟨by exact HB.out⟩⟩
     ·
      rw [if_neg c5] at H; exact absurd H (by simp)
    ·
     replace c4 := Bool.eq_false_iff.mpr c4; subst c4; have H1 : (nodeset_Nodes.l0 k1 a0 x3_1 (wrap64 (x5_1 + 1))) = some r := by rw [if_neg (show ¬ (false = true) by decide)] at H; exact H
     clear H; have H := H1; clear H1; have H' := Aside0.mk H; clear H
     go_wp2_with (first | ((with_reducible refine gate_callee (f := 49) rfl ?_); refine goesL_ (some 10) rfl rfl Try.func49 (by kernel_rfl) rfl #[.int .i64 a0, .int .i64 x5_1] rfl (by (try simp only [List.map_toArray, List.map_cons, List.map_nil]); first | done | rfl | (simp only [List.length_drop, List.length_take]; rfl)) ?_; (with_reducible refine (nodeset_Has.calls a0 x5_1 false _ A3.out).mono ?_); rintro e w' ⟨rfl, ⟨nd, rfl⟩⟩; refine ⟨_, rfl, ?_⟩))
     go_roundg k1
     case measure => have := HK1.out; omega
     case rel => exact ⟨(x3_1), (wrap64 (x5_1 + 1)), (by first | rfl | (simp; done) | (simp [*]; done) | (refine congrArg (Value.int .i64) ?_; unfold wrap64; omega)), H', ⟨by have := HK1.out; omega⟩, ⟨by (with_reducible repeat (first | apply Kd.R_alloc | apply Kd.R_drewN | apply Kd.R_drew)); exact HO_3.out⟩, ⟨by repeat (first | (with_reducible first | exact HB.out | apply below_alloc | apply pw_below_drewN | apply below_drew1) | exact HB.out)⟩⟩
   ·
    rw [if_neg c2] at H; have c2b0 : decide (x5_1 < 10) = false := decide_eq_false c2; clear c2; obtain rfl := Option.some.inj H
    go_wp2
    go_ret
    exact ⟨_, by first | rfl | (simp [errW_none, errW_some] <;> rfl) | (simp [*, errW_none, errW_some] <;> rfl), by exact HO_3.out, by exact HB.out⟩
/-! ### closure_content: function 126 -/
def closure_content.f (k : Nat) (l0_0 : List (S54)) (a1 : Int) (a2 : Int) : Option (Bool) := if 0 ≤ a1 then (if a1 < (l0_0.length : Int) then ((threshold_Satisfied.f k ((rd_T54 l0_0 a1).f1.f0) ((rd_T54 l0_0 a1).f1.f1) ((rd_T54 l0_0 a1).f1.f2) a2).bind fun t128 => (some t128)) else (none)) else (none)
theorem closure_content.mono : ∀ a0 a1 a2 k, LeO (closure_content.f k a0 a1 a2) (closure_content.f (k + 1) a0 a1 a2) := by
  intro a0 a1 a2 k
  unfold closure_content.f
  repeat' first
      | (with_reducible exact threshold_Satisfied.mono _ _ _ _ _)
      | (with_reducible exact LeO.refl _)
      | (with_reducible exact LeO.none _)
      | (with_reducible refine LeO.ite ?_ ?_)
      | (with_reducible refine LeO.bind ?_ (fun _ => ?_))
      | exact threshold_Satisfied.mono _ _ _ _ _
      | exact LeO.none _
      | refine LeO.ite ?_ ?_
      | refine LeO.bind ?_ (fun _ => ?_)
set_option maxHeartbeats 8000000 in
set_option maxRecDepth 100000 in
theorem closure_content.calls (k : Nat) (A0_0 : Option Addr) (c0_0 : Nat) (l0_0 : List (S54)) (a1 : Int) (a2 : Int) (r : Bool) (w : World) (hr0_0 : Kd.C k54 w A0_0 l0_0.length l0_0) (hc0_0 : l0_0.length ≤ c0_0) (h : closure_content.f k l0_0 a1 a2 = some r) :
    Calls Try.prog 126 #[.agg #[.slice A0_0 l0_0.length c0_0], .int .i64 a1, .int .i64 a2] w fun e w' => e = .returned (.bool r) ∧ Below w.heap.size w w' := by
 have hu27 := Try.underlying27; have hu48 := Try.underlying48; have HR0_0 := Aside0.mk hr0_0; have HC0_0 := Aside0.mk hc0_0; clear hr0_0 hc0_0; have HB := Aside0.mk (Below.refl w.heap.size w); have H : (if 0 ≤ a1 then (if a1 < (l0_0.length : Int) then ((threshold_Satisfied.f k ((rd_T54 l0_0 a1).f1.f0) ((rd_T54 l0_0 a1).f1.f1) ((rd_T54 l0_0 a1).f1.f2) a2).bind fun t128 => (some t128)) else (none)) else (none)) = some r := h; clear h
 by_cases c4 : 0 ≤ a1
 ·
  rw [if_pos c4] at H; have c4b0 : decide (0 ≤ a1) = true := decide_eq_true c4; clear c4
  by_cases c5 : a1 < (l0_0.length : Int)
  ·
   rw [if_pos c5] at H; have c5b0 : decide (a1 < (l0_0.length : Int)) = true := decide_eq_true c5; clear c5; replace H := Option.bind_eq_some_iff.mp H; obtain ⟨t128, A60, H⟩ := H; replace H : (some t128) = some r := H; have A6 := Aside0.mk A60; clear A60; obtain rfl := Option.some.inj H
   go_enter Try.func126, Try.ntmps126
   go_wp2_with (first | ((with_reducible refine gate_dst (N := 3) rfl ?_); refine box_event ?hg (N := 3) ?hd (cs := #[.slice A0_0 l0_0.length c0_0]) (t := 27) ?hr ?_; (case hd => rfl); (case hg => rfl); (case hr => first | (go_simp; done) | (go_simp; rfl)); intro gb126 hg w7 hbox hb; have BK126 := Aside0.mk (hbox); have GW126 := Aside0.mk ((by rw [hg]; exact (below_size HB.out) : w.heap.size ≤ gb126)); have GE126 := Aside0.mk ((by rw [hg]; exact (below_size HB.out) : w.heap.size ≤ gb126)); replace HB := Aside0.mk (below_step HB.out hb); clear hb hbox hg; obtain ⟨hcz8_0, hfz8_0⟩ := blkC1 BK126.out; have p127 : 0 ≤ (a1 : Int) := of_decide_eq_true (by first | (with_reducible assumption) | assumption); have q127 : a1 < (l0_0.length : Int) := of_decide_eq_true (by first | (with_reducible assumption) | assumption); obtain ⟨ad127, A127_2, c127_2, A127_3, c127_3, e127, hx127_0, hx127_1, hx127_2, hx127_3, hl127_2, hi127_2, hl127_3, hi127_3⟩ := at_T54 HR0_0.out a1 p127 q127; cases e127; replace hx127_0 := (HB.out.cell (World.block_lt_of_cell? w _ hx127_0)).trans hx127_0; replace hx127_1 := (HB.out.cell (World.block_lt_of_cell? w _ hx127_1)).trans hx127_1; replace hx127_2 := (HB.out.cell (World.block_lt_of_cell? w _ hx127_2)).trans hx127_2; replace hx127_3 := (HB.out.cell (World.block_lt_of_cell? w _ hx127_3)).trans hx127_3; have HR127_2 := Aside0.mk hi127_2; have HC127_2 := Aside0.mk hl127_2; clear hi127_2 hl127_2; have HR127_3 := Aside0.mk hi127_3; have HC127_3 := Aside0.mk hl127_3; clear hi127_3 hl127_3; replace p127 := eq_true p127; replace q127 := eq_true q127) | ((with_reducible refine gate_callee (f := 83) rfl ?_); refine goesL_ (some 14) rfl rfl Try.func83 (by kernel_rfl) rfl #[.agg #[.int .i64 ((rd_T54 l0_0 a1).f1.f0), .slice A127_2 ((rd_T54 l0_0 a1).f1.f1).length c127_2, .slice A127_3 ((rd_T54 l0_0 a1).f1.f2).length c127_3], .int .i64 a2] rfl (by (try simp only [List.map_toArray, List.map_cons, List.map_nil]); first | done | rfl | (simp only [List.length_drop, List.length_take]; rfl)) ?_; (with_reducible refine (threshold_Satisfied.calls k ((rd_T54 l0_0 a1).f1.f0) _ _ ((rd_T54 l0_0 a1).f1.f1) _ _ ((rd_T54 l0_0 a1).f1.f2) a2 t128 _ ?side1 ?side2 ?side3 ?side4 A6.out).mono ?_); (case side1 => exact (Kd.C_below HR127_2.out HB.out)); (case side2 => exact HC127_2.out); (case side3 => exact (Kd.C_below HR127_3.out HB.out)); (case side4 => exact HC127_3.out); rintro e w9 ⟨rfl, hb⟩; refine ⟨_, rfl, ?_⟩; replace BK126 := Aside0.mk (blk_below BK126.out hb); replace HB := Aside0.mk (below_step HB.out hb); (try clear hb); (try clear hb2); (try clear hk); (try clear hi)))
   go_ret
   exact ⟨by first | rfl | (simp [errW_none, errW_some] <;> rfl) | (simp [*, errW_none, errW_some] <;> rfl), by exact HB.out⟩
  ·
   rw [if_neg c5] at H; exact absurd H (by simp)
 ·
  rw [if_neg c4] at H; exact absurd H (by simp)
/-! ### closure_unhappy: function 108 -/
def closure_unhappy.l0 : Nat → Int → List Int → Int → Int → List (S54) → Option (Int × Bool)
  | 0, _, _, _, _, _ => none
  | k + 1, x1, x9, x10, x11, x130000 => if x11 < x10 then (if 0 ≤ x11 then (if x11 < (x9.length : Int) then ((closure_content.f k x130000 (rd x9 x11) x1).bind fun t134 => (if t134 = true then (closure_unhappy.l0 k x1 x9 x10 (wrap64 (x11 + 1)) x130000) else (some (rd x9 x11, true)))) else (none)) else (none)) else (some (0, false))
def closure_unhappy.f (k : Nat) (l0_0 : List (S54)) (a1 : Int) : Option (Int × Bool) := (nodeset_Nodes.f k a1).bind fun t130 => (closure_unhappy.l0 k a1 t130 (t130.length : Int) 0 l0_0)
theorem closure_unhappy.mono_l : ∀ k, (∀ y0 y1 y2 y3 y4, LeO (closure_unhappy.l0 k y0 y1 y2 y3 y4) (closure_unhappy.l0 (k + 1) y0 y1 y2 y3 y4))
  | 0 => fun _ _ _ _ _ r h => by simp [closure_unhappy.l0] at h
  | k + 1 => by
    have ih0 := closure_unhappy.mono_l k
    · intro y0 y1 y2 y3 y4
      unfold closure_unhappy.l0
      repeat' first
      | (with_reducible exact ih0 _ _ _ _ _)
      | (with_reducible exact closure_content.mono _ _ _ _)
      | (with_reducible exact nodeset_Nodes.mono _ _)
      | (with_reducible exact LeO.refl _)
      | (with_reducible exact LeO.none _)
      | (with_reducible refine LeO.ite ?_ ?_)
      | (with_reducible refine LeO.bind ?_ (fun _ => ?_))
      | exact ih0 _ _ _ _ _
      | exact closure_content.mono _ _ _ _
      | exact nodeset_Nodes.mono _ _
      | exact LeO.none _
      | refine LeO.ite ?_ ?_
      | refine LeO.bind ?_ (fun _ => ?_)
theorem closure_unhappy.mono : ∀ a0 a1 k, LeO (closure_unhappy.f k a0 a1) (closure_unhappy.f (k + 1) a0 a1) := by
  intro a0 a1 k
  have ih0 := closure_unhappy.mono_l k
  unfold closure_unhappy.f
  repeat' first
      | (with_reducible exact ih0 _ _ _ _ _)
      | (with_reducible exact closure_content.mono _ _ _ _)
      | (with_reducible exact nodeset_Nodes.mono _ _)
      | (with_reducible exact LeO.refl _)
      | (with_reducible exact LeO.none _)
      | (with_reducible refine LeO.ite ?_ ?_)
      | (with_reducible refine LeO.bind ?_ (fun _ => ?_))
      | exact ih0 _ _ _ _ _
      | exact closure_content.mono _ _ _ _
      | exact nodeset_Nodes.mono _ _
      | exact LeO.none _
      | refine LeO.ite ?_ ?_
      | refine LeO.bind ?_ (fun _ => ?_)
set_option maxHeartbeats 8000000 in
set_option maxRecDepth 100000 in
theorem closure_unhappy.calls (k : Nat) (A0_0 : Option Addr) (c0_0 : Nat) (l0_0 : List (S54)) (a1 : Int) (r1 : Int) (r2 : Bool) (w : World) (hr0_0 : Kd.C k54 w A0_0 l0_0.length l0_0) (hc0_0 : l0_0.length ≤ c0_0) (h : closure_unhappy.f k l0_0 a1 = some (r1, r2)) :
    Calls Try.prog 108 #[.agg #[.slice A0_0 l0_0.length c0_0], .int .i64 a1] w fun e w' => e = .returned (.tuple #[.int .i64 r1, .bool r2]) ∧ Below w.heap.size w w' := by
 have hu27 := Try.underlying27; have HR0_0 := Aside0.mk hr0_0; have HC0_0 := Aside0.mk hc0_0; clear hr0_0 hc0_0; have HB := Aside0.mk (Below.refl w.heap.size w); have H : ((nodeset_Nodes.f k a1).bind fun t130 => (closure_unhappy.l0 k a1 t130 (t130.length : Int) 0 l0_0)) = some (r1, r2) := h; clear h; replace H := Option.bind_eq_some_iff.mp H; obtain ⟨t130, A30, H⟩ := H; replace H : (closure_unhappy.l0 k a1 t130 (t130.length : Int) 0 l0_0) = some (r1, r2) := H; have A3 := Aside0.mk A30; clear A30; have H' := Aside0.mk H; clear H
 go_enter Try.func108, Try.ntmps108
 go_wp2_with (first | ((with_reducible refine gate_dst (N := 2) rfl ?_); refine box_event ?hg (N := 2) ?hd (cs := #[.slice A0_0 l0_0.length c0_0]) (t := 27) ?hr ?_; (case hd => rfl); (case hg => rfl); (case hr => first | (go_simp; done) | (go_simp; rfl)); intro gb129 hg w4 hbox hb; have BK129 := Aside0.mk (hbox); have GW129 := Aside0.mk ((by rw [hg]; exact (below_size HB.out) : w.heap.size ≤ gb129)); have GE129 := Aside0.mk ((by rw [hg]; exact (below_size HB.out) : w.heap.size ≤ gb129)); replace HB := Aside0.mk (below_step HB.out hb); clear hb hbox hg) | ((with_reducible refine gate_callee (f := 125) rfl ?_); refine goesL_ (some 9) rfl rfl Try.func125 (by kernel_rfl) rfl #[.int .i64 a1] rfl (by (try simp only [List.map_toArray, List.map_cons, List.map_nil]); first | done | rfl | (simp only [List.length_drop, List.length_take]; rfl)) ?_; (with_reducible refine (nodeset_Nodes.calls k a1 t130 _ A3.out).mono ?_); rintro e w5 ⟨v131, rfl, ho0, hb⟩; refine ⟨_, rfl, ?_⟩; have HO132 := Aside0.mk (Kd.R_lower ho0 (below_size HB.out)); replace BK129 := Aside0.mk (blk_below BK129.out hb); replace HB := Aside0.mk (below_step HB.out hb); (try clear hb); (try clear hb2); (try clear hk); (try clear hi); (try clear ho0); obtain ⟨Ao6, co6, eo6⟩ := Kd.R_slice HO132.out; subst eo6))
 go_loopg [11] k (fun kq v11 w' => ∃ (x11_1 : Int), v11 = .int .i64 x11_1 ∧ Aside0 (closure_unhappy.l0 kq a1 t130 (t130.length : Int) x11_1 l0_0 = some (r1, r2)) ∧ Aside0 (kq ≤ k) ∧ Aside0 (Kd.R (Kd.int .i64) 3 w' w.heap.size (fun _ => True) (.slice Ao6 t130.length co6) t130) ∧ Aside0 (w'.heap[gb129]? = some (.cells #[(.slice A0_0 l0_0.length c0_0)] 27 (0, 0))) ∧ Aside0 (Below w.heap.size w w'))
 case atStart => exact ⟨(0), (by first | rfl | (simp; done) | (simp [*]; done) | (refine congrArg (Value.int .i64) ?_; unfold wrap64; omega)), H', ⟨Nat.le_refl _⟩, ⟨by exact HO132.out⟩, ⟨by exact BK129.out⟩, ⟨by exact HB.out⟩⟩
 case round =>
  clear H'; (try clear c1); (try clear p2); (try clear p6); obtain ⟨x11_1, rfl, HA, HK1, HO_9, BK129, HB⟩ := hrel
  cases gk with
  | zero => exact absurd HA.out (by simp [closure_unhappy.l0])
  | succ k1 =>
   have H := HA.out; clear HA; simp only [closure_unhappy.l0] at H
   by_cases c7 : x11_1 < (t130.length : Int)
   ·
    rw [if_pos c7] at H; have c7b0 : decide (x11_1 < (t130.length : Int)) = true := decide_eq_true c7; clear c7
    by_cases c8 : 0 ≤ x11_1
    ·
     rw [if_pos c8] at H; have c8b0 : decide (0 ≤ x11_1) = true := decide_eq_true c8; clear c8
     by_cases c9 : x11_1 < (t130.length : Int)
     ·
      rw [if_pos c9] at H; have c9b0 : decide (x11_1 < (t130.length : Int)) = true := decide_eq_true c9; clear c9; replace H := Option.bind_eq_some_iff.mp H; obtain ⟨t134, A100, H⟩ := H; replace H : (if t134 = true then (closure_unhappy.l0 k1 a1 t130 (t130.length : Int) (wrap64 (x11_1 + 1)) l0_0) else (some (rd t130 x11_1, true))) = some (r1, r2) := H; have A10 := Aside0.mk A100; clear A100
      by_cases c11 : t134 = true
      ·
       subst c11; have H1 : (closure_unhappy.l0 k1 a1 t130 (t130.length : Int) (wrap64 (x11_1 + 1)) l0_0) = some (r1, r2) := by rw [if_pos rfl] at H; exact H
       clear H; have H := H1; clear H1; have H' := Aside0.mk H; clear H; have p133 : 0 ≤ (x11_1 : Int) := of_decide_eq_true (by first | (with_reducible assumption) | assumption); have q133 : x11_1 < (t130.length : Int) := of_decide_eq_true (by first | (with_reducible assumption) | assumption); obtain ⟨ad133, e133, hx133_0⟩ := Kd.at_int (Kd.R_reads' HO_9.out).2.2 x11_1 p133 q133
       cases e133
       replace p133 := eq_true p133; replace q133 := eq_true q133; obtain ⟨hcz12_0, hfz12_0⟩ := blkC1 BK129.out
       go_wp2_with (first | ((with_reducible refine gate_callee (f := 126) rfl ?_); refine goesL_ (some 18) rfl rfl Try.func126 (by kernel_rfl) rfl #[.agg #[.slice A0_0 l0_0.length c0_0], .int .i64 (rd t130 x11_1), .int .i64 a1] rfl (by (try simp only [List.map_toArray, List.map_cons, List.map_nil]); first | done | rfl | (simp only [List.length_drop, List.length_take]; rfl)) ?_; (with_reducible refine (closure_content.calls k1 _ _ l0_0 (rd t130 x11_1) a1 true _ ?side1 ?side2 A10.out).mono ?_); (case side1 => exact (Kd.C_below HR0_0.out HB.out)); (case side2 => exact HC0_0.out); rintro e w13 ⟨rfl, hb⟩; refine ⟨_, rfl, ?_⟩; replace HO_9 := Aside0.mk (Kd.R_below HO_9.out hb); replace BK129 := Aside0.mk (blk_below BK129.out hb); replace HB := Aside0.mk (below_step HB.out hb); (try clear hb); (try clear hb2); (try clear hk); (try clear hi)))
       go_roundg k1
       case measure => have := HK1.out; omega
       case rel => exact ⟨(wrap64 (x11_1 + 1)), (by first | rfl | (simp; done) | (simp [*]; done) | (refine congrArg (Value.int .i64) ?_; unfold wrap64; omega)), H', ⟨by have := HK1.out; omega⟩, ⟨by exact HO_9.out⟩, ⟨by exact BK129.out⟩, ⟨by exact HB.out⟩⟩
      ·
       replace c11 := Bool.eq_false_iff.mpr c11; subst c11; have H1 : (some (rd t130 x11_1, true)) = some (r1, r2) := by rw [if_neg (show ¬ (false = true) by decide)] at H; exact H
       clear H; have H := H1; clear H1; simp only [Option.some.injEq, Prod.mk.injEq] at H; obtain ⟨rfl, rfl⟩ := H; have p133 : 0 ≤ (x11_1 : Int) := of_decide_eq_true (by first | (with_reducible assumption) | assumption); have q133 : x11_1 < (t130.length : Int) := of_decide_eq_true (by first | (with_reducible assumption) | assumption); obtain ⟨ad133, e133, hx133_0⟩ := Kd.at_int (Kd.R_reads' HO_9.out).2.2 x11_1 p133 q133
       cases e133
       replace p133 := eq_true p133; replace q133 := eq_true q133; obtain ⟨hcz14_0, hfz14_0⟩ := blkC1 BK129.out
       go_wp2_with (first | ((with_reducible refine gate_callee (f := 126) rfl ?_); refine goesL_ (some 18) rfl rfl Try.func126 (by kernel_rfl) rfl #[.agg #[.slice A0_0 l0_0.length c0_0], .int .i64 (rd t130 x11_1), .int .i64 a1] rfl (by (try simp only [List.map_toArray, List.map_cons, List.map_nil]); first | done | rfl | (simp only [List.length_drop, List.length_take]; rfl)) ?_; (with_reducible refine (closure_content.calls k1 _ _ l0_0 (rd t130 x11_1) a1 false _ ?side1 ?side2 A10.out).mono ?_); (case side1 => exact (Kd.C_below HR0_0.out HB.out)); (case side2 => exact HC0_0.out); rintro e w15 ⟨rfl, hb⟩; refine ⟨_, rfl, ?_⟩; replace HO_9 := Aside0.mk (Kd.R_below HO_9.out hb); replace BK129 := Aside0.mk (blk_below BK129.out hb); replace HB := Aside0.mk (below_step HB.out hb); (try clear hb); (try clear hb2); (try clear hk); (try clear hi)))
       go_ret2
       exact ⟨by first | rfl | (simp [errW_none, errW_some] <;> rfl) | (simp [*, errW_none, errW_some] <;> rfl), by exact HB.out⟩
     ·
      rw [if_neg c9] at H; exact absurd H (by simp)
    ·
     rw [if_neg c8] at H; exact absurd H (by simp)
   ·
    rw [if_neg c7] at H; have c7b0 : decide (x11_1 < (t130.length : Int)) = false := decide_eq_false c7; clear c7; simp only [Option.some.injEq, Prod.mk.injEq] at H; obtain ⟨rfl, rfl⟩ := H
    go_wp2
    go_ret2
    exact ⟨by first | rfl | (simp [errW_none, errW_some] <;> rfl) | (simp [*, errW_none, errW_some] <;> rfl), by exact HB.out⟩
/-! ### closure_eliminate: function 84 -/
def closure_eliminate.l0 : Nat → Int → List Int → List (S54) → Option (Int × List Int)
  | 0, _, _, _ => none
  | k + 1, x1, x6, x136000 => (closure_unhappy.f k x136000 x1).bind fun bt138 => (if bt138.2 = true then (if x6.length < 17592186044416 then (if 0 ≤ bt138.1 then (closure_eliminate.l0 k (Go.bits .andNot .i64 x1 (shl .i64 1 bt138.1)) (x6 ++ [bt138.1]) x136000) else (none)) else (none)) else (some (x1, x6)))
def closure_eliminate.f (k : Nat) (l0_0 : List (S54)) (a1 : Int) : Option (Int × List Int) := (nodeset_Valid.f a1).bind fun t136 => (if t136 = true then ((configuration_Declared.f k l0_0).bind fun t137 => (closure_eliminate.l0 k (Go.bits .and .i64 a1 t137) ([] : List Int) l0_0)) else (some (0, ([] : List Int))))
theorem closure_eliminate.mono_l : ∀ k, (∀ y0 y1 y2, LeO (closure_eliminate.l0 k y0 y1 y2) (closure_eliminate.l0 (k + 1) y0 y1 y2))
  | 0 => fun _ _ _ r h => by simp [closure_eliminate.l0] at h
  | k + 1 => by
    have ih0 := closure_eliminate.mono_l k
    · intro y0 y1 y2
      unfold closure_eliminate.l0
      repeat' first
      | (with_reducible exact ih0 _ _ _)
      | (with_reducible exact closure_unhappy.mono _ _ _)
      | (with_reducible exact configuration_Declared.mono _ _)
      | (with_reducible exact LeO.refl _)
      | (with_reducible exact LeO.none _)
      | (with_reducible refine LeO.ite ?_ ?_)
      | (with_reducible refine LeO.bind ?_ (fun _ => ?_))
      | exact ih0 _ _ _
      | exact closure_unhappy.mono _ _ _
      | exact configuration_Declared.mono _ _
      | exact LeO.none _
      | refine LeO.ite ?_ ?_
      | refine LeO.bind ?_ (fun _ => ?_)
theorem closure_eliminate.mono : ∀ a0 a1 k, LeO (closure_eliminate.f k a0 a1) (closure_eliminate.f (k + 1) a0 a1) := by
  intro a0 a1 k
  have ih0 := closure_eliminate.mono_l k
  unfold closure_eliminate.f
  repeat' first
      | (with_reducible exact ih0 _ _ _)
      | (with_reducible exact closure_unhappy.mono _ _ _)
      | (with_reducible exact configuration_Declared.mono _ _)
      | (with_reducible exact LeO.refl _)
      | (with_reducible exact LeO.none _)
      | (with_reducible refine LeO.ite ?_ ?_)
      | (with_reducible refine LeO.bind ?_ (fun _ => ?_))
      | exact ih0 _ _ _
      | exact closure_unhappy.mono _ _ _
      | exact configuration_Declared.mono _ _
      | exact LeO.none _
      | refine LeO.ite ?_ ?_
      | refine LeO.bind ?_ (fun _ => ?_)
set_option maxHeartbeats 8000000 in
set_option maxRecDepth 100000 in
theorem closure_eliminate.calls (k : Nat) (A0_0 : Option Addr) (c0_0 : Nat) (l0_0 : List (S54)) (a1 : Int) (r1 : Int) (r2 : List Int) (w : World) (hr0_0 : Kd.C k54 w A0_0 l0_0.length l0_0) (hc0_0 : l0_0.length ≤ c0_0) (h : closure_eliminate.f k l0_0 a1 = some (r1, r2)) :
    Calls Try.prog 84 #[.agg #[.slice A0_0 l0_0.length c0_0], .int .i64 a1] w fun e w' => ∃ v1_ : Value, e = .returned (.tuple #[.int .i64 r1, v1_]) ∧ Kd.R (Kd.int .i64) 3 w' w.heap.size (fun _ => True) v1_ r2 ∧ Below w.heap.size w w' := by
 have hu27 := Try.underlying27; have HR0_0 := Aside0.mk hr0_0; have HC0_0 := Aside0.mk hc0_0; clear hr0_0 hc0_0; have HB := Aside0.mk (Below.refl w.heap.size w); have H : ((nodeset_Valid.f a1).bind fun t136 => (if t136 = true then ((configuration_Declared.f k l0_0).bind fun t137 => (closure_eliminate.l0 k (Go.bits .and .i64 a1 t137) ([] : List Int) l0_0)) else (some (0, ([] : List Int))))) = some (r1, r2) := h; clear h; replace H := Option.bind_eq_some_iff.mp H; obtain ⟨t136, A30, H⟩ := H; replace H : (if t136 = true then ((configuration_Declared.f k l0_0).bind fun t137 => (closure_eliminate.l0 k (Go.bits .and .i64 a1 t137) ([] : List Int) l0_0)) else (some (0, ([] : List Int)))) = some (r1, r2) := H; have A3 := Aside0.mk A30; clear A30
 by_cases c4 : t136 = true
 ·
  subst c4; have H1 : ((configuration_Declared.f k l0_0).bind fun t137 => (closure_eliminate.l0 k (Go.bits .and .i64 a1 t137) ([] : List Int) l0_0)) = some (r1, r2) := by rw [if_pos rfl] at H; exact H
  clear H; have H := H1; clear H1; replace H := Option.bind_eq_some_iff.mp H; obtain ⟨t137, A50, H⟩ := H; replace H : (closure_eliminate.l0 k (Go.bits .and .i64 a1 t137) ([] : List Int) l0_0) = some (r1, r2) := H; have A5 := Aside0.mk A50; clear A50; have H' := Aside0.mk H; clear H
  go_enter Try.func84, Try.ntmps84
  go_wp2_with (first | ((with_reducible refine gate_dst (N := 2) rfl ?_); refine box_event ?hg (N := 2) ?hd (cs := #[.slice A0_0 l0_0.length c0_0]) (t := 27) ?hr ?_; (case hd => rfl); (case hg => rfl); (case hr => first | (go_simp; done) | (go_simp; rfl)); intro gb135 hg w6 hbox hb; have BK135 := Aside0.mk (hbox); have GW135 := Aside0.mk ((by rw [hg]; exact (below_size HB.out) : w.heap.size ≤ gb135)); have GE135 := Aside0.mk ((by rw [hg]; exact (below_size HB.out) : w.heap.size ≤ gb135)); replace HB := Aside0.mk (below_step HB.out hb); clear hb hbox hg) | ((with_reducible refine gate_callee (f := 47) rfl ?_); refine goesL_ (some 10) rfl rfl Try.func47 (by kernel_rfl) rfl #[.int .i64 a1] rfl (by (try simp only [List.map_toArray, List.map_cons, List.map_nil]); first | done | rfl | (simp only [List.length_drop, List.length_take]; rfl)) ?_; (with_reducible refine (nodeset_Valid.calls a1 true _ A3.out).mono ?_); rintro e w' ⟨rfl, ⟨nd, rfl⟩⟩; refine ⟨_, rfl, ?_⟩; have hcz7_0 : w6.cell? ⟨gb135, 0, none⟩ = some (.slice A0_0 l0_0.length c0_0) := (blk_cell BK135.out 0).trans rfl; have hfz7_0 := blk_frozen BK135.out 0) | ((with_reducible refine gate_callee (f := 82) rfl ?_); refine goesL_ (some 14) rfl rfl Try.func82 (by kernel_rfl) rfl #[.agg #[.slice A0_0 l0_0.length c0_0]] rfl (by (try simp only [List.map_toArray, List.map_cons, List.map_nil]); first | done | rfl | (simp only [List.length_drop, List.length_take]; rfl)) ?_; (with_reducible refine (configuration_Declared.calls k _ _ l0_0 t137 _ ?side1 ?side2 A5.out).mono ?_); (case side1 => repeat (first | exact (Kd.C_below HR0_0.out (by repeat (first | (with_reducible first | exact HB.out | apply below_alloc | apply pw_below_drewN | apply below_drew1 | refine below_set ?_ GE135.out) | exact HB.out))) | (with_reducible refine Kd.C_alloc ?_ _) | (with_reducible refine Kd.C_drewN ?_ _) | (with_reducible refine Kd.C_drew ?_))); (case side2 => exact HC0_0.out); rintro e w8 ⟨rfl, hb⟩; refine ⟨_, rfl, ?_⟩; replace BK135 := Aside0.mk (blk_below (g := gb135) (o := .cells #[.slice A0_0 l0_0.length c0_0] 27 (0, 0)) (by (with_reducible repeat (first | refine blk_drewN ?_ _ | refine blk_drew ?_ | refine blk_alloc ?_ _)); exact BK135.out) hb); replace HB := Aside0.mk (below_step (by repeat (first | (with_reducible first | exact HB.out | apply below_alloc | apply pw_below_drewN | apply below_drew1 | refine below_set ?_ GE135.out) | exact HB.out)) hb); (try clear hb); (try clear hb2); (try clear hk); (try clear hi)))
  go_loopg [1, 6] k (fun kq v1 v6 w' => ∃ (x1_1 : Int) (x6_1 : List Int), v1 = .int .i64 x1_1 ∧ Aside0 (closure_eliminate.l0 kq x1_1 x6_1 l0_0 = some (r1, r2)) ∧ Aside0 (kq ≤ k) ∧ Aside0 (Kd.R (Kd.int .i64) 3 w' w.heap.size (fun _ => True) v6 x6_1) ∧ Aside0 (w'.heap[gb135]? = some (.cells #[(.slice A0_0 l0_0.length c0_0)] 27 (0, 0))) ∧ Aside0 (Below w.heap.size w w'))
  case atStart => exact ⟨(Go.bits .and .i64 a1 t137), (([] : List Int)), (by first | rfl | (simp; done) | (simp [*]; done) | (refine congrArg (Value.int .i64) ?_; unfold wrap64; omega)), H', ⟨Nat.le_refl _⟩, ⟨by first | exact Kd.R_nil _ _ _ _ _ | exact Kd.N_nil _ _ _ _ _ | exact Kd.V_nil _ _ _ _ _ | exact Kd.Q_nil _ _ _ _ _ | exact Kd.S_nil _ _ _ _ _⟩, ⟨by exact BK135.out⟩, ⟨by exact HB.out⟩⟩
  case round =>
   clear H'; (try clear p2); (try clear c4); (try clear p6); (try clear c8); (try clear hcz7_0); (try clear hfz7_0); obtain ⟨x1_1, x6_1, rfl, HA, HK1, HO_6, BK135, HB⟩ := hrel
   cases gk with
   | zero => exact absurd HA.out (by simp [closure_eliminate.l0])
   | succ k1 =>
    have H := HA.out; clear HA; simp only [closure_eliminate.l0] at H; replace H := Option.bind_eq_some_iff.mp H; obtain ⟨⟨t138, t139⟩, A90, H⟩ := H; replace H : (if t139 = true then (if x6_1.length < 17592186044416 then (if 0 ≤ t138 then (closure_eliminate.l0 k1 (Go.bits .andNot .i64 x1_1 (shl .i64 1 t138)) (x6_1 ++ [t138]) l0_0) else (none)) else (none)) else (some (x1_1, x6_1))) = some (r1, r2) := H; have A9 := Aside0.mk A90; clear A90
    by_cases c10 : t139 = true
    ·
     subst c10; have H1 : (if x6_1.length < 17592186044416 then (if 0 ≤ t138 then (closure_eliminate.l0 k1 (Go.bits .andNot .i64 x1_1 (shl .i64 1 t138)) (x6_1 ++ [t138]) l0_0) else (none)) else (none)) = some (r1, r2) := by rw [if_pos rfl] at H; exact H
     clear H; have H := H1; clear H1
     by_cases c11 : x6_1.length < 17592186044416
     ·
      rw [if_pos c11] at H; have LMc11 := Aside0.mk c11; clear c11; obtain ⟨y140, hy140⟩ : ∃ y_ : List Int, y_ = (x6_1 ++ [t138]) := ⟨_, rfl⟩; replace H : (if 0 ≤ t138 then (closure_eliminate.l0 k1 (Go.bits .andNot .i64 x1_1 (shl .i64 1 t138)) y140 l0_0) else (none)) = some (r1, r2) := by first | (rw [hy140]; with_reducible exact H) | (have H2_ := (Option.bind_some _ _).symm.trans H; rw [hy140]; with_reducible exact H2_) | (have H2_ := (Option.bind_some _ _).symm.trans H; with_reducible exact H2_) | with_reducible exact H | (rw [hy140]; exact H) | exact H
      have Ny140 := Aside0.mk hy140; clear hy140
      by_cases c12 : 0 ≤ t138
      ·
       rw [if_pos c12] at H; have c12b0 := eq_true c12; have c12b1 : decide (0 ≤ t138) = true := decide_eq_true c12; clear c12; obtain ⟨ji13, hji13⟩ : ∃ j_ : Int, (shl .i64 1 t138) = j_ := ⟨_, rfl⟩; replace H : (closure_eliminate.l0 k1 (Go.bits .andNot .i64 x1_1 (ji13)) y140 l0_0) = some (r1, r2) := by first | (rw [hji13] at H; exact H) | (simp only [hji13] at H ⊢; exact H)
       (try rw [hji13] at A9); have hji13_ : (IntKind.i64.wrap (1 * 2 ^ min t138.toNat 64)) = ji13 := hji13; have hji13z : t138 ≤ 64 → (IntKind.i64.wrap (1 * 2 ^ t138.toNat)) = ji13 := shl_small hji13; have hji13u : (IntKind.i64.wrap (2 ^ min t138.toNat 64)) = ji13 := by have h_ := hji13_; rw [Int.one_mul] at h_; exact h_
       have hji13v : t138 ≤ 64 → (IntKind.i64.wrap (2 ^ t138.toNat)) = ji13 := fun hle_ => by have h_ := hji13z hle_; rw [Int.one_mul] at h_; exact h_
       have hji13y : (wrap64 (1 * 2 ^ min t138.toNat 64)) = ji13 := (i64_w _).symm.trans hji13_; have hji13x : t138 ≤ 64 → (wrap64 (1 * 2 ^ t138.toNat)) = ji13 := fun h_ => (i64_w _).symm.trans (hji13z h_); have H' := Aside0.mk H; clear H; obtain ⟨hcz14_0, hfz14_0⟩ := blkC1 BK135.out
       go_wp2_with (first | ((with_reducible refine gate_callee (f := 108) rfl ?_); refine goesL_ (some 19) rfl rfl Try.func108 (by kernel_rfl) rfl #[.agg #[.slice A0_0 l0_0.length c0_0], .int .i64 x1_1] rfl (by (try simp only [List.map_toArray, List.map_cons, List.map_nil]); first | done | rfl | (simp only [List.length_drop, List.length_take]; rfl)) ?_; (with_reducible refine (closure_unhappy.calls k1 _ _ l0_0 x1_1 t138 true _ ?side1 ?side2 A9.out).mono ?_); (case side1 => exact (Kd.C_below HR0_0.out HB.out)); (case side2 => exact HC0_0.out); rintro e w15 ⟨rfl, hb⟩; refine ⟨_, rfl, ?_⟩; replace HO_6 := Aside0.mk (Kd.R_below HO_6.out hb); replace BK135 := Aside0.mk (blk_below BK135.out hb); replace HB := Aside0.mk (below_step HB.out hb); (try clear hb); (try clear hb2); (try clear hk); (try clear hi)) | ((with_reducible refine gate_builtin (b := .append) (xs := #[.tmp 26, .tmp 28]) rfl ?_); at_builtin; refine Kd.R_append (Kd.int .i64) (w0 := w) w.heap.size rfl (.tmp 26) (.tmp 28) 22 3 (.int .i64 0) 8 rfl Try.underlying22 info3 rfl (by decide) (by omega) u6 x6_1 t138 [.int .i64 t138] (fun _ => True) (fun _ => False) rfl rfl ?aP (fun _ hk => hk.elim) ?aF ?aO ?aB ?aS ?aL ?_; (case aP => exact rfl); (case aB => exact HB.out); (case aF => exact (fun _ _ => trivial)); (case aO => exact HO_6.out); (case aS => exact (below_size HB.out)); (case aL => have := LMc11.out; omega); intro v141 w16 ho hb hg hat; rw [← Ny140.out] at ho; replace BK135 := Aside0.mk (blk_grown BK135.out hg (Kd.R_ne HO_6.out BK135.out (by decide))); replace HB := Aside0.mk (hb); have HO142 := Aside0.mk (ho); clear HO_6; clear ho hb hg hat))
       go_roundg k1
       case measure => have := HK1.out; omega
       case rel => exact ⟨(Go.bits .andNot .i64 x1_1 (ji13)), (y140), (by first | rfl | (simp; done) | (simp only [← hji13] <;> (first | rfl | simp)) | (simp [*]; done)), H', ⟨by have := HK1.out; omega⟩, ⟨by exact HO142.out⟩, ⟨by exact BK135.out⟩, ⟨by exact HB.out⟩⟩
      ·
       rw [if_neg c12] at H; exact absurd H (by simp)
     ·
      rw [if_neg c11] at H; exact absurd H (by simp)
    ·
     replace c10 := Bool.eq_false_iff.mpr c10; subst c10; have H1 : (some (x1_1, x6_1)) = some (r1, r2) := by rw [if_neg (show ¬ (false = true) by decide)] at H; exact H
     clear H; have H := H1; clear H1; simp only [Option.some.injEq, Prod.mk.injEq] at H; obtain ⟨rfl, rfl⟩ := H; obtain ⟨hcz17_0, hfz17_0⟩ := blkC1 BK135.out
     go_wp2_with (first | ((with_reducible refine gate_callee (f := 108) rfl ?_); refine goesL_ (some 19) rfl rfl Try.func108 (by kernel_rfl) rfl #[.agg #[.slice A0_0 l0_0.length c0_0], .int .i64 x1_1] rfl (by (try simp only [List.map_toArray, List.map_cons, List.map_nil]); first | done | rfl | (simp only [List.length_drop, List.length_take]; rfl)) ?_; (with_reducible refine (closure_unhappy.calls k1 _ _ l0_0 x1_1 t138 false _ ?side1 ?side2 A9.out).mono ?_); (case side1 => exact (Kd.C_below HR0_0.out HB.out)); (case side2 => exact HC0_0.out); rintro e w18 ⟨rfl, hb⟩; refine ⟨_, rfl, ?_⟩; replace HO_6 := Aside0.mk (Kd.R_below HO_6.out hb); replace BK135 := Aside0.mk (blk_below BK135.out hb); replace HB := Aside0.mk (below_step HB.out hb); (try clear hb); (try clear hb2); (try clear hk); (try clear hi)))
     go_ret2
     exact ⟨_, by first | rfl | (simp [errW_none, errW_some] <;> rfl) | (simp [*, errW_none, errW_some] <;> rfl), by exact HO_6.out, by exact HB.out⟩
 ·
  replace c4 := Bool.eq_false_iff.mpr c4; subst c4; have H1 : (some (0, ([] : List Int))) = some (r1, r2) := by rw [if_neg (show ¬ (false = true) by decide)] at H; exact H
  clear H; have H := H1; clear H1; simp only [Option.some.injEq, Prod.mk.injEq] at H; obtain ⟨rfl, rfl⟩ := H
  go_enter Try.func84, Try.ntmps84
  go_wp2_with (first | ((with_reducible refine gate_dst (N := 2) rfl ?_); refine box_event ?hg (N := 2) ?hd (cs := #[.slice A0_0 l0_0.length c0_0]) (t := 27) ?hr ?_; (case hd => rfl); (case hg => rfl); (case hr => first | (go_simp; done) | (go_simp; rfl)); intro gb135 hg w19 hbox hb; have BK135 := Aside0.mk (hbox); have GW135 := Aside0.mk ((by rw [hg]; exact (below_size HB.out) : w.heap.size ≤ gb135)); have GE135 := Aside0.mk ((by rw [hg]; exact (below_size HB.out) : w.heap.size ≤ gb135)); replace HB := Aside0.mk (below_step HB.out hb); clear hb hbox hg) | ((with_reducible refine gate_callee (f := 47) rfl ?_); refine goesL_ (some 10) rfl rfl Try.func47 (by kernel_rfl) rfl #[.int .i64 a1] rfl (by (try simp only [List.map_toArray, List.map_cons, List.map_nil]); first | done | rfl | (simp only [List.length_drop, List.length_take]; rfl)) ?_; (with_reducible refine (nodeset_Valid.calls a1 false _ A3.out).mono ?_); rintro e w' ⟨rfl, ⟨nd, rfl⟩⟩; refine ⟨_, rfl, ?_⟩))
  go_ret2
  exact ⟨_, by first | rfl | (simp [errW_none, errW_some] <;> rfl) | (simp [*, errW_none, errW_some] <;> rfl), by first | exact Kd.R_nil _ _ _ _ _ | exact Kd.N_nil _ _ _ _ _ | exact Kd.V_nil _ _ _ _ _ | exact Kd.Q_nil _ _ _ _ _ | exact Kd.S_nil _ _ _ _ _, by repeat (first | (with_reducible first | exact HB.out | apply below_alloc | apply pw_below_drewN | apply below_drew1 | refine below_set ?_ GE135.out) | exact HB.out)⟩
/-! ### closure_Greatest: function 50 -/
def closure_Greatest.f (k : Nat) (l0_0 : List (S54)) (a1 : Int) : Option (Int) := (closure_eliminate.f k l0_0 a1).bind fun bt144 => (some bt144.1)
theorem closure_Greatest.mono : ∀ a0 a1 k, LeO (closure_Greatest.f k a0 a1) (closure_Greatest.f (k + 1) a0 a1) := by
  intro a0 a1 k
  unfold closure_Greatest.f
  repeat' first
      | (with_reducible exact closure_eliminate.mono _ _ _)
      | (with_reducible exact LeO.refl _)
      | (with_reducible exact LeO.none _)
      | (with_reducible refine LeO.ite ?_ ?_)
      | (with_reducible refine LeO.bind ?_ (fun _ => ?_))
      | exact closure_eliminate.mono _ _ _
      | exact LeO.none _
      | refine LeO.ite ?_ ?_
      | refine LeO.bind ?_ (fun _ => ?_)
set_option maxHeartbeats 8000000 in
set_option maxRecDepth 100000 in
theorem closure_Greatest.calls (k : Nat) (A0_0 : Option Addr) (c0_0 : Nat) (l0_0 : List (S54)) (a1 : Int) (r : Int) (w : World) (hr0_0 : Kd.C k54 w A0_0 l0_0.length l0_0) (hc0_0 : l0_0.length ≤ c0_0) (h : closure_Greatest.f k l0_0 a1 = some r) :
    Calls Try.prog 50 #[.agg #[.slice A0_0 l0_0.length c0_0], .int .i64 a1] w fun e w' => e = .returned (.int .i64 r) ∧ Below w.heap.size w w' := by
 have hu27 := Try.underlying27; have HR0_0 := Aside0.mk hr0_0; have HC0_0 := Aside0.mk hc0_0; clear hr0_0 hc0_0; have HB := Aside0.mk (Below.refl w.heap.size w); have H : ((closure_eliminate.f k l0_0 a1).bind fun bt144 => (some bt144.1)) = some r := h; clear h; replace H := Option.bind_eq_some_iff.mp H; obtain ⟨⟨t144, t145⟩, A30, H⟩ := H; replace H : (some t144) = some r := H; have A3 := Aside0.mk A30; clear A30; obtain rfl := Option.some.inj H
 go_enter Try.func50, Try.ntmps50
 go_wp2_with (first | ((with_reducible refine gate_dst (N := 2) rfl ?_); refine box_event ?hg (N := 2) ?hd (cs := #[.slice A0_0 l0_0.length c0_0]) (t := 27) ?hr ?_; (case hd => rfl); (case hg => rfl); (case hr => first | (go_simp; done) | (go_simp; rfl)); intro gb143 hg w4 hbox hb; have BK143 := Aside0.mk (hbox); have GW143 := Aside0.mk ((by rw [hg]; exact (below_size HB.out) : w.heap.size ≤ gb143)); have GE143 := Aside0.mk ((by rw [hg]; exact (below_size HB.out) : w.heap.size ≤ gb143)); replace HB := Aside0.mk (below_step HB.out hb); clear hb hbox hg; obtain ⟨hcz5_0, hfz5_0⟩ := blkC1 BK143.out) | ((with_reducible refine gate_callee (f := 84) rfl ?_); refine goesL_ (some 10) rfl rfl Try.func84 (by kernel_rfl) rfl #[.agg #[.slice A0_0 l0_0.length c0_0], .int .i64 a1] rfl (by (try simp only [List.map_toArray, List.map_cons, List.map_nil]); first | done | rfl | (simp only [List.length_drop, List.length_take]; rfl)) ?_; (with_reducible refine (closure_eliminate.calls k _ _ l0_0 a1 t144 t145 _ ?side1 ?side2 A3.out).mono ?_); (case side1 => exact (Kd.C_below HR0_0.out HB.out)); (case side2 => exact HC0_0.out); rintro e w6 ⟨v146, rfl, ho0, hb⟩; refine ⟨_, rfl, ?_⟩; have HO147 := Aside0.mk (Kd.R_lower ho0 (below_size HB.out)); replace BK143 := Aside0.mk (blk_below BK143.out hb); replace HB := Aside0.mk (below_step HB.out hb); (try clear hb); (try clear hb2); (try clear hk); (try clear hi); (try clear ho0)))
 go_ret
 exact ⟨by first | rfl | (simp [errW_none, errW_some] <;> rfl) | (simp [*, errW_none, errW_some] <;> rfl), by exact HB.out⟩
end Go.Proofs.Ytmeamdklonmahaa.QFederatedView
