/- Lean functions that answer as the Go functions do which the law reaches, and proofs that the Go code comes to exactly these answers. Conditions: those that each theorem names. -/
import Derived.Test.YtmeamdklonmahaaQFederatedSafex0
import Derived.Test.YtmeamdklonmahaaQFederatedSafex5
import Derived.Test.YtmeamdklonmahaaQFederatedSafex6
namespace Go.Proofs.Ytmeamdklonmahaa.QFederatedSafe
open Go.RowKit Go.Proofs.YtmeamdklonmahaaW.PrintWords Go.Proofs.YtmeamdklonmahaaW.PrintLast Go.Proofs.YtmeamdklonmahaaW.PrintMore
attribute [local go_sem] max2_int min2_int max_two min_two max_three min_three max_four min_four   -- for this text's walks alone
set_option linter.unusedVariables false
set_option linter.unusedSimpArgs false

/-! ### blocking_Blocks: function 48 -/
def blocking_Blocks.f (k : Nat) (l0_0 : List (S54)) (a1 : Int) (a2 : Int) : Option (Bool) := (nodeset_Valid.f a2).bind fun t329 => (if t329 = true then ((configuration_Declared.f k l0_0).bind fun t330 => ((nodeset_Has.f t330 a1).bind fun t331 => (if t331 = true then (if 0 ≤ a1 then (if a1 < (l0_0.length : Int) then ((threshold_Satisfied.f k ((rd_T54 l0_0 a1).f1.f0) ((rd_T54 l0_0 a1).f1.f1) ((rd_T54 l0_0 a1).f1.f2) (Go.bits .or .i64 (Go.bits .andNot .i64 1023 a2) (shl .i64 1 a1))).bind fun t333 => (some (!t333))) else (none)) else (none)) else (some false)))) else (some false))
def blocking_Blocks.T3 : Bool × List (List Nat × List Nat) := (true, [([], []), ([0], [0]), ([], []), ([1, 2], [1, 2]), ([3], [3]), ([4], [4]), ([], []), ([6], [6]), ([], []), ([8], [8]), ([7, 9], [7, 9]), ([5, 10], [5, 10]), ([11], [11]), ([12, 11, 0, 1, 2, 3, 4, 5, 6, 7, 8, 9, 10, 11, 12], [12])])
def blocking_Blocks.B3 : List Nat := [0, 1, 0, 7, 15, 31, 0, 64, 0, 256, 960, 2047, 4095, 8191]
theorem blocking_Blocks.tab3 : rtab .any (opsOf Try.f48 3) = blocking_Blocks.T3 := by kernel_rfl
theorem blocking_Blocks.bits3 : waitsOk blocking_Blocks.T3.2 blocking_Blocks.B3 = true := by kernel_rfl
set_option maxHeartbeats 8000000 in
set_option maxRecDepth 100000 in
theorem blocking_Blocks.calls (k : Nat) (A0_0 : Option Addr) (c0_0 : Nat) (l0_0 : List (S54)) (a1 : Int) (a2 : Int) (r : Bool) (w : World) (hr0_0 : Kd.C k54 w A0_0 l0_0.length l0_0) (hc0_0 : l0_0.length ≤ c0_0) (h : blocking_Blocks.f k l0_0 a1 a2 = some r) :
    Calls Try.prog 48 #[.agg #[.slice A0_0 l0_0.length c0_0], .int .i64 a1, .int .i64 a2] w fun e w' => e = .returned (.bool r) ∧ Below w.heap.size w w' := by
 have hu27 := Try.underlying27; have hu48 := Try.underlying48; have HR0_0 := am hr0_0; have HC0_0 := am hc0_0; clear hr0_0 hc0_0; have HB := am (Below.refl w.heap.size w); have H : ((nodeset_Valid.f a2).bind fun t329 => (if t329 = true then ((configuration_Declared.f k l0_0).bind fun t330 => ((nodeset_Has.f t330 a1).bind fun t331 => (if t331 = true then (if 0 ≤ a1 then (if a1 < (l0_0.length : Int) then ((threshold_Satisfied.f k ((rd_T54 l0_0 a1).f1.f0) ((rd_T54 l0_0 a1).f1.f1) ((rd_T54 l0_0 a1).f1.f2) (Go.bits .or .i64 (Go.bits .andNot .i64 1023 a2) (shl .i64 1 a1))).bind fun t333 => (some (!t333))) else (none)) else (none)) else (some false)))) else (some false))) = some r := h; clear h; replace H := Option.bind_eq_some_iff.mp H; obtain ⟨t329, A40, H⟩ := H; replace H : (if t329 = true then ((configuration_Declared.f k l0_0).bind fun t330 => ((nodeset_Has.f t330 a1).bind fun t331 => (if t331 = true then (if 0 ≤ a1 then (if a1 < (l0_0.length : Int) then ((threshold_Satisfied.f k ((rd_T54 l0_0 a1).f1.f0) ((rd_T54 l0_0 a1).f1.f1) ((rd_T54 l0_0 a1).f1.f2) (Go.bits .or .i64 (Go.bits .andNot .i64 1023 a2) (shl .i64 1 a1))).bind fun t333 => (some (!t333))) else (none)) else (none)) else (some false)))) else (some false)) = some r := H; have A4 := am A40; clear A40
 by_cases c5 : t329 = true
 ·
  subst c5; have H1 : ((configuration_Declared.f k l0_0).bind fun t330 => ((nodeset_Has.f t330 a1).bind fun t331 => (if t331 = true then (if 0 ≤ a1 then (if a1 < (l0_0.length : Int) then ((threshold_Satisfied.f k ((rd_T54 l0_0 a1).f1.f0) ((rd_T54 l0_0 a1).f1.f1) ((rd_T54 l0_0 a1).f1.f2) (Go.bits .or .i64 (Go.bits .andNot .i64 1023 a2) (shl .i64 1 a1))).bind fun t333 => (some (!t333))) else (none)) else (none)) else (some false)))) = some r := by rw [if_pos rfl] at H; exact H
  clear H; have H := H1; clear H1; replace H := Option.bind_eq_some_iff.mp H; obtain ⟨t330, A60, H⟩ := H; replace H : ((nodeset_Has.f t330 a1).bind fun t331 => (if t331 = true then (if 0 ≤ a1 then (if a1 < (l0_0.length : Int) then ((threshold_Satisfied.f k ((rd_T54 l0_0 a1).f1.f0) ((rd_T54 l0_0 a1).f1.f1) ((rd_T54 l0_0 a1).f1.f2) (Go.bits .or .i64 (Go.bits .andNot .i64 1023 a2) (shl .i64 1 a1))).bind fun t333 => (some (!t333))) else (none)) else (none)) else (some false))) = some r := H; have A6 := am A60; clear A60; replace H := Option.bind_eq_some_iff.mp H; obtain ⟨t331, A70, H⟩ := H; replace H : (if t331 = true then (if 0 ≤ a1 then (if a1 < (l0_0.length : Int) then ((threshold_Satisfied.f k ((rd_T54 l0_0 a1).f1.f0) ((rd_T54 l0_0 a1).f1.f1) ((rd_T54 l0_0 a1).f1.f2) (Go.bits .or .i64 (Go.bits .andNot .i64 1023 a2) (shl .i64 1 a1))).bind fun t333 => (some (!t333))) else (none)) else (none)) else (some false)) = some r := H; have A7 := am A70; clear A70
  by_cases c8 : t331 = true
  ·
   subst c8; have H1 : (if 0 ≤ a1 then (if a1 < (l0_0.length : Int) then ((threshold_Satisfied.f k ((rd_T54 l0_0 a1).f1.f0) ((rd_T54 l0_0 a1).f1.f1) ((rd_T54 l0_0 a1).f1.f2) (Go.bits .or .i64 (Go.bits .andNot .i64 1023 a2) (shl .i64 1 a1))).bind fun t333 => (some (!t333))) else (none)) else (none)) = some r := by rw [if_pos rfl] at H; exact H
   clear H; have H := H1; clear H1
   by_cases c9 : 0 ≤ a1
   ·
    rw [if_pos c9] at H; have c9b0 : decide (0 ≤ a1) = true := decide_eq_true c9; clear c9
    by_cases c10 : a1 < (l0_0.length : Int)
    ·
     rw [if_pos c10] at H; have c10b0 : decide (a1 < (l0_0.length : Int)) = true := decide_eq_true c10; clear c10; have c11b0 := eq_true (od : 0 ≤ a1); obtain ⟨ji12, hji12⟩ : ∃ j_ : Int, (shl .i64 1 a1) = j_ := ⟨_, rfl⟩; replace H : ((threshold_Satisfied.f k ((rd_T54 l0_0 a1).f1.f0) ((rd_T54 l0_0 a1).f1.f1) ((rd_T54 l0_0 a1).f1.f2) (Go.bits .or .i64 (Go.bits .andNot .i64 1023 a2) (ji12))).bind fun t333 => (some (!t333))) = some r := by first | (rw [hji12] at H; exact H) | (simp only [hji12] at H ⊢; exact H)
     (try rw [hji12] at A4); (try rw [hji12] at A6); (try rw [hji12] at A7); have hji12_ : (IntKind.i64.wrap (1 * 2 ^ min a1.toNat 64)) = ji12 := hji12; have hji12z : a1 ≤ 64 → (IntKind.i64.wrap (1 * 2 ^ a1.toNat)) = ji12 := shl_small hji12; have hji12u : (IntKind.i64.wrap (2 ^ min a1.toNat 64)) = ji12 := by have h_ := hji12_; rw [Int.one_mul] at h_; exact h_
     have hji12v : a1 ≤ 64 → (IntKind.i64.wrap (2 ^ a1.toNat)) = ji12 := fun hle_ => by have h_ := hji12z hle_; rw [Int.one_mul] at h_; exact h_
     have hji12y : (wrap64 (1 * 2 ^ min a1.toNat 64)) = ji12 := (i64_w _).symm.trans hji12_; have hji12x : a1 ≤ 64 → (wrap64 (1 * 2 ^ a1.toNat)) = ji12 := fun h_ => (i64_w _).symm.trans (hji12z h_); replace H := Option.bind_eq_some_iff.mp H; obtain ⟨t333, A130, H⟩ := H; replace H : (some (!t333)) = some r := H; have A13 := am A130; clear A130; obtain rfl := Option.some.inj H
     go_enter Try.func48, Try.ntmps48
     try go_wp2_with (first | (refine bx 3 #[.slice A0_0 l0_0.length c0_0] 27 HB.out ?_; intro gb328 hg w14 BK328 GE328 hb; replace HB := bs HB hb; clear hb hg) | (refine gA (some 8) Try.func47 #[.int .i64 a2] ?_; (with_reducible refine (nodeset_Valid.calls a2 true _ A4.out).mono ?_); rintro e w' ⟨rfl, ⟨nd, rfl⟩⟩; refine ⟨_, rfl, ?_⟩; have hcz15_0 : w14.cell? ⟨gb328, 0, none⟩ = some (.slice A0_0 l0_0.length c0_0) := (blk_cell BK328.out 0).trans rfl; have hfz15_0 := blk_frozen BK328.out 0) | (go_at_call 82; (with_reducible refine (configuration_Declared.calls k _ _ l0_0 t330 _ ?side1 ?side2 A6.out).mono ?_); (case side1 => repeat (first | exact (Kd.C_below HR0_0.out cl0) | (with_reducible refine Kd.C_alloc ?_ _) | (with_reducible refine Kd.C_drewN ?_ _) | (with_reducible refine Kd.C_drew ?_))); (case side2 => exact HC0_0.out); rintro e w16 ⟨rfl, hb⟩; replace BK328 := bw BK328 hb; replace HB := am (below_step (kw HB cl0) hb); (try clear hb); (try clear hi)) | (go_at_call 49; (with_reducible refine (nodeset_Has.calls t330 a1 true _ A7.out).mono ?_); rintro e w' ⟨rfl, ⟨nd, rfl⟩⟩))
     (repeat rewrite [dn_set]); (try (rw [drewN_self w16]; generalize hq_ : World.drewN w16 _ = w16; (try replace BK328 := dB hq_ BK328); (try replace HB := dW hq_ HB); clear hq_; obtain ⟨hcq1_0, hfq1_0⟩ := blkC1 BK328.out)); replace BK328 := am (blk_drew BK328.out); replace HB := am (below_drew1 HB.out); have p332 : 0 ≤ (a1 : Int) := od; have q332 : a1 < (l0_0.length : Int) := od; obtain ⟨ad332, A332_2, c332_2, A332_3, c332_3, e332, hx332_0, hx332_1, hx332_2, hx332_3, hl332_2, hi332_2, hl332_3, hi332_3⟩ := at_T54 HR0_0.out a1 p332 q332; have hw332_3 := hx332_3; have hw332_2 := hx332_2; have hw332_1 := hx332_1; have hw332_0 := hx332_0
     cases e332
     replace hx332_0 := (HB.out.cell (World.block_lt_of_cell? w _ hx332_0)).trans hx332_0; replace hx332_1 := (HB.out.cell (World.block_lt_of_cell? w _ hx332_1)).trans hx332_1; replace hx332_2 := (HB.out.cell (World.block_lt_of_cell? w _ hx332_2)).trans hx332_2; replace hx332_3 := (HB.out.cell (World.block_lt_of_cell? w _ hx332_3)).trans hx332_3; have HR332_2 := am hi332_2; have HC332_2 := am hl332_2; clear hi332_2 hl332_2; have HR332_3 := am hi332_3; have HC332_3 := am hl332_3; clear hi332_3 hl332_3; replace p332 := eq_true p332; replace q332 := eq_true q332; refine start_ (n := 14) (S := fun w' => w'.cell? ⟨gb328, 0, none⟩ = some (.slice (some ad332) l0_0.length c0_0) ∧ w'.cell? (ad332.add ((a1).toNat * 4)) = some (.bool ((rd_T54 l0_0 a1).f0)) ∧ w'.cell? ⟨(ad332.add ((a1).toNat * 4)).block, (ad332.add ((a1).toNat * 4)).off + 1, none⟩ = some (.int .i64 ((rd_T54 l0_0 a1).f1.f0)) ∧ w'.cell? ⟨(ad332.add ((a1).toNat * 4)).block, (ad332.add ((a1).toNat * 4)).off + 2, none⟩ = some (.slice A332_2 ((rd_T54 l0_0 a1).f1.f1).length c332_2) ∧ w'.cell? ⟨(ad332.add ((a1).toNat * 4)).block, (ad332.add ((a1).toNat * 4)).off + 3, none⟩ = some (.slice A332_3 ((rd_T54 l0_0 a1).f1.f2).length c332_3)) (ds := []) #[false, false, false, false, false, false, false, false, false, false, false, false, false, false] (by kernel_rfl) rfl rfl ⟨(blk_cell BK328.out 0).trans rfl, ((HB.out.cell (World.block_lt_of_cell? w _ hw332_0)).trans hw332_0), ((HB.out.cell (World.block_lt_of_cell? w _ hw332_1)).trans hw332_1), ((HB.out.cell (World.block_lt_of_cell? w _ hw332_2)).trans hw332_2), ((HB.out.cell (World.block_lt_of_cell? w _ hw332_3)).trans hw332_3)⟩ (fun hHeld => ?_); refine with_tabW blocking_Blocks.tab3 blocking_Blocks.bits3 (fun HT_ HW_ => ?_)
     generalize w16.drew = w17 at BK328 HB HR332_2 HR332_3 hx332_0 hx332_1 hx332_2 hx332_3 hHeld ⊢; refine pq (i := 0) (N := some 17) HT_ ?_
     refine pq (i := 2) (N := some 19) HT_ ?_
     refine pq (i := 6) (N := some 23) HT_ ?_
     refine pq (i := 7) (N := some 24) HT_ ?_
     refine pq (i := 8) (N := some 25) HT_ ?_
     refine pq (i := 9) (N := some 26) HT_ ?_
     refine pq (i := 10) (N := some 27) HT_ ?_
     refine tq (i := 1) (N := some 18) HT_ HW_ hHeld ?_
     refine pq (i := 3) (N := some 20) HT_ ?_
     refine pq (i := 4) (N := some 21) HT_ ?_
     refine tq (i := 5) (N := some 22) HT_ HW_ hHeld ?_
     refine one_ (i := 11) (N := some 28) #[true, true, true, true, true, true, true, true, true, true, true, true, false, false] rfl rfl (one_of HT_.out (by kernel_rfl)) (by decide) (fun K hK => ?_); refine goes_ Try.func83 (by kernel_rfl) rfl #[.agg #[.int .i64 ((rd_T54 l0_0 a1).f1.f0), .slice A332_2 ((rd_T54 l0_0 a1).f1.f1).length c332_2, .slice A332_3 ((rd_T54 l0_0 a1).f1.f2).length c332_3], .int .i64 (Go.bits .or .i64 (Go.bits .andNot .i64 1023 a2) (ji12))] (by rfl) rfl rfl (by (try simp only [List.map_toArray, List.map_cons, List.map_nil]); first | done | (simp only [hji12]; rfl) | rfl | (simp only [List.length_drop, List.length_take]; rfl)) ?_
     with_reducible refine (threshold_Satisfied.calls k ((rd_T54 l0_0 a1).f1.f0) _ _ ((rd_T54 l0_0 a1).f1.f1) _ _ ((rd_T54 l0_0 a1).f1.f2) (Go.bits .or .i64 (Go.bits .andNot .i64 1023 a2) (ji12)) t333 _ ?side1 ?side2 ?side3 ?side4 A13.out).mono ?_
     (case side1 => exact (Kd.C_below HR332_2.out HB.out))
     (case side2 => exact HC332_2.out)
     (case side3 => exact (Kd.C_below HR332_3.out HB.out))
     (case side4 => exact HC332_3.out)
     rintro e w18 ⟨rfl, hb⟩; refine ⟨_, rfl, ?_⟩; replace BK328 := bb BK328 hb; replace HB := bs HB hb; (try clear hb); refine hK.out _ _ ⟨(blk_cell BK328.out 0).trans rfl, ((HB.out.cell (World.block_lt_of_cell? w _ hw332_0)).trans hw332_0), ((HB.out.cell (World.block_lt_of_cell? w _ hw332_1)).trans hw332_1), ((HB.out.cell (World.block_lt_of_cell? w _ hw332_2)).trans hw332_2), ((HB.out.cell (World.block_lt_of_cell? w _ hw332_3)).trans hw332_3)⟩ (fun hHeld => ?_); clear hK K; refine norm_ (a' := ?_) ?_ ?_; rotate_left
     ·
      show Act.put _ (some 28) _ = _
      exact pu
     refine pq (i := 12) (N := some 29) HT_ ?_
     refine pq (i := 13) (N := some 6) HT_ ?_
     refine done_ (done_of HT_.out (by kernel_rfl)) ?_
     try go_wp2
     go_ret
     exact ⟨by first | rfl | (simp [errW_none, errW_some] <;> rfl) | (simp only [← hji12]; first | rfl | (simp [errW_none, errW_some] <;> rfl)) | (simp [*, errW_none, errW_some] <;> rfl), by exact HB.out⟩
    ·
     rw [if_neg c10] at H; exact absurd H (by simp)
   ·
    rw [if_neg c9] at H; exact absurd H (by simp)
  ·
   replace c8 := Bool.eq_false_iff.mpr c8; subst c8; have H1 : (some false) = some r := by rw [if_neg (show ¬ (false = true) by decide)] at H; exact H
   clear H; have H := H1; clear H1; obtain rfl := Option.some.inj H
   go_enter Try.func48, Try.ntmps48
   go_wp2_with (first | (refine bx 3 #[.slice A0_0 l0_0.length c0_0] 27 HB.out ?_; intro gb328 hg w19 BK328 GE328 hb; replace HB := bs HB hb; clear hb hg) | (refine gA (some 8) Try.func47 #[.int .i64 a2] ?_; (with_reducible refine (nodeset_Valid.calls a2 true _ A4.out).mono ?_); rintro e w' ⟨rfl, ⟨nd, rfl⟩⟩; refine ⟨_, rfl, ?_⟩; have hcz20_0 : w19.cell? ⟨gb328, 0, none⟩ = some (.slice A0_0 l0_0.length c0_0) := (blk_cell BK328.out 0).trans rfl; have hfz20_0 := blk_frozen BK328.out 0) | (go_at_call 82; (with_reducible refine (configuration_Declared.calls k _ _ l0_0 t330 _ ?side1 ?side2 A6.out).mono ?_); (case side1 => repeat (first | exact (Kd.C_below HR0_0.out cl0) | (with_reducible refine Kd.C_alloc ?_ _) | (with_reducible refine Kd.C_drewN ?_ _) | (with_reducible refine Kd.C_drew ?_))); (case side2 => exact HC0_0.out); rintro e w21 ⟨rfl, hb⟩; replace BK328 := bw BK328 hb; replace HB := am (below_step (kw HB cl0) hb); (try clear hb); (try clear hi)) | (go_at_call 49; (with_reducible refine (nodeset_Has.calls t330 a1 false _ A7.out).mono ?_); rintro e w' ⟨rfl, ⟨nd, rfl⟩⟩))
   go_ret
   exact ⟨er, cl0⟩
 ·
  replace c5 := Bool.eq_false_iff.mpr c5; subst c5; have H1 : (some false) = some r := by rw [if_neg (show ¬ (false = true) by decide)] at H; exact H
  clear H; have H := H1; clear H1; obtain rfl := Option.some.inj H
  go_enter Try.func48, Try.ntmps48
  go_wp2_with (first | (refine bx 3 #[.slice A0_0 l0_0.length c0_0] 27 HB.out ?_; intro gb328 hg w22 BK328 GE328 hb; replace HB := bs HB hb; clear hb hg) | (refine gA (some 8) Try.func47 #[.int .i64 a2] ?_; (with_reducible refine (nodeset_Valid.calls a2 false _ A4.out).mono ?_); rintro e w' ⟨rfl, ⟨nd, rfl⟩⟩; refine ⟨_, rfl, ?_⟩))
  go_ret
  exact ⟨er, cl0⟩
/-! ### federated_Accepts: function 11 -/
def federated_Accepts.j0 : Nat → Int → Int → Int → Bool → List (S54) → Option (Bool)
  | 0, _, _, _, _, _ => none
  | k + 1, x1, x2, x3, x16, x335000 => if x16 = true then (some false) else ((blocking_Blocks.f k x335000 x1 x3).bind fun t337 => (if t337 = true then (some true) else ((closure_Greatest.f k x335000 (Go.bits .or .i64 x2 x3)).bind fun t338 => ((nodeset_Has.f t338 x1).bind fun t339 => (some t339)))))
def federated_Accepts.f (k : Nat) (l0_0 : List (S54)) (a1 : Int) (a2 : Int) (a3 : Int) : Option (Bool) := (nodeset_Valid.f a2).bind fun t335 => (if t335 = true then ((nodeset_Valid.f a3).bind fun t336 => (federated_Accepts.j0 k a1 a2 a3 (!t336) l0_0)) else (federated_Accepts.j0 k a1 a2 a3 true l0_0))
set_option maxHeartbeats 8000000 in
set_option maxRecDepth 100000 in
theorem federated_Accepts.calls (k : Nat) (A0_0 : Option Addr) (c0_0 : Nat) (l0_0 : List (S54)) (a1 : Int) (a2 : Int) (a3 : Int) (r : Bool) (w : World) (hr0_0 : Kd.C k54 w A0_0 l0_0.length l0_0) (hc0_0 : l0_0.length ≤ c0_0) (h : federated_Accepts.f k l0_0 a1 a2 a3 = some r) :
    Calls Try.prog 11 #[.agg #[.slice A0_0 l0_0.length c0_0], .int .i64 a1, .int .i64 a2, .int .i64 a3] w fun e w' => e = .returned (.bool r) ∧ Below w.heap.size w w' := by
 have hu27 := Try.underlying27; have HR0_0 := am hr0_0; have HC0_0 := am hc0_0; clear hr0_0 hc0_0; have HB := am (Below.refl w.heap.size w); have H : ((nodeset_Valid.f a2).bind fun t335 => (if t335 = true then ((nodeset_Valid.f a3).bind fun t336 => (federated_Accepts.j0 k a1 a2 a3 (!t336) l0_0)) else (federated_Accepts.j0 k a1 a2 a3 true l0_0))) = some r := h; clear h; have HC5 := am H; clear H
 go_enter Try.func11, Try.ntmps11
 go_upto_region 1 with (first | (refine bx 4 #[.slice A0_0 l0_0.length c0_0] 27 HB.out ?_; intro gb334 hg w6 BK334 GE334 hb; replace HB := bs HB hb; clear hb hg))
 (try simp only [Act.put, List.setIfInBounds_toArray, List.set_cons_zero, List.set_cons_succ])
 go_cut [16] (fun v16 wc => ∃ (kq : Nat) (x16_4 : Bool), v16 = .bool x16_4 ∧ Aside0 (federated_Accepts.j0 kq a1 a2 a3 x16_4 l0_0 = some r) ∧ Aside0 (kq ≤ k) ∧ Aside0 (wc.heap[gb334]? = some (.cells #[(.slice A0_0 l0_0.length c0_0)] 27 (0, 0))) ∧ Aside0 (Below w.heap.size w wc))
 case first =>
  have H := HC5.out; clear HC5; replace H := Option.bind_eq_some_iff.mp H; obtain ⟨t335, A70, H⟩ := H; replace H : (if t335 = true then ((nodeset_Valid.f a3).bind fun t336 => (federated_Accepts.j0 k a1 a2 a3 (!t336) l0_0)) else (federated_Accepts.j0 k a1 a2 a3 true l0_0)) = some r := H; have A7 := am A70; clear A70
  by_cases c8 : t335 = true
  ·
   subst c8; have H1 : ((nodeset_Valid.f a3).bind fun t336 => (federated_Accepts.j0 k a1 a2 a3 (!t336) l0_0)) = some r := by rw [if_pos rfl] at H; exact H
   clear H; have H := H1; clear H1; replace H := Option.bind_eq_some_iff.mp H; obtain ⟨t336, A90, H⟩ := H; replace H : (federated_Accepts.j0 k a1 a2 a3 (!t336) l0_0) = some r := H; have A9 := am A90; clear A90; have H' := am H; clear H
   go_wp2_with (first | (refine gA (some 10) Try.func47 #[.int .i64 a2] ?_; (with_reducible refine (nodeset_Valid.calls a2 true _ A7.out).mono ?_); rintro e w' ⟨rfl, ⟨nd, rfl⟩⟩; refine ⟨_, rfl, ?_⟩) | (go_at_call 47; (with_reducible refine (nodeset_Valid.calls a3 t336 _ A9.out).mono ?_); rintro e w' ⟨rfl, ⟨nd, rfl⟩⟩))
   go_meet
   case rel => exact ⟨_, (!t336), ar, H', ⟨by first | omega | exact Nat.le_refl _⟩, ⟨by exact BK334.out⟩, ⟨cl0⟩⟩
  ·
   replace c8 := Bool.eq_false_iff.mpr c8; subst c8; have H1 : (federated_Accepts.j0 k a1 a2 a3 true l0_0) = some r := by rw [if_neg (show ¬ (false = true) by decide)] at H; exact H
   clear H; have H := H1; clear H1; have H' := am H; clear H
   go_wp2_with (first | (refine gA (some 10) Try.func47 #[.int .i64 a2] ?_; (with_reducible refine (nodeset_Valid.calls a2 false _ A7.out).mono ?_); rintro e w' ⟨rfl, ⟨nd, rfl⟩⟩; refine ⟨_, rfl, ?_⟩))
   go_meet
   case rel => exact ⟨_, (true), ar, H', ⟨by first | omega | exact Nat.le_refl _⟩, ⟨by exact BK334.out⟩, ⟨cl0⟩⟩
 case rest =>
  clear HC5; (try clear c1); (try clear p2); (try clear c4); (try clear p6); (try clear c8); obtain ⟨kq, x16_4, rfl, HA, HJ4, BK334, HB⟩ := hcut
  cases kq with
  | zero => exact absurd HA.out (by simp [federated_Accepts.j0])
  | succ kj4 =>
   have H := HA.out; clear HA; simp only [federated_Accepts.j0] at H
   by_cases c10 : x16_4 = true
   ·
    subst c10; have H1 : (some false) = some r := by rw [if_pos rfl] at H; exact H
    clear H; have H := H1; clear H1; obtain rfl := Option.some.inj H
    go_wp2
    go_ret
    exact ⟨er, by exact HB.out⟩
   ·
    replace c10 := Bool.eq_false_iff.mpr c10; subst c10; have H1 : ((blocking_Blocks.f kj4 l0_0 a1 a3).bind fun t337 => (if t337 = true then (some true) else ((closure_Greatest.f kj4 l0_0 (Go.bits .or .i64 a2 a3)).bind fun t338 => ((nodeset_Has.f t338 a1).bind fun t339 => (some t339))))) = some r := by rw [if_neg (show ¬ (false = true) by decide)] at H; exact H
    clear H; have H := H1; clear H1; replace H := Option.bind_eq_some_iff.mp H; obtain ⟨t337, A110, H⟩ := H; replace H : (if t337 = true then (some true) else ((closure_Greatest.f kj4 l0_0 (Go.bits .or .i64 a2 a3)).bind fun t338 => ((nodeset_Has.f t338 a1).bind fun t339 => (some t339)))) = some r := H; have A11 := am A110; clear A110
    by_cases c12 : t337 = true
    ·
     subst c12; have H1 : (some true) = some r := by rw [if_pos rfl] at H; exact H
     clear H; have H := H1; clear H1; obtain rfl := Option.some.inj H; obtain ⟨hcz13_0, hfz13_0⟩ := blkC1 BK334.out
     go_wp2_with (first | (refine gA (some 20) Try.func48 #[.agg #[.slice A0_0 l0_0.length c0_0], .int .i64 a1, .int .i64 a3] ?_; (with_reducible refine (blocking_Blocks.calls kj4 _ _ l0_0 a1 a3 true _ (Kd.C_below HR0_0.out HB.out) HC0_0.out A11.out).mono ?_); rintro e w14 ⟨rfl, hb⟩; refine ⟨_, rfl, ?_⟩; replace BK334 := bb BK334 hb; replace HB := bs HB hb; (try clear hb); (try clear hi)))
     go_ret
     exact ⟨er, by exact HB.out⟩
    ·
     replace c12 := Bool.eq_false_iff.mpr c12; subst c12; have H1 : ((closure_Greatest.f kj4 l0_0 (Go.bits .or .i64 a2 a3)).bind fun t338 => ((nodeset_Has.f t338 a1).bind fun t339 => (some t339))) = some r := by rw [if_neg (show ¬ (false = true) by decide)] at H; exact H
     clear H; have H := H1; clear H1; replace H := Option.bind_eq_some_iff.mp H; obtain ⟨t338, A150, H⟩ := H; replace H : ((nodeset_Has.f t338 a1).bind fun t339 => (some t339)) = some r := H; have A15 := am A150; clear A150; replace H := Option.bind_eq_some_iff.mp H; obtain ⟨t339, A160, H⟩ := H; replace H : (some t339) = some r := H; have A16 := am A160; clear A160; obtain rfl := Option.some.inj H; obtain ⟨hcz17_0, hfz17_0⟩ := blkC1 BK334.out
     go_wp2_with (first | (refine gA (some 20) Try.func48 #[.agg #[.slice A0_0 l0_0.length c0_0], .int .i64 a1, .int .i64 a3] ?_; (with_reducible refine (blocking_Blocks.calls kj4 _ _ l0_0 a1 a3 false _ (Kd.C_below HR0_0.out HB.out) HC0_0.out A11.out).mono ?_); rintro e w18 ⟨rfl, hb⟩; refine ⟨_, rfl, ?_⟩; replace BK334 := bb BK334 hb; replace HB := bs HB hb; (try clear hb); obtain ⟨hcz19_0, hfz19_0⟩ := blkC1 BK334.out) | (go_at_call 50; (with_reducible refine (closure_Greatest.calls kj4 _ _ l0_0 (Go.bits .or .i64 a2 a3) t338 _ (Kd.C_below HR0_0.out HB.out) HC0_0.out A15.out).mono ?_); rintro e w20 ⟨rfl, hb⟩; replace BK334 := bb BK334 hb; replace HB := bs HB hb; (try clear hb); (try clear hb2); (try clear hk); (try clear hi)) | (go_at_call 49; (with_reducible refine (nodeset_Has.calls t338 a1 t339 _ A16.out).mono ?_); rintro e w' ⟨rfl, ⟨nd, rfl⟩⟩))
     go_ret
     exact ⟨er, cl0⟩
/-! ### trustquorumlaw18_four: function 43 -/
def trustquorumlaw18_four.l0 : Nat → Int → List (S54) → Option ((List (S54)))
  | 0, _, _ => none
  | k + 1, x2, x342000 => if x2 < 4 then (if x342000.length < 2199023255552 then (trustquorumlaw18_four.l0 k (wrap64 (x2 + 1)) (x342000 ++ [(⟨true, (⟨3, (([0, 1, 2, 3] : List Int)), ([] : List (S48))⟩ : S48)⟩ : S54)])) else (none)) else (some x342000)
def trustquorumlaw18_four.f (k : Nat)  : Option ((List (S54))) := trustquorumlaw18_four.l0 k 0 ([] : List (S54))
theorem trustquorumlaw18_four.mono_l : ∀ k, (∀ y0 y1, LeO (trustquorumlaw18_four.l0 k y0 y1) (trustquorumlaw18_four.l0 (k + 1) y0 y1))
  | 0 => fun _ _ r h => by simp [trustquorumlaw18_four.l0] at h
  | k + 1 => by
    have ih0 := trustquorumlaw18_four.mono_l k
    · intro y0 y1
      unfold trustquorumlaw18_four.l0
      repeat' first
      | (with_reducible exact ih0 _ _)
      | (with_reducible exact LeO.refl _)
      | (with_reducible exact LeO.none _)
      | (with_reducible refine LeO.ite ?_ ?_)
      | (with_reducible refine LeO.bind ?_ (fun _ => ?_))
      | exact ih0 _ _
      | exact LeO.none _
      | refine LeO.ite ?_ ?_
      | refine LeO.bind ?_ (fun _ => ?_)
theorem trustquorumlaw18_four.mono : ∀ k, LeO (trustquorumlaw18_four.f k ) (trustquorumlaw18_four.f (k + 1) ) := by
  intro  k
  have ih0 := trustquorumlaw18_four.mono_l k
  unfold trustquorumlaw18_four.f
  repeat' first
      | (with_reducible exact ih0 _ _)
      | (with_reducible exact LeO.refl _)
      | (with_reducible exact LeO.none _)
      | (with_reducible refine LeO.ite ?_ ?_)
      | (with_reducible refine LeO.bind ?_ (fun _ => ?_))
      | exact ih0 _ _
      | exact LeO.none _
      | refine LeO.ite ?_ ?_
      | refine LeO.bind ?_ (fun _ => ?_)
set_option maxHeartbeats 8000000 in
set_option maxRecDepth 100000 in
theorem trustquorumlaw18_four.calls (k : Nat)  (r : List (S54)) (w : World) (h : trustquorumlaw18_four.f k  = some r) :
    Calls Try.prog 43 #[] w fun e w' => ∃ v0_ : Value, e = .returned (.agg #[v0_]) ∧ Kd.R k54 54 w' w.heap.size (fun _ => True) v0_ r ∧ Below w.heap.size w w' := by
 have hu27 := Try.underlying27; have hu48 := Try.underlying48; have hu54 := Try.underlying54; have HB := am (Below.refl w.heap.size w); have H : (trustquorumlaw18_four.l0 k 0 ([] : List (S54))) = some r := h; clear h; have H' := am H; clear H
 go_enter Try.func43, Try.ntmps43
 go_wp2_with (first | (refine bx 0 #[.slice none 0 0] 27 HB.out ?_; intro gb340 hg w1 BK340 GE340 hb; replace HB := bs HB hb; clear hb hg) | (refine bx 1 #[.slice none 0 0] 27 HB.out ?_; intro gb341 hg w2 BK341 GE341 hb; replace HB := bs HB hb; have NB340_341 := nl hg BK340; have NB341_340 := ng hg BK340; replace BK340 := bb BK340 hb; clear hb hg))
 go_loopg [2] k (fun kq v2 w' => ∃ (x2_1 : Int) (x342000_1 : List (S54)) (u342000 : Value), v2 = .int .i64 x2_1 ∧ Aside0 (trustquorumlaw18_four.l0 kq x2_1 x342000_1 = some r) ∧ Aside0 (kq ≤ k) ∧ Aside0 (Kd.R k54 54 w' w.heap.size (fun _ => True) u342000 x342000_1) ∧ Aside0 (w'.heap[gb340]? = some (.cells #[(.slice none 0 0)] 27 (0, 0))) ∧ Aside0 (w'.heap[gb341]? = some (.cells #[u342000] 27 (0, 0))) ∧ Aside0 (Below w.heap.size w w'))
 case atStart => exact ⟨(0), (([] : List (S54))), (.slice none 0 0), ar, H', ⟨Nat.le_refl _⟩, ⟨by first | exact Kd.R_nil _ _ _ _ _ | exact Kd.N_nil _ _ _ _ _ | exact Kd.V_nil _ _ _ _ _ | exact Kd.Q_nil _ _ _ _ _ | exact Kd.S_nil _ _ _ _ _⟩, ⟨by exact BK340.out⟩, ⟨by exact BK341.out⟩, ⟨by exact HB.out⟩⟩
 case round =>
  clear H'; (try clear p2); obtain ⟨x2_1, x342000_1, u342000, rfl, HA, HK1, HO_342000, BK340, BK341, HB⟩ := hrel
  cases gk with
  | zero => exact absurd HA.out (by simp [trustquorumlaw18_four.l0])
  | succ k1 =>
   have H := HA.out; clear HA; simp only [trustquorumlaw18_four.l0] at H
   by_cases c3 : x2_1 < 4
   ·
    rw [if_pos c3] at H; have c3b0 : decide (x2_1 < 4) = true := decide_eq_true c3; clear c3; obtain ⟨y342, hy342⟩ : ∃ y_ : List Int, y_ = (([0, 1, 2, 3] : List Int)) := ⟨_, rfl⟩; replace H : (if x342000_1.length < 2199023255552 then (trustquorumlaw18_four.l0 k1 (wrap64 (x2_1 + 1)) (x342000_1 ++ [(⟨true, (⟨3, y342, ([] : List (S48))⟩ : S48)⟩ : S54)])) else (none)) = some r := by first | (rw [hy342]; with_reducible exact H) | (have H2_ := (Option.bind_some _ _).symm.trans H; rw [hy342]; with_reducible exact H2_) | (have H2_ := (Option.bind_some _ _).symm.trans H; with_reducible exact H2_) | with_reducible exact H | (rw [hy342]; exact H) | exact H
    have Ny342 := am hy342; clear hy342
    by_cases c4 : x342000_1.length < 2199023255552
    ·
     rw [if_pos c4] at H; have LMc4 := am c4; clear c4; obtain ⟨y345, hy345⟩ : ∃ y_ : List (S54), y_ = (x342000_1 ++ [(⟨true, (⟨3, y342, ([] : List (S48))⟩ : S48)⟩ : S54)]) := ⟨_, rfl⟩; replace H : (trustquorumlaw18_four.l0 k1 (wrap64 (x2_1 + 1)) y345) = some r := by first | (rw [hy345]; with_reducible exact H) | (have H2_ := (Option.bind_some _ _).symm.trans H; rw [hy345]; with_reducible exact H2_) | (have H2_ := (Option.bind_some _ _).symm.trans H; with_reducible exact H2_) | with_reducible exact H | (rw [hy345]; exact H) | exact H
     have Ny345 := am hy345; clear hy345; have H' := am H; clear H; have hnb5 := NB341_340.out; have hnc5 := NB340_341.out; obtain ⟨hcz6_0, hfz6_0⟩ := blkC1 BK341.out
     go_wp2_with (first | ((with_reducible refine gate_dst (N := 9) rfl ?_); refine Kd.R_lit (Kd.int .i64) _ 3 ?hg (N := 9) ?hd (xs := ([0, 1, 2, 3] : List Int)) (inner := [.int .i64 0, .int .i64 1, .int .i64 2, .int .i64 3]) (ok := fun _ => True) (okp := fun _ => True) ?hr ?hp (fun _ hk => hk) trivial (Below.refl _ _) (Nat.le_refl _) (by simp) ?_; (case hd => rfl); (case hg => rfl); (case hr => first | (go_simp; done) | (go_simp; rfl)); (case hp => exact (Reps.one (show Kd.M (Kd.int .i64) _ _ _ 0 [.int .i64 0] from rfl) (Reps.one (show Kd.M (Kd.int .i64) _ _ _ 1 [.int .i64 1] from rfl) (Reps.one (show Kd.M (Kd.int .i64) _ _ _ 2 [.int .i64 2] from rfl) (Reps.one (show Kd.M (Kd.int .i64) _ _ _ 3 [.int .i64 3] from rfl) (Reps.none _ _)))))); intro v343 w7 ho8 hb hg_ hnew_; clear hg_ hnew_; (first | rw [← Ny342.out] at ho8 | (simp only [Int.reduceToNat] at ho8; rw [← Ny342.out] at ho8)); replace HO_342000 := am (Kd.R_elder' HO_342000.out (Kd.R_base ho8) hb); have HO344 := am (Kd.R_lower ho8 (below_size HB.out)); replace BK340 := bb BK340 hb; replace BK341 := bb BK341 hb; replace HB := bs HB hb; clear hb ho8; obtain ⟨Ao9, co9, eo9⟩ := Kd.R_slice HO344.out; subst eo9) | ((with_reducible refine gate_builtin (b := .append) (xs := #[.tmp 8, .tmp 12]) rfl ?_); at_builtin; refine Kd.R_append k54 (w0 := w) w.heap.size rfl (.tmp 8) (.tmp 12) 25 54 (.agg #[(.bool false), (.int .i64 0), (.slice none 0 0), (.slice none 0 0)]) 64 rfl Try.underlying25 info54 rfl (by decide) (by omega) u342000 x342000_1 (⟨true, (⟨3, y342, ([] : List (S48))⟩ : S48)⟩ : S54) [.bool true, .int .i64 3, .slice Ao9 y342.length co9, .slice none 0 0] (fun _ => True) (fun k_ => ((fun _ => True)) k_ ∧ some k_ ≠ (u342000 : Value).ownBlock) rfl rfl ?aP (fun _ hk => hk) ?aF ?aO ?aB ?aS ?aL ?_; (case aP => exact k54_mkM _ _ _ (⟨true, (⟨3, y342, ([] : List (S48))⟩ : S48)⟩ : S54) (Kd.R_mono (Kd.R_apart' (HO344.out) (Kd.R_typed HO_342000.out) (by decide)) (fun k_ hk => ⟨trivial, hk.2⟩)) (Kd.R_nil _ _ _ _ _)); (case aB => exact HB.out); (case aF => exact (fun _ _ => trivial)); (case aO => exact (by exact Kd.R_mono HO_342000.out (fun _ hk => trivial))); (case aS => exact (below_size HB.out)); (case aL => have := LMc4.out; omega); intro v346 w10 ho hb hg hat; rw [← Ny345.out] at ho; replace BK340 := am (blk_grown BK340.out hg (Kd.R_ne HO_342000.out BK340.out (by decide))); replace BK341 := am (blk_grown BK341.out hg (Kd.R_ne HO_342000.out BK341.out (by decide))); replace HB := am (hb); have HO347 := am (ho); clear HO_342000 HO344; clear ho hb hg hat; obtain ⟨Ao11, co11, eo11⟩ := Kd.R_slice HO347.out; subst eo11; obtain ⟨hcz12_0, hfz12_0⟩ := blkC1 BK341.out))
     go_roundg k1
     case measure => have := HK1.out; omega
     case rel => exact ⟨(wrap64 (x2_1 + 1)), (y345), (.slice Ao11 y345.length co11), ar, H', ⟨by have := HK1.out; omega⟩, ⟨by exact Kd.R_mono (Kd.R_far (p := ⟨gb341, 0, none⟩) (Kd.R_types HO347.out BK341.out (by decide)) (fun _ hk => hk.2) (.slice Ao11 y345.length co11)) (fun _ hk => trivial)⟩, ⟨bo⟩, ⟨bo⟩, ⟨cl0⟩⟩
    ·
     rw [if_neg c4] at H; exact absurd H (by simp)
   ·
    rw [if_neg c3] at H; have c3b0 : decide (x2_1 < 4) = false := decide_eq_false c3; clear c3; obtain rfl := Option.some.inj H; have hnb13 := NB341_340.out; have hnc13 := NB340_341.out; obtain ⟨hcz14_0, hfz14_0⟩ := blkC1 BK341.out; obtain ⟨Ao15, co15, eo15⟩ := Kd.R_slice HO_342000.out; subst eo15; obtain ⟨hcz16_0, hfz16_0⟩ := blkC1 BK340.out
    go_wp2
    refine bodyPost_ret (results_cell_row rfl _ _ gb340 27 #[.slice Ao15 x342000_1.length co15] (0, 0) _ rfl bo Try.underlying27 rfl (by kernel_rfl)) rfl ?_
    exact ⟨_, by first | rfl | (simp [errW_none, errW_some] <;> rfl) | (simp [*, errW_none, errW_some] <;> rfl), by exact Kd.R_mono (Kd.R_far (p := ⟨gb340, 0, none⟩) (Kd.R_types HO_342000.out BK340.out (by decide)) (fun _ hk => hk.2) (.slice Ao15 x342000_1.length co15)) (fun _ hk => trivial), cl0⟩
/-! ### trustquorumlaw18_awake: function 13 -/
def trustquorumlaw18_awake.f (k : Nat)  : Option (Bool) := (trustquorumlaw18_four.f k).bind fun t348 => ((federated_Accepts.f k t348 0 7 0).bind fun t351 => (if t351 = true then ((trustquorumlaw18_four.f k).bind fun t352 => ((federated_Accepts.f k t352 0 0 6).bind fun t355 => (if t355 = true then ((trustquorumlaw18_four.f k).bind fun t356 => ((federated_Accepts.f k t356 0 3 0).bind fun t359 => (if t359 = true then (some false) else ((trustquorumlaw18_four.f k).bind fun t360 => ((federated_Confirms.f k t360 0 7).bind fun t363 => (if t363 = true then ((trustquorumlaw18_four.f k).bind fun t364 => ((federated_Confirms.f k t364 0 14).bind fun t367 => (some (!t367)))) else (some false))))))) else (some false)))) else (some false)))
set_option maxHeartbeats 8000000 in
set_option maxRecDepth 100000 in
theorem trustquorumlaw18_awake.calls (k : Nat)  (r : Bool) (w : World) (HRT : Aside0 (r = true)) (h : trustquorumlaw18_awake.f k  = some r) :
    Calls Try.prog 13 #[] w fun e w' => e = .returned (.bool r) ∧ Below w.heap.size w w' := by
 have HB := am (Below.refl w.heap.size w); have H : ((trustquorumlaw18_four.f k).bind fun t348 => ((federated_Accepts.f k t348 0 7 0).bind fun t351 => (if t351 = true then ((trustquorumlaw18_four.f k).bind fun t352 => ((federated_Accepts.f k t352 0 0 6).bind fun t355 => (if t355 = true then ((trustquorumlaw18_four.f k).bind fun t356 => ((federated_Accepts.f k t356 0 3 0).bind fun t359 => (if t359 = true then (some false) else ((trustquorumlaw18_four.f k).bind fun t360 => ((federated_Confirms.f k t360 0 7).bind fun t363 => (if t363 = true then ((trustquorumlaw18_four.f k).bind fun t364 => ((federated_Confirms.f k t364 0 14).bind fun t367 => (some (!t367)))) else (some false))))))) else (some false)))) else (some false)))) = some r := h; clear h; replace H := Option.bind_eq_some_iff.mp H; obtain ⟨t348, A10, H⟩ := H; replace H : ((federated_Accepts.f k t348 0 7 0).bind fun t351 => (if t351 = true then ((trustquorumlaw18_four.f k).bind fun t352 => ((federated_Accepts.f k t352 0 0 6).bind fun t355 => (if t355 = true then ((trustquorumlaw18_four.f k).bind fun t356 => ((federated_Accepts.f k t356 0 3 0).bind fun t359 => (if t359 = true then (some false) else ((trustquorumlaw18_four.f k).bind fun t360 => ((federated_Confirms.f k t360 0 7).bind fun t363 => (if t363 = true then ((trustquorumlaw18_four.f k).bind fun t364 => ((federated_Confirms.f k t364 0 14).bind fun t367 => (some (!t367)))) else (some false))))))) else (some false)))) else (some false))) = some r := H; have A1 := am A10
 clear A10; replace H := Option.bind_eq_some_iff.mp H; obtain ⟨t351, A20, H⟩ := H; replace H : (if t351 = true then ((trustquorumlaw18_four.f k).bind fun t352 => ((federated_Accepts.f k t352 0 0 6).bind fun t355 => (if t355 = true then ((trustquorumlaw18_four.f k).bind fun t356 => ((federated_Accepts.f k t356 0 3 0).bind fun t359 => (if t359 = true then (some false) else ((trustquorumlaw18_four.f k).bind fun t360 => ((federated_Confirms.f k t360 0 7).bind fun t363 => (if t363 = true then ((trustquorumlaw18_four.f k).bind fun t364 => ((federated_Confirms.f k t364 0 14).bind fun t367 => (some (!t367)))) else (some false))))))) else (some false)))) else (some false)) = some r := H; have A2 := am A20; clear A20
 by_cases c3 : t351 = true
 ·
  subst c3; have H1 : ((trustquorumlaw18_four.f k).bind fun t352 => ((federated_Accepts.f k t352 0 0 6).bind fun t355 => (if t355 = true then ((trustquorumlaw18_four.f k).bind fun t356 => ((federated_Accepts.f k t356 0 3 0).bind fun t359 => (if t359 = true then (some false) else ((trustquorumlaw18_four.f k).bind fun t360 => ((federated_Confirms.f k t360 0 7).bind fun t363 => (if t363 = true then ((trustquorumlaw18_four.f k).bind fun t364 => ((federated_Confirms.f k t364 0 14).bind fun t367 => (some (!t367)))) else (some false))))))) else (some false)))) = some r := by rw [if_pos rfl] at H; exact H
  clear H; have H := H1; clear H1; replace H := Option.bind_eq_some_iff.mp H; obtain ⟨t352, A40, H⟩ := H; replace H : ((federated_Accepts.f k t352 0 0 6).bind fun t355 => (if t355 = true then ((trustquorumlaw18_four.f k).bind fun t356 => ((federated_Accepts.f k t356 0 3 0).bind fun t359 => (if t359 = true then (some false) else ((trustquorumlaw18_four.f k).bind fun t360 => ((federated_Confirms.f k t360 0 7).bind fun t363 => (if t363 = true then ((trustquorumlaw18_four.f k).bind fun t364 => ((federated_Confirms.f k t364 0 14).bind fun t367 => (some (!t367)))) else (some false))))))) else (some false))) = some r := H; have A4 := am A40; clear A40; obtain rfl : t348 = t352 := Option.some.inj (A1.out.symm.trans A4.out); replace H := Option.bind_eq_some_iff.mp H; obtain ⟨t355, A50, H⟩ := H; replace H : (if t355 = true then ((trustquorumlaw18_four.f k).bind fun t356 => ((federated_Accepts.f k t356 0 3 0).bind fun t359 => (if t359 = true then (some false) else ((trustquorumlaw18_four.f k).bind fun t360 => ((federated_Confirms.f k t360 0 7).bind fun t363 => (if t363 = true then ((trustquorumlaw18_four.f k).bind fun t364 => ((federated_Confirms.f k t364 0 14).bind fun t367 => (some (!t367)))) else (some false))))))) else (some false)) = some r := H; have A5 := am A50; clear A50
  by_cases c6 : t355 = true
  ·
   subst c6; have H1 : ((trustquorumlaw18_four.f k).bind fun t356 => ((federated_Accepts.f k t356 0 3 0).bind fun t359 => (if t359 = true then (some false) else ((trustquorumlaw18_four.f k).bind fun t360 => ((federated_Confirms.f k t360 0 7).bind fun t363 => (if t363 = true then ((trustquorumlaw18_four.f k).bind fun t364 => ((federated_Confirms.f k t364 0 14).bind fun t367 => (some (!t367)))) else (some false))))))) = some r := by rw [if_pos rfl] at H; exact H
   clear H; have H := H1; clear H1; replace H := Option.bind_eq_some_iff.mp H; obtain ⟨t356, A70, H⟩ := H; replace H : ((federated_Accepts.f k t356 0 3 0).bind fun t359 => (if t359 = true then (some false) else ((trustquorumlaw18_four.f k).bind fun t360 => ((federated_Confirms.f k t360 0 7).bind fun t363 => (if t363 = true then ((trustquorumlaw18_four.f k).bind fun t364 => ((federated_Confirms.f k t364 0 14).bind fun t367 => (some (!t367)))) else (some false)))))) = some r := H; have A7 := am A70; clear A70; obtain rfl : t348 = t356 := Option.some.inj (A1.out.symm.trans A7.out); replace H := Option.bind_eq_some_iff.mp H; obtain ⟨t359, A80, H⟩ := H; replace H : (if t359 = true then (some false) else ((trustquorumlaw18_four.f k).bind fun t360 => ((federated_Confirms.f k t360 0 7).bind fun t363 => (if t363 = true then ((trustquorumlaw18_four.f k).bind fun t364 => ((federated_Confirms.f k t364 0 14).bind fun t367 => (some (!t367)))) else (some false))))) = some r := H; have A8 := am A80; clear A80
   by_cases c9 : t359 = true
   ·
    subst c9; have H1 : (some false) = some r := by rw [if_pos rfl] at H; exact H
    clear H; have H := H1; clear H1; exact absurd ((Option.some.inj H).trans HRT.out) (by decide)
   ·
    replace c9 := Bool.eq_false_iff.mpr c9; subst c9; have H1 : ((trustquorumlaw18_four.f k).bind fun t360 => ((federated_Confirms.f k t360 0 7).bind fun t363 => (if t363 = true then ((trustquorumlaw18_four.f k).bind fun t364 => ((federated_Confirms.f k t364 0 14).bind fun t367 => (some (!t367)))) else (some false)))) = some r := by rw [if_neg (show ¬ (false = true) by decide)] at H; exact H
    clear H; have H := H1; clear H1; replace H := Option.bind_eq_some_iff.mp H; obtain ⟨t360, A100, H⟩ := H; replace H : ((federated_Confirms.f k t360 0 7).bind fun t363 => (if t363 = true then ((trustquorumlaw18_four.f k).bind fun t364 => ((federated_Confirms.f k t364 0 14).bind fun t367 => (some (!t367)))) else (some false))) = some r := H; have A10 := am A100; clear A100; obtain rfl : t348 = t360 := Option.some.inj (A1.out.symm.trans A10.out); replace H := Option.bind_eq_some_iff.mp H; obtain ⟨t363, A110, H⟩ := H; replace H : (if t363 = true then ((trustquorumlaw18_four.f k).bind fun t364 => ((federated_Confirms.f k t364 0 14).bind fun t367 => (some (!t367)))) else (some false)) = some r := H; have A11 := am A110; clear A110
    by_cases c12 : t363 = true
    ·
     subst c12; have H1 : ((trustquorumlaw18_four.f k).bind fun t364 => ((federated_Confirms.f k t364 0 14).bind fun t367 => (some (!t367)))) = some r := by rw [if_pos rfl] at H; exact H
     clear H; have H := H1; clear H1; replace H := Option.bind_eq_some_iff.mp H; obtain ⟨t364, A130, H⟩ := H; replace H : ((federated_Confirms.f k t364 0 14).bind fun t367 => (some (!t367))) = some r := H; have A13 := am A130; clear A130; obtain rfl : t348 = t364 := Option.some.inj (A1.out.symm.trans A13.out); replace H := Option.bind_eq_some_iff.mp H; obtain ⟨t367, A140, H⟩ := H; replace H : (some (!t367)) = some r := H; have A14 := am A140; clear A140; obtain rfl := Option.some.inj H
     go_enter Try.func13, Try.ntmps13
     go_wp2_with (first | (refine gA (some 1) Try.func43 #[] ?_; (with_reducible refine (trustquorumlaw18_four.calls k  t348 _ A1.out).mono ?_); rintro e w15 ⟨v349, rfl, ho0, hb⟩; refine ⟨_, rfl, ?_⟩; have HO350 := am (Kd.R_lower ho0 (below_size HB.out)); replace HB := bs HB hb; (try clear hb); (try clear ho0); (try clear A1); obtain ⟨Ao16, co16, eo16⟩ := Kd.R_slice HO350.out; subst eo16) | (refine gA (some 2) Try.func11 #[.agg #[.slice Ao16 t348.length co16], .int .i64 0, .int .i64 7, .int .i64 0] ?_; (with_reducible refine (federated_Accepts.calls k _ _ t348 0 7 0 true _ ((Kd.R_reads' HO350.out).2.2) ((Kd.R_reads' HO350.out).2.1) A2.out).mono ?_); rintro e w17 ⟨rfl, hb⟩; refine ⟨_, rfl, ?_⟩; replace HO350 := am (Kd.R_below HO350.out hb); replace HB := bs HB hb; (try clear hb); (try clear hi)) | (go_at_call 43; (with_reducible refine (trustquorumlaw18_four.calls k  t348 _ A4.out).mono ?_); rintro e w18 ⟨v353, rfl, ho0, hb⟩; have HO354 := am (Kd.R_lower (Kd.R_new' ho0 (Kd.R_lt HO350.out)) (below_size HB.out)); replace HO350 := am (Kd.R_elder' HO350.out (Kd.R_base ho0) hb); replace HB := bs HB hb; (try clear hb); (try clear hb2); (try clear hk); (try clear hi); (try clear ho0); (try clear A4); obtain ⟨Ao19, co19, eo19⟩ := Kd.R_slice HO354.out; subst eo19) | (go_at_call 11; (with_reducible refine (federated_Accepts.calls k _ _ t348 0 0 6 true _ ((Kd.R_reads' HO354.out).2.2) ((Kd.R_reads' HO354.out).2.1) A5.out).mono ?_); rintro e w20 ⟨rfl, hb⟩; replace HO350 := am (Kd.R_below HO350.out hb); replace HO354 := am (Kd.R_below HO354.out hb); replace HB := bs HB hb; (try clear hb); (try clear hb2); (try clear hk); (try clear hi)) | (go_at_call 43; (with_reducible refine (trustquorumlaw18_four.calls k  t348 _ A7.out).mono ?_); rintro e w21 ⟨v357, rfl, ho0, hb⟩; have HO358 := am (Kd.R_lower (Kd.R_new' (Kd.R_new' ho0 (Kd.R_lt HO350.out)) (Kd.R_lt HO354.out)) (below_size HB.out)); replace HO350 := am (Kd.R_elder' HO350.out (Kd.R_base ho0) hb); replace HO354 := am (Kd.R_elder' HO354.out (Kd.R_base ho0) hb); replace HB := bs HB hb; (try clear hb); (try clear hb2); (try clear hk); (try clear hi); (try clear ho0); (try clear A7); obtain ⟨Ao22, co22, eo22⟩ := Kd.R_slice HO358.out; subst eo22) | (go_at_call 11; (with_reducible refine (federated_Accepts.calls k _ _ t348 0 3 0 false _ ((Kd.R_reads' HO358.out).2.2) ((Kd.R_reads' HO358.out).2.1) A8.out).mono ?_); rintro e w23 ⟨rfl, hb⟩; replace HO350 := am (Kd.R_below HO350.out hb); replace HO354 := am (Kd.R_below HO354.out hb); replace HO358 := am (Kd.R_below HO358.out hb); replace HB := bs HB hb; (try clear hb); (try clear hb2); (try clear hk); (try clear hi)) | (go_at_call 43; (with_reducible refine (trustquorumlaw18_four.calls k  t348 _ A10.out).mono ?_); rintro e w24 ⟨v361, rfl, ho0, hb⟩; have HO362 := am (Kd.R_lower (Kd.R_new' (Kd.R_new' (Kd.R_new' ho0 (Kd.R_lt HO350.out)) (Kd.R_lt HO354.out)) (Kd.R_lt HO358.out)) (below_size HB.out)); replace HO350 := am (Kd.R_elder' HO350.out (Kd.R_base ho0) hb); replace HO354 := am (Kd.R_elder' HO354.out (Kd.R_base ho0) hb); replace HO358 := am (Kd.R_elder' HO358.out (Kd.R_base ho0) hb); replace HB := bs HB hb; (try clear hb); (try clear hb2); (try clear hk); (try clear hi); (try clear ho0); (try clear A10); obtain ⟨Ao25, co25, eo25⟩ := Kd.R_slice HO362.out; subst eo25) | (go_at_call 12; (with_reducible refine (federated_Confirms.calls k _ _ t348 0 7 true _ ((Kd.R_reads' HO362.out).2.2) ((Kd.R_reads' HO362.out).2.1) A11.out).mono ?_); rintro e w26 ⟨rfl, hb⟩; replace HO350 := am (Kd.R_below HO350.out hb); replace HO354 := am (Kd.R_below HO354.out hb); replace HO358 := am (Kd.R_below HO358.out hb); replace HO362 := am (Kd.R_below HO362.out hb); replace HB := bs HB hb; (try clear hb); (try clear hb2); (try clear hk); (try clear hi)) | (go_at_call 43; (with_reducible refine (trustquorumlaw18_four.calls k  t348 _ A13.out).mono ?_); rintro e w27 ⟨v365, rfl, ho0, hb⟩; have HO366 := am (Kd.R_lower (Kd.R_new' (Kd.R_new' (Kd.R_new' (Kd.R_new' ho0 (Kd.R_lt HO350.out)) (Kd.R_lt HO354.out)) (Kd.R_lt HO358.out)) (Kd.R_lt HO362.out)) (below_size HB.out)); replace HO350 := am (Kd.R_elder' HO350.out (Kd.R_base ho0) hb); replace HO354 := am (Kd.R_elder' HO354.out (Kd.R_base ho0) hb); replace HO358 := am (Kd.R_elder' HO358.out (Kd.R_base ho0) hb); replace HO362 := am (Kd.R_elder' HO362.out (Kd.R_base ho0) hb); replace HB := bs HB hb; (try clear hb); (try clear hb2); (try clear hk); (try clear hi); (try clear ho0); (try clear A13); obtain ⟨Ao28, co28, eo28⟩ := Kd.R_slice HO366.out; subst eo28) | (go_at_call 12; (with_reducible refine (federated_Confirms.calls k _ _ t348 0 14 t367 _ ((Kd.R_reads' HO366.out).2.2) ((Kd.R_reads' HO366.out).2.1) A14.out).mono ?_); rintro e w29 ⟨rfl, hb⟩; replace HO350 := am (Kd.R_below HO350.out hb); replace HO354 := am (Kd.R_below HO354.out hb); replace HO358 := am (Kd.R_below HO358.out hb); replace HO362 := am (Kd.R_below HO362.out hb); replace HO366 := am (Kd.R_below HO366.out hb); replace HB := bs HB hb; (try clear hb); (try clear hb2); (try clear hk); (try clear hi)))
     go_ret
     exact ⟨er, by exact HB.out⟩
    ·
     replace c12 := Bool.eq_false_iff.mpr c12; subst c12; have H1 : (some false) = some r := by rw [if_neg (show ¬ (false = true) by decide)] at H; exact H
     clear H; have H := H1; clear H1; exact absurd ((Option.some.inj H).trans HRT.out) (by decide)
  ·
   replace c6 := Bool.eq_false_iff.mpr c6; subst c6; have H1 : (some false) = some r := by rw [if_neg (show ¬ (false = true) by decide)] at H; exact H
   clear H; have H := H1; clear H1; exact absurd ((Option.some.inj H).trans HRT.out) (by decide)
 ·
  replace c3 := Bool.eq_false_iff.mpr c3; subst c3; have H1 : (some false) = some r := by rw [if_neg (show ¬ (false = true) by decide)] at H; exact H
  clear H; have H := H1; clear H1; exact absurd ((Option.some.inj H).trans HRT.out) (by decide)
/-! ### trustquorumref06_Declared: function 52 -/
def trustquorumref06_Declared.l0 : Nat → Int → List (S54) → Int → Int → Option (Int)
  | 0, _, _, _, _ => none
  | k + 1, x3, x7, x8, x9 => if x9 < x8 then (if 0 ≤ x9 then (if x9 < (x7.length : Int) then (if x9 < 10 then (if (rd_T54 x7 x9).f0 = true then (trustquorumref06_Declared.l0 k (Go.bits .or .i64 x3 (shl .i64 1 x9)) x7 x8 (wrap64 (x9 + 1))) else (trustquorumref06_Declared.l0 k x3 x7 x8 (wrap64 (x9 + 1)))) else (trustquorumref06_Declared.l0 k x3 x7 x8 (wrap64 (x9 + 1)))) else (none)) else (none)) else (some x3)
def trustquorumref06_Declared.f (k : Nat) (l0_0 : List (S54)) : Option (Int) := trustquorumref06_Declared.l0 k 0 l0_0 (l0_0.length : Int) 0
set_option maxHeartbeats 8000000 in
set_option maxRecDepth 100000 in
theorem trustquorumref06_Declared.calls (k : Nat) (A0_0 : Option Addr) (c0_0 : Nat) (l0_0 : List (S54)) (r : Int) (w : World) (hr0_0 : Kd.C k54 w A0_0 l0_0.length l0_0) (hc0_0 : l0_0.length ≤ c0_0) (h : trustquorumref06_Declared.f k l0_0 = some r) :
    Calls Try.prog 52 #[.agg #[.slice A0_0 l0_0.length c0_0]] w fun e w' => e = .returned (.int .i64 r) ∧ Below w.heap.size w w' := by
 have hu27 := Try.underlying27; have hu54 := Try.underlying54; have HR0_0 := am hr0_0; have HC0_0 := am hc0_0; clear hr0_0 hc0_0; have HB := am (Below.refl w.heap.size w); have H : (trustquorumref06_Declared.l0 k 0 l0_0 (l0_0.length : Int) 0) = some r := h; clear h; have H' := am H; clear H
 go_enter Try.func52, Try.ntmps52
 go_wp2_with (first | (refine bx 1 #[.slice A0_0 l0_0.length c0_0] 27 HB.out ?_; intro gb368 hg w2 BK368 GE368 hb; replace HB := bs HB hb; clear hb hg; obtain ⟨hcz3_0, hfz3_0⟩ := blkC1 BK368.out))
 go_loopg [3, 9] k (fun kq v3 v9 w' => ∃ (x3_1 : Int) (x9_1 : Int), v3 = .int .i64 x3_1 ∧ v9 = .int .i64 x9_1 ∧ Aside0 (trustquorumref06_Declared.l0 kq x3_1 l0_0 (l0_0.length : Int) x9_1 = some r) ∧ Aside0 (kq ≤ k) ∧ Aside0 (Below w.heap.size w w'))
 case atStart => exact ⟨(0), (0), ar, ar, H', ⟨Nat.le_refl _⟩, ⟨by exact HB.out⟩⟩
 case round =>
  clear H'; (try clear p2); (try clear hcz3_0 hfz3_0); obtain ⟨x3_1, x9_1, rfl, rfl, HA, HK1, HB⟩ := hrel
  cases gk with
  | zero => exact absurd HA.out (by simp [trustquorumref06_Declared.l0])
  | succ k1 =>
   have H := HA.out; clear HA; simp only [trustquorumref06_Declared.l0] at H
   by_cases c4 : x9_1 < (l0_0.length : Int)
   ·
    rw [if_pos c4] at H; have c4b0 : decide (x9_1 < (l0_0.length : Int)) = true := decide_eq_true c4; clear c4
    by_cases c5 : 0 ≤ x9_1
    ·
     rw [if_pos c5] at H; have c5b0 : decide (0 ≤ x9_1) = true := decide_eq_true c5; clear c5
     by_cases c6 : x9_1 < (l0_0.length : Int)
     ·
      rw [if_pos c6] at H; have c6b0 : decide (x9_1 < (l0_0.length : Int)) = true := decide_eq_true c6; clear c6
      by_cases c7 : x9_1 < 10
      ·
       rw [if_pos c7] at H; have c7b0 : decide (x9_1 < 10) = true := decide_eq_true c7; clear c7; obtain ⟨bq8, hbq8⟩ : ∃ b_ : Bool, b_ = ((rd_T54 l0_0 x9_1).f0) := ⟨_, rfl⟩; replace H : (if bq8 = true then (trustquorumref06_Declared.l0 k1 (Go.bits .or .i64 x3_1 (shl .i64 1 x9_1)) l0_0 (l0_0.length : Int) (wrap64 (x9_1 + 1))) else (trustquorumref06_Declared.l0 k1 x3_1 l0_0 (l0_0.length : Int) (wrap64 (x9_1 + 1)))) = some r := by rw [← hbq8] at H; exact H
       have Nbq8 := am hbq8; clear hbq8
       by_cases c9 : bq8 = true
       ·
        subst c9; have H1 : (trustquorumref06_Declared.l0 k1 (Go.bits .or .i64 x3_1 (shl .i64 1 x9_1)) l0_0 (l0_0.length : Int) (wrap64 (x9_1 + 1))) = some r := by rw [if_pos rfl] at H; exact H
        clear H; have H := H1; clear H1; have c10b0 := eq_true (od : 0 ≤ x9_1); obtain ⟨ji11, hji11⟩ : ∃ j_ : Int, (shl .i64 1 x9_1) = j_ := ⟨_, rfl⟩; replace H : (trustquorumref06_Declared.l0 k1 (Go.bits .or .i64 x3_1 (ji11)) l0_0 (l0_0.length : Int) (wrap64 (x9_1 + 1))) = some r := by first | (rw [hji11] at H; exact H) | (simp only [hji11] at H ⊢; exact H)
        have hji11_ : (IntKind.i64.wrap (1 * 2 ^ min x9_1.toNat 64)) = ji11 := hji11; have hji11z : x9_1 ≤ 64 → (IntKind.i64.wrap (1 * 2 ^ x9_1.toNat)) = ji11 := shl_small hji11; have hji11u : (IntKind.i64.wrap (2 ^ min x9_1.toNat 64)) = ji11 := by have h_ := hji11_; rw [Int.one_mul] at h_; exact h_
        have hji11v : x9_1 ≤ 64 → (IntKind.i64.wrap (2 ^ x9_1.toNat)) = ji11 := fun hle_ => by have h_ := hji11z hle_; rw [Int.one_mul] at h_; exact h_
        have hji11y : (wrap64 (1 * 2 ^ min x9_1.toNat 64)) = ji11 := (i64_w _).symm.trans hji11_; have hji11x : x9_1 ≤ 64 → (wrap64 (1 * 2 ^ x9_1.toNat)) = ji11 := fun h_ => (i64_w _).symm.trans (hji11z h_); have H' := am H; clear H; have p369 : 0 ≤ (x9_1 : Int) := od; have q369 : x9_1 < (l0_0.length : Int) := od; obtain ⟨ad369, A369_2, c369_2, A369_3, c369_3, e369, hx369_0, hx369_1, hx369_2, hx369_3, hl369_2, hi369_2, hl369_3, hi369_3⟩ := at_T54 HR0_0.out x9_1 p369 q369; (try rw [← Nbq8.out] at hx369_0)
        cases e369
        replace hx369_0 := (HB.out.cell (World.block_lt_of_cell? w _ hx369_0)).trans hx369_0; replace hx369_1 := (HB.out.cell (World.block_lt_of_cell? w _ hx369_1)).trans hx369_1; replace hx369_2 := (HB.out.cell (World.block_lt_of_cell? w _ hx369_2)).trans hx369_2; replace hx369_3 := (HB.out.cell (World.block_lt_of_cell? w _ hx369_3)).trans hx369_3; have HR369_2 := am hi369_2; have HC369_2 := am hl369_2; clear hi369_2 hl369_2; have HR369_3 := am hi369_3; have HC369_3 := am hl369_3; clear hi369_3 hl369_3; replace p369 := eq_true p369; replace q369 := eq_true q369
        go_wp2_with (first | (refine bx 5 #[.bool false, .int .i64 0, .slice none 0 0, .slice none 0 0] 54 HB.out ?_; intro gb370 hg w12 BK370 GE370 hb; replace HB := bs HB hb; clear hb hg; obtain ⟨hcz13_0, hcz13_1, hcz13_2, hcz13_3, hfz13_0, hfz13_1, hfz13_2, hfz13_3⟩ := blkC4 BK370.out))
        go_roundg k1
        case measure => have := HK1.out; omega
        case rel => exact ⟨(Go.bits .or .i64 x3_1 (ji11)), (wrap64 (x9_1 + 1)), (by first | rfl | (simp; done) | (simp only [← hji11] <;> (first | rfl | simp)) | (simp [*]; done)), ar, H', ⟨by have := HK1.out; omega⟩, ⟨cl0⟩⟩
       ·
        replace c9 := Bool.eq_false_iff.mpr c9; subst c9; have H1 : (trustquorumref06_Declared.l0 k1 x3_1 l0_0 (l0_0.length : Int) (wrap64 (x9_1 + 1))) = some r := by rw [if_neg (show ¬ (false = true) by decide)] at H; exact H
        clear H; have H := H1; clear H1; have H' := am H; clear H; have p369 : 0 ≤ (x9_1 : Int) := od; have q369 : x9_1 < (l0_0.length : Int) := od; obtain ⟨ad369, A369_2, c369_2, A369_3, c369_3, e369, hx369_0, hx369_1, hx369_2, hx369_3, hl369_2, hi369_2, hl369_3, hi369_3⟩ := at_T54 HR0_0.out x9_1 p369 q369; (try rw [← Nbq8.out] at hx369_0)
        cases e369
        replace hx369_0 := (HB.out.cell (World.block_lt_of_cell? w _ hx369_0)).trans hx369_0; replace hx369_1 := (HB.out.cell (World.block_lt_of_cell? w _ hx369_1)).trans hx369_1; replace hx369_2 := (HB.out.cell (World.block_lt_of_cell? w _ hx369_2)).trans hx369_2; replace hx369_3 := (HB.out.cell (World.block_lt_of_cell? w _ hx369_3)).trans hx369_3; have HR369_2 := am hi369_2; have HC369_2 := am hl369_2; clear hi369_2 hl369_2; have HR369_3 := am hi369_3; have HC369_3 := am hl369_3; clear hi369_3 hl369_3; replace p369 := eq_true p369; replace q369 := eq_true q369
        go_wp2_with (first | (refine bx 5 #[.bool false, .int .i64 0, .slice none 0 0, .slice none 0 0] 54 HB.out ?_; intro gb370 hg w14 BK370 GE370 hb; replace HB := bs HB hb; clear hb hg; obtain ⟨hcz15_0, hcz15_1, hcz15_2, hcz15_3, hfz15_0, hfz15_1, hfz15_2, hfz15_3⟩ := blkC4 BK370.out))
        go_roundg k1
        case measure => have := HK1.out; omega
        case rel => exact ⟨(x3_1), (wrap64 (x9_1 + 1)), ar, ar, H', ⟨by have := HK1.out; omega⟩, ⟨cl0⟩⟩
      ·
       rw [if_neg c7] at H; have c7b0 : decide (x9_1 < 10) = false := decide_eq_false c7; clear c7; have H' := am H; clear H; have p369 : 0 ≤ (x9_1 : Int) := od; have q369 : x9_1 < (l0_0.length : Int) := od; obtain ⟨ad369, A369_2, c369_2, A369_3, c369_3, e369, hx369_0, hx369_1, hx369_2, hx369_3, hl369_2, hi369_2, hl369_3, hi369_3⟩ := at_T54 HR0_0.out x9_1 p369 q369
       cases e369
       replace hx369_0 := (HB.out.cell (World.block_lt_of_cell? w _ hx369_0)).trans hx369_0; replace hx369_1 := (HB.out.cell (World.block_lt_of_cell? w _ hx369_1)).trans hx369_1; replace hx369_2 := (HB.out.cell (World.block_lt_of_cell? w _ hx369_2)).trans hx369_2; replace hx369_3 := (HB.out.cell (World.block_lt_of_cell? w _ hx369_3)).trans hx369_3; have HR369_2 := am hi369_2; have HC369_2 := am hl369_2; clear hi369_2 hl369_2; have HR369_3 := am hi369_3; have HC369_3 := am hl369_3; clear hi369_3 hl369_3; replace p369 := eq_true p369; replace q369 := eq_true q369
       go_wp2_with (first | (refine bx 5 #[.bool false, .int .i64 0, .slice none 0 0, .slice none 0 0] 54 HB.out ?_; intro gb370 hg w16 BK370 GE370 hb; replace HB := bs HB hb; clear hb hg; obtain ⟨hcz17_0, hcz17_1, hcz17_2, hcz17_3, hfz17_0, hfz17_1, hfz17_2, hfz17_3⟩ := blkC4 BK370.out))
       go_roundg k1
       case measure => have := HK1.out; omega
       case rel => exact ⟨(x3_1), (wrap64 (x9_1 + 1)), ar, ar, H', ⟨by have := HK1.out; omega⟩, ⟨cl0⟩⟩
     ·
      rw [if_neg c6] at H; exact absurd H (by simp)
    ·
     rw [if_neg c5] at H; exact absurd H (by simp)
   ·
    rw [if_neg c4] at H; have c4b0 : decide (x9_1 < (l0_0.length : Int)) = false := decide_eq_false c4; clear c4; obtain rfl := Option.some.inj H
    go_wp2
    go_ret
    exact ⟨er, by exact HB.out⟩
end Go.Proofs.Ytmeamdklonmahaa.QFederatedSafe
