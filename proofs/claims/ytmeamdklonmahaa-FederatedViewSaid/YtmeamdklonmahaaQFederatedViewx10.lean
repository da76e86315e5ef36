/- Lean functions that answer as the Go functions do which the law reaches, and proofs that the Go code comes to exactly these answers. Conditions: those that each theorem names. -/
import Derived.Test.YtmeamdklonmahaaQFederatedViewx0
import Derived.Test.YtmeamdklonmahaaQFederatedViewx7
import Derived.Test.YtmeamdklonmahaaQFederatedViewx9
namespace Go.Proofs.Ytmeamdklonmahaa.QFederatedView
open Go.RowKit Go.Proofs.YtmeamdklonmahaaW.PrintWords Go.Proofs.YtmeamdklonmahaaW.PrintLast Go.Proofs.YtmeamdklonmahaaW.PrintMore
attribute [local go_sem] max2_int min2_int max_two min_two max_three min_three max_four min_four   -- for this text's walks alone
set_option linter.unusedVariables false
set_option linter.unusedSimpArgs false

/-! ### claims_Plain: function 75 -/
mutual
def claims_Plain.l0 : Nat → List (S60) → List (S60) → Int → Int → Option (Bool)
  | 0, _, _, _, _ => none
  | k + 1, x0, x5, x6, x7 => if x7 < x6 then (if 0 ≤ x7 then (if x7 < (x5.length : Int) then ((claims_Valid.f ((rd_T60 x5 x7).f0) ((rd_T60 x5 x7).f1)).bind fun t398 => (if t398 = true then (if x7 > 0 then (if 0 ≤ (wrap64 (x7 - 1)) then (if (wrap64 (x7 - 1)) < (x0.length : Int) then ((claims_Compare.f k ((rd_T60 x0 (wrap64 (x7 - 1))).f0) ((rd_T60 x0 (wrap64 (x7 - 1))).f1) ((rd_T60 x5 x7).f0) ((rd_T60 x5 x7).f1)).bind fun t400 => (claims_Plain.j1 k x0 x5 x6 x7 (decide (t400 ≥ 0)))) else (none)) else (none)) else (claims_Plain.j1 k x0 x5 x6 x7 false)) else (claims_Plain.j1 k x0 x5 x6 x7 true))) else (none)) else (none)) else (some true)
def claims_Plain.j1 : Nat → List (S60) → List (S60) → Int → Int → Bool → Option (Bool)
  | 0, _, _, _, _, _ => none
  | k + 1, x0, x5, x6, x7, x28 => if x28 = true then (some false) else (claims_Plain.l0 k x0 x5 x6 (wrap64 (x7 + 1)))
end
def claims_Plain.f (k : Nat) (l0 : List (S60)) : Option (Bool) := claims_Plain.l0 k l0 l0 (l0.length : Int) 0
theorem claims_Plain.mono_l : ∀ k, (∀ y0 y1 y2 y3, LeO (claims_Plain.l0 k y0 y1 y2 y3) (claims_Plain.l0 (k + 1) y0 y1 y2 y3)) ∧ (∀ y0 y1 y2 y3 y4, LeO (claims_Plain.j1 k y0 y1 y2 y3 y4) (claims_Plain.j1 (k + 1) y0 y1 y2 y3 y4))
  | 0 => ⟨fun _ _ _ _ r h => by simp [claims_Plain.l0] at h, fun _ _ _ _ _ r h => by simp [claims_Plain.j1] at h⟩
  | k + 1 => by
    obtain ⟨ih0, ih1⟩ := claims_Plain.mono_l k
    refine ⟨?_, ?_⟩
    · intro y0 y1 y2 y3
      unfold claims_Plain.l0
      repeat' first
      | (with_reducible exact ih0 _ _ _ _)
      | (with_reducible exact ih1 _ _ _ _ _)
      | (with_reducible exact claims_Compare.mono _ _ _ _ _)
      | (with_reducible exact LeO.refl _)
      | (with_reducible exact LeO.none _)
      | (with_reducible refine LeO.ite ?_ ?_)
      | (with_reducible refine LeO.bind ?_ (fun _ => ?_))
      | exact ih0 _ _ _ _
      | exact ih1 _ _ _ _ _
      | exact claims_Compare.mono _ _ _ _ _
      | exact LeO.none _
      | refine LeO.ite ?_ ?_
      | refine LeO.bind ?_ (fun _ => ?_)
    · intro y0 y1 y2 y3 y4
      unfold claims_Plain.j1
      repeat' first
      | (with_reducible exact ih0 _ _ _ _)
      | (with_reducible exact ih1 _ _ _ _ _)
      | (with_reducible exact claims_Compare.mono _ _ _ _ _)
      | (with_reducible exact LeO.refl _)
      | (with_reducible exact LeO.none _)
      | (with_reducible refine LeO.ite ?_ ?_)
      | (with_reducible refine LeO.bind ?_ (fun _ => ?_))
      | exact ih0 _ _ _ _
      | exact ih1 _ _ _ _ _
      | exact claims_Compare.mono _ _ _ _ _
      | exact LeO.none _
      | refine LeO.ite ?_ ?_
      | refine LeO.bind ?_ (fun _ => ?_)
theorem claims_Plain.mono : ∀ a0 k, LeO (claims_Plain.f k a0) (claims_Plain.f (k + 1) a0) := by
  intro a0 k
  obtain ⟨ih0, ih1⟩ := claims_Plain.mono_l k
  unfold claims_Plain.f
  repeat' first
      | (with_reducible exact ih0 _ _ _ _)
      | (with_reducible exact ih1 _ _ _ _ _)
      | (with_reducible exact claims_Compare.mono _ _ _ _ _)
      | (with_reducible exact LeO.refl _)
      | (with_reducible exact LeO.none _)
      | (with_reducible refine LeO.ite ?_ ?_)
      | (with_reducible refine LeO.bind ?_ (fun _ => ?_))
      | exact ih0 _ _ _ _
      | exact ih1 _ _ _ _ _
      | exact claims_Compare.mono _ _ _ _ _
      | exact LeO.none _
      | refine LeO.ite ?_ ?_
      | refine LeO.bind ?_ (fun _ => ?_)
def claims_Plain.T4 : Bool × List (List Nat × List Nat) := (true, [([], []), ([0], [0]), ([1], [1]), ([2, 1], [2]), ([3], [3]), ([4, 3], [3, 4]), ([5, 3, 3], [3, 5]), ([6], [6]), ([6], [6]), ([8, 6], [6, 8]), ([7, 9, 6], [6, 7, 9]), ([10, 6], [6, 10]), ([6], [6]), ([11, 12, 6, 6], [6, 11, 12]), ([13, 6], [6, 13]), ([6, 14, 3], [3, 6, 14]), ([3, 15], [3, 15])])
def claims_Plain.B4 : List Nat := [0, 1, 3, 7, 15, 31, 63, 127, 127, 383, 1023, 2047, 127, 8191, 16383, 32767, 65535]
theorem claims_Plain.tab4 : rtab .any (opsOf Try.f75 4) = claims_Plain.T4 := by kernel_rfl
theorem claims_Plain.bits4 : waitsOk claims_Plain.T4.2 claims_Plain.B4 = true := by kernel_rfl
set_option maxHeartbeats 8000000 in
set_option maxRecDepth 100000 in
theorem claims_Plain.calls (k : Nat) (A0 : Option Addr) (c0 : Nat) (l0 : List (S60)) (r : Bool) (w : World) (hr0 : Kd.C k60 w A0 l0.length l0) (hc0 : l0.length ≤ c0) (h : claims_Plain.f k l0 = some r) :
    Calls Try.prog 75 #[.slice A0 l0.length c0] w fun e w' => e = .returned (.bool r) ∧ Below w.heap.size w w' := by
 have hu60 := Try.underlying60; have HR0 := Aside0.mk hr0; have HC0 := Aside0.mk hc0; clear hr0 hc0; have HB := Aside0.mk (Below.refl w.heap.size w); have H : (claims_Plain.l0 k l0 l0 (l0.length : Int) 0) = some r := h; clear h; have H' := Aside0.mk H; clear H
 go_enter Try.func75, Try.ntmps75
 go_wp2
 go_loopg [7] k (fun kq v7 w' => ∃ (x7_1 : Int), v7 = .int .i64 x7_1 ∧ Aside0 (claims_Plain.l0 kq l0 l0 (l0.length : Int) x7_1 = some r) ∧ Aside0 (kq ≤ k) ∧ Aside0 (Below w.heap.size w w'))
 case atStart => exact ⟨(0), (by first | rfl | (simp; done) | (simp [*]; done) | (refine congrArg (Value.int .i64) ?_; unfold wrap64; omega)), H', ⟨Nat.le_refl _⟩, ⟨by exact HB.out⟩⟩
 case round =>
  clear H'; obtain ⟨x7_1, rfl, HA, HK1, HB⟩ := hrel
  cases gk with
  | zero => exact absurd HA.out (by simp [claims_Plain.l0])
  | succ k1 =>
   have H := HA.out; clear HA; simp only [claims_Plain.l0] at H
   by_cases c2 : x7_1 < (l0.length : Int)
   ·
    rw [if_pos c2] at H; have c2b0 : decide (x7_1 < (l0.length : Int)) = true := decide_eq_true c2; clear c2
    by_cases c3 : 0 ≤ x7_1
    ·
     rw [if_pos c3] at H; have c3b0 : decide (0 ≤ x7_1) = true := decide_eq_true c3; clear c3
     by_cases c4 : x7_1 < (l0.length : Int)
     ·
      rw [if_pos c4] at H; have c4b0 : decide (x7_1 < (l0.length : Int)) = true := decide_eq_true c4; clear c4; have HC5 := Aside0.mk H; clear H; have p396 : 0 ≤ (x7_1 : Int) := of_decide_eq_true (by first | (with_reducible assumption) | assumption); have q396 : x7_1 < (l0.length : Int) := of_decide_eq_true (by first | (with_reducible assumption) | assumption); obtain ⟨ad396, e396, hx396_0, hx396_1⟩ := at_T60 HR0.out x7_1 p396 q396
      cases e396
      replace hx396_0 := (HB.out.cell (World.block_lt_of_cell? w _ hx396_0)).trans hx396_0; replace hx396_1 := (HB.out.cell (World.block_lt_of_cell? w _ hx396_1)).trans hx396_1; replace p396 := eq_true p396; replace q396 := eq_true q396
      go_upto_region 4 with (first | ((with_reducible refine gate_dst (N := 4) rfl ?_); refine box_event ?hg (N := 4) ?hd (cs := #[.int .i64 0, .int .i64 0]) (t := 60) ?hr ?_; (case hd => rfl); (case hg => rfl); (case hr => first | (go_simp; done) | (go_simp; rfl)); intro gb397 hg w6 hbox hb; have BK397 := Aside0.mk (hbox); have GW397 := Aside0.mk ((by rw [hg]; exact (below_size HB.out) : w.heap.size ≤ gb397)); have GE397 := Aside0.mk ((by rw [hg]; exact (below_size HB.out) : w.heap.size ≤ gb397)); replace HB := Aside0.mk (below_step HB.out hb); clear hb hbox hg; obtain ⟨hcz7_0, hcz7_1, hfz7_0, hfz7_1⟩ := blkC2 BK397.out))
      (try simp only [Act.put, List.setIfInBounds_toArray, List.set_cons_zero, List.set_cons_succ])
      go_cut [28] (fun v28 wc => ∃ (kq : Nat) (x28_4 : Bool), v28 = .bool x28_4 ∧ Aside0 (claims_Plain.j1 kq l0 l0 (l0.length : Int) x7_1 x28_4 = some r) ∧ Aside0 (kq ≤ k1) ∧ Aside0 (wc.heap[gb397]? = some (.cells #[.int .i64 ((rd_T60 l0 x7_1).f0), .int .i64 ((rd_T60 l0 x7_1).f1)] 60 (0, 0))) ∧ Aside0 (Below w.heap.size w wc))
      case first =>
       have H := HC5.out; clear HC5; replace H := Option.bind_eq_some_iff.mp H; obtain ⟨t398, A80, H⟩ := H; replace H : (if t398 = true then (if x7_1 > 0 then (if 0 ≤ (wrap64 (x7_1 - 1)) then (if (wrap64 (x7_1 - 1)) < (l0.length : Int) then ((claims_Compare.f k1 ((rd_T60 l0 (wrap64 (x7_1 - 1))).f0) ((rd_T60 l0 (wrap64 (x7_1 - 1))).f1) ((rd_T60 l0 x7_1).f0) ((rd_T60 l0 x7_1).f1)).bind fun t400 => (claims_Plain.j1 k1 l0 l0 (l0.length : Int) x7_1 (decide (t400 ≥ 0)))) else (none)) else (none)) else (claims_Plain.j1 k1 l0 l0 (l0.length : Int) x7_1 false)) else (claims_Plain.j1 k1 l0 l0 (l0.length : Int) x7_1 true)) = some r := H; have A8 := Aside0.mk A80; clear A80
       by_cases c9 : t398 = true
       ·
        subst c9; have H1 : (if x7_1 > 0 then (if 0 ≤ (wrap64 (x7_1 - 1)) then (if (wrap64 (x7_1 - 1)) < (l0.length : Int) then ((claims_Compare.f k1 ((rd_T60 l0 (wrap64 (x7_1 - 1))).f0) ((rd_T60 l0 (wrap64 (x7_1 - 1))).f1) ((rd_T60 l0 x7_1).f0) ((rd_T60 l0 x7_1).f1)).bind fun t400 => (claims_Plain.j1 k1 l0 l0 (l0.length : Int) x7_1 (decide (t400 ≥ 0)))) else (none)) else (none)) else (claims_Plain.j1 k1 l0 l0 (l0.length : Int) x7_1 false)) = some r := by rw [if_pos rfl] at H; exact H
        clear H; have H := H1; clear H1
        by_cases c10 : x7_1 > 0
        ·
         rw [if_pos c10] at H; have c10b0 : decide (0 < x7_1) = true := decide_eq_true c10; clear c10; (first | rw [c10b0] | (simp only [i64_w, i32_w]; rw [c10b0]) | skip); obtain ⟨ji11, hji11⟩ : ∃ j_ : Int, (wrap64 (x7_1 - 1)) = j_ := ⟨_, rfl⟩; replace H : (if 0 ≤ (ji11) then (if (ji11) < (l0.length : Int) then ((claims_Compare.f k1 ((rd_T60 l0 (ji11)).f0) ((rd_T60 l0 (ji11)).f1) ((rd_T60 l0 x7_1).f0) ((rd_T60 l0 x7_1).f1)).bind fun t400 => (claims_Plain.j1 k1 l0 l0 (l0.length : Int) x7_1 (decide (t400 ≥ 0)))) else (none)) else (none)) = some r := by first | (rw [hji11] at H; exact H) | (simp only [hji11] at H ⊢; exact H)
         (try rw [hji11] at A8); have hji11w : (IntKind.i64.wrap (x7_1 - 1)) = ji11 := (i64_w _).trans hji11
         by_cases c12 : 0 ≤ (ji11)
         ·
          rw [if_pos c12] at H; have c12b0 : decide (0 ≤ (ji11)) = true := decide_eq_true c12; clear c12
          by_cases c13 : (ji11) < (l0.length : Int)
          ·
           rw [if_pos c13] at H; have c13b0 : decide ((ji11) < (l0.length : Int)) = true := decide_eq_true c13; clear c13; replace H := Option.bind_eq_some_iff.mp H; obtain ⟨t400, A140, H⟩ := H; replace H : (claims_Plain.j1 k1 l0 l0 (l0.length : Int) x7_1 (decide (t400 ≥ 0))) = some r := H; have A14 := Aside0.mk A140; clear A140; have H' := Aside0.mk H; clear H
           try go_wp2
           have n0_ : Aside0 (((w6.setCell ⟨gb397, 0, none⟩ (.int .i64 ((rd_T60 l0 x7_1).f0))).setCell ⟨gb397, 1, none⟩ (.int .i64 ((rd_T60 l0 x7_1).f1))).heap[gb397]? = some (.cells #[.int .i64 ((rd_T60 l0 x7_1).f0), .int .i64 ((rd_T60 l0 x7_1).f1)] 60 (0, 0))) := ⟨by (with_reducible repeat (first | refine blk_drewN ?_ _ | refine blk_drew ?_ | refine blk_alloc ?_ _)); refine blk_put (cs := #[.int .i64 ((rd_T60 l0 x7_1).f0), .int .i64 0]) ?_ 1 _ rfl; (with_reducible repeat (first | refine blk_drewN ?_ _ | refine blk_drew ?_ | refine blk_alloc ?_ _)); refine blk_put (cs := #[.int .i64 0, .int .i64 0]) ?_ 0 _ rfl; (with_reducible repeat (first | refine blk_drewN ?_ _ | refine blk_drew ?_ | refine blk_alloc ?_ _)); exact BK397.out⟩
           have n1_ : Aside0 (Below w.heap.size w ((w6.setCell ⟨gb397, 0, none⟩ (.int .i64 ((rd_T60 l0 x7_1).f0))).setCell ⟨gb397, 1, none⟩ (.int .i64 ((rd_T60 l0 x7_1).f1)))) := ⟨by repeat (first | (with_reducible first | exact HB.out | apply below_alloc | apply pw_below_drewN | apply below_drew1 | refine below_set ?_ GE397.out) | exact HB.out)⟩; (try clear BK397); (try clear HB); generalize ((w6.setCell ⟨gb397, 0, none⟩ (.int .i64 ((rd_T60 l0 x7_1).f0))).setCell ⟨gb397, 1, none⟩ (.int .i64 ((rd_T60 l0 x7_1).f1))) = w15 at n0_ n1_ ⊢; have BK397 := n0_; have HB := n1_; clear n0_ n1_; replace BK397 := Aside0.mk (blk_drew BK397.out); replace HB := Aside0.mk (below_drew1 HB.out); have p399 : 0 ≤ ((ji11) : Int) := of_decide_eq_true (by first | (with_reducible assumption) | assumption); have q399 : (ji11) < (l0.length : Int) := of_decide_eq_true (by first | (with_reducible assumption) | assumption); obtain ⟨ad399, e399, hx399_0, hx399_1⟩ := at_T60 HR0.out (ji11) p399 q399; have hw399_1 := hx399_1; have hw399_0 := hx399_0; obtain rfl : ad396 = ad399 := (by injection e399); replace hx399_0 := (HB.out.cell (World.block_lt_of_cell? w _ hx399_0)).trans hx399_0; replace hx399_1 := (HB.out.cell (World.block_lt_of_cell? w _ hx399_1)).trans hx399_1; replace p399 := eq_true p399; replace q399 := eq_true q399; refine start_ (n := 17) (S := fun w' => w'.cell? ⟨gb397, 0, none⟩ = some (.int .i64 ((rd_T60 l0 x7_1).f0)) ∧ w'.cell? ⟨gb397, 1, none⟩ = some (.int .i64 ((rd_T60 l0 x7_1).f1)) ∧ w'.cell? (ad396.add (((ji11)).toNat * 2)) = some (.int .i64 ((rd_T60 l0 (ji11)).f0)) ∧ w'.cell? ⟨(ad396.add (((ji11)).toNat * 2)).block, (ad396.add (((ji11)).toNat * 2)).off + 1, none⟩ = some (.int .i64 ((rd_T60 l0 (ji11)).f1))) (ds := []) #[false, false, false, false, false, false, false, false, false, false, false, false, false, false, false, false, false] (by kernel_rfl) rfl rfl ⟨(blk_cell BK397.out 0).trans rfl, (blk_cell BK397.out 1).trans rfl, ((HB.out.cell (World.block_lt_of_cell? w _ hw399_0)).trans hw399_0), ((HB.out.cell (World.block_lt_of_cell? w _ hw399_1)).trans hw399_1)⟩ (fun hHeld => ?_); refine with_tabW claims_Plain.tab4 claims_Plain.bits4 (fun HT_ HW_ => ?_)
           generalize w15.drew = w16 at BK397 HB hx399_0 hx399_1 hHeld ⊢; refine take_ (i := 0) (N := some 12) (v := ?_) (a' := ?_) #[true, false, false, false, false, false, false, false, false, false, false, false, false, false, false, false, false] rfl rfl (take_ofW HT_.out HW_.out (by kernel_rfl)) (fun _ _ _ h => h) (Or.inl ⟨by rfl, ?_⟩) hHeld ?_ ?_; rotate_left
           ·
            rintro w' ⟨s0, s1, s2, s3⟩; go_simp
            with_reducible rfl
           rotate_left
           ·
            simp only [Act.put, List.setIfInBounds_toArray, List.set_cons_zero, List.set_cons_succ, i64_w, i32_w]; rfl
           refine one_ (i := 1) (N := some 13) #[true, true, false, false, false, false, false, false, false, false, false, false, false, false, false, false, false] rfl rfl (one_of HT_.out (by kernel_rfl)) (by decide) (fun K hK => ?_); refine goes_ Try.func103 (by kernel_rfl) rfl #[.agg #[.int .i64 ((rd_T60 l0 x7_1).f0), .int .i64 ((rd_T60 l0 x7_1).f1)]] (by rfl) rfl rfl (by (try simp only [List.map_toArray, List.map_cons, List.map_nil]); first | done | rfl | (simp only [List.length_drop, List.length_take]; rfl)) ?_
           with_reducible refine (claims_Valid.calls ((rd_T60 l0 x7_1).f0) ((rd_T60 l0 x7_1).f1) true _ A8.out).mono ?_
           rintro e w17 ⟨rfl, hb⟩; refine ⟨_, rfl, ?_⟩; replace BK397 := Aside0.mk (blk_below BK397.out hb); replace HB := Aside0.mk (below_step HB.out hb); (try clear hb); (try clear hb2); (try clear hk); (try clear hi); refine hK.out _ _ ⟨(blk_cell BK397.out 0).trans rfl, (blk_cell BK397.out 1).trans rfl, ((HB.out.cell (World.block_lt_of_cell? w _ hw399_0)).trans hw399_0), ((HB.out.cell (World.block_lt_of_cell? w _ hw399_1)).trans hw399_1)⟩ (fun hHeld => ?_); clear hK K; refine norm_ (a' := ?_) ?_ ?_; rotate_left
           ·
            show Act.put _ (some 13) _ = _
            simp only [Act.put, List.setIfInBounds_toArray, List.set_cons_zero, List.set_cons_succ, i64_w, i32_w]; rfl
           refine pure_ (i := 2) (N := some 14) (v := ?_) (a' := ?_) #[true, true, true, false, false, false, false, false, false, false, false, false, false, false, false, false, false] rfl rfl (any_of HT_.out (by kernel_rfl)) (fun _ _ _ h => h) (Or.inl ⟨by rfl, ?_⟩) ?_ ?_; rotate_left
           ·
            intro w'; go_simp
            with_reducible rfl
           rotate_left
           ·
            simp only [Act.put, List.setIfInBounds_toArray, List.set_cons_zero, List.set_cons_succ, i64_w, i32_w]; rfl
           refine pure_ (i := 3) (N := some 15) (v := ?_) (a' := ?_) #[true, true, true, true, false, false, false, false, false, false, false, false, false, false, false, false, false] rfl rfl (any_of HT_.out (by kernel_rfl)) (fun _ _ _ h => h) (Or.inl ⟨by rfl, ?_⟩) ?_ ?_; rotate_left
           ·
            intro w'; go_simp
            with_reducible rfl
           rotate_left
           ·
            simp only [Act.put, List.setIfInBounds_toArray, List.set_cons_zero, List.set_cons_succ, i64_w, i32_w]; rfl
           refine pure_ (i := 4) (N := some 16) (v := ?_) (a' := ?_) #[true, true, true, true, true, false, false, false, false, false, false, false, false, false, false, false, false] rfl rfl (any_of HT_.out (by kernel_rfl)) (fun _ _ _ h => h) (Or.inl ⟨by rfl, ?_⟩) ?_ ?_; rotate_left
           ·
            intro w'; go_simp
            with_reducible rfl
           rotate_left
           ·
            simp only [Act.put, List.setIfInBounds_toArray, List.set_cons_zero, List.set_cons_succ, i64_w, i32_w]; rfl
           refine pure_ (i := 5) (N := some 17) (v := ?_) (a' := ?_) #[true, true, true, true, true, true, false, false, false, false, false, false, false, false, false, false, false] rfl rfl (any_of HT_.out (by kernel_rfl)) (fun _ _ _ h => h) (Or.inl ⟨by rfl, ?_⟩) ?_ ?_; rotate_left
           ·
            intro w'; go_simp
            with_reducible rfl
           rotate_left
           ·
            simp only [Act.put, List.setIfInBounds_toArray, List.set_cons_zero, List.set_cons_succ, i64_w, i32_w]; rfl
           refine pure_ (i := 6) (N := some 18) (v := ?_) (a' := ?_) #[true, true, true, true, true, true, true, false, false, false, false, false, false, false, false, false, false] rfl rfl (any_of HT_.out (by kernel_rfl)) (fun _ _ _ h => h) (Or.inl ⟨by rfl, ?_⟩) ?_ ?_; rotate_left
           ·
            intro w'; go_simp
            with_reducible rfl
           rotate_left
           ·
            simp only [Act.put, List.setIfInBounds_toArray, List.set_cons_zero, List.set_cons_succ, i64_w, i32_w]; rfl
           refine pure_ (i := 7) (N := some 19) (v := ?_) (a' := ?_) #[true, true, true, true, true, true, true, true, false, false, false, false, false, false, false, false, false] rfl rfl (any_of HT_.out (by kernel_rfl)) (fun _ _ _ h => h) (Or.inl ⟨by rfl, ?_⟩) ?_ ?_; rotate_left
           ·
            intro w'; go_simp
            with_reducible rfl
           rotate_left
           ·
            simp only [Act.put, List.setIfInBounds_toArray, List.set_cons_zero, List.set_cons_succ, i64_w, i32_w]; rfl
           refine pure_ (i := 8) (N := some 20) (v := ?_) (a' := ?_) #[true, true, true, true, true, true, true, true, true, false, false, false, false, false, false, false, false] rfl rfl (any_of HT_.out (by kernel_rfl)) (fun _ _ _ h => h) (Or.inl ⟨by rfl, ?_⟩) ?_ ?_; rotate_left
           ·
            intro w'; go_simp
            with_reducible rfl
           rotate_left
           ·
            simp only [Act.put, List.setIfInBounds_toArray, List.set_cons_zero, List.set_cons_succ, i64_w, i32_w]; rfl
           refine pure_ (i := 9) (N := some 21) (v := ?_) (a' := ?_) #[true, true, true, true, true, true, true, true, true, true, false, false, false, false, false, false, false] rfl rfl (any_of HT_.out (by kernel_rfl)) (fun _ _ _ h => h) (Or.inl ⟨by rfl, ?_⟩) ?_ ?_; rotate_left
           ·
            intro w'; go_simp
            with_reducible rfl
           rotate_left
           ·
            simp only [Act.put, List.setIfInBounds_toArray, List.set_cons_zero, List.set_cons_succ, i64_w, i32_w]; rfl
           refine pure_ (i := 10) (N := some 22) (v := ?_) (a' := ?_) #[true, true, true, true, true, true, true, true, true, true, true, false, false, false, false, false, false] rfl rfl (any_of HT_.out (by kernel_rfl)) (fun _ _ _ h => h) (Or.inl ⟨by rfl, ?_⟩) ?_ ?_; rotate_left
           ·
            intro w'; go_simp
            with_reducible rfl
           rotate_left
           ·
            simp only [Act.put, List.setIfInBounds_toArray, List.set_cons_zero, List.set_cons_succ, i64_w, i32_w]; rfl
           refine take_ (i := 11) (N := some 23) (v := ?_) (a' := ?_) #[true, true, true, true, true, true, true, true, true, true, true, true, false, false, false, false, false] rfl rfl (take_ofW HT_.out HW_.out (by kernel_rfl)) (fun _ _ _ h => h) (Or.inl ⟨by rfl, ?_⟩) hHeld ?_ ?_; rotate_left
           ·
            rintro w' ⟨s0, s1, s2, s3⟩; go_simp
            with_reducible rfl
           rotate_left
           ·
            simp only [Act.put, List.setIfInBounds_toArray, List.set_cons_zero, List.set_cons_succ, i64_w, i32_w]; rfl
           refine take_ (i := 12) (N := some 24) (v := ?_) (a' := ?_) #[true, true, true, true, true, true, true, true, true, true, true, true, true, false, false, false, false] rfl rfl (take_ofW HT_.out HW_.out (by kernel_rfl)) (fun _ _ _ h => h) (Or.inl ⟨by rfl, ?_⟩) hHeld ?_ ?_; rotate_left
           ·
            rintro w' ⟨s0, s1, s2, s3⟩; go_simp
            with_reducible rfl
           rotate_left
           ·
            simp only [Act.put, List.setIfInBounds_toArray, List.set_cons_zero, List.set_cons_succ, i64_w, i32_w]; rfl
           refine one_ (i := 13) (N := some 25) #[true, true, true, true, true, true, true, true, true, true, true, true, true, true, false, false, false] rfl rfl (one_of HT_.out (by kernel_rfl)) (by decide) (fun K hK => ?_); refine goes_ Try.func104 (by kernel_rfl) rfl #[.agg #[.int .i64 ((rd_T60 l0 (ji11)).f0), .int .i64 ((rd_T60 l0 (ji11)).f1)], .agg #[.int .i64 ((rd_T60 l0 x7_1).f0), .int .i64 ((rd_T60 l0 x7_1).f1)]] (by rfl) rfl rfl (by (try simp only [List.map_toArray, List.map_cons, List.map_nil]); first | done | (simp only [hji11]; rfl) | rfl | (simp only [List.length_drop, List.length_take]; rfl)) ?_
           with_reducible refine (claims_Compare.calls k1 ((rd_T60 l0 (ji11)).f0) ((rd_T60 l0 (ji11)).f1) ((rd_T60 l0 x7_1).f0) ((rd_T60 l0 x7_1).f1) t400 _ A14.out).mono ?_
           rintro e w18 ⟨rfl, hb⟩; refine ⟨_, rfl, ?_⟩; replace BK397 := Aside0.mk (blk_below BK397.out hb); replace HB := Aside0.mk (below_step HB.out hb); (try clear hb); (try clear hb2); (try clear hk); (try clear hi); refine hK.out _ _ ⟨(blk_cell BK397.out 0).trans rfl, (blk_cell BK397.out 1).trans rfl, ((HB.out.cell (World.block_lt_of_cell? w _ hw399_0)).trans hw399_0), ((HB.out.cell (World.block_lt_of_cell? w _ hw399_1)).trans hw399_1)⟩ (fun hHeld => ?_); clear hK K; refine norm_ (a' := ?_) ?_ ?_; rotate_left
           ·
            show Act.put _ (some 25) _ = _
            simp only [Act.put, List.setIfInBounds_toArray, List.set_cons_zero, List.set_cons_succ, i64_w, i32_w]; rfl
           refine pure_ (i := 14) (N := some 26) (v := ?_) (a' := ?_) #[true, true, true, true, true, true, true, true, true, true, true, true, true, true, true, false, false] rfl rfl (any_of HT_.out (by kernel_rfl)) (fun _ _ _ h => h) (Or.inl ⟨by rfl, ?_⟩) ?_ ?_; rotate_left
           ·
            intro w'; go_simp
            with_reducible rfl
           rotate_left
           ·
            simp only [Act.put, List.setIfInBounds_toArray, List.set_cons_zero, List.set_cons_succ, i64_w, i32_w]; rfl
           refine pure_ (i := 15) (N := some 27) (v := ?_) (a' := ?_) #[true, true, true, true, true, true, true, true, true, true, true, true, true, true, true, true, false] rfl rfl (any_of HT_.out (by kernel_rfl)) (fun _ _ _ h => h) (Or.inl ⟨by rfl, ?_⟩) ?_ ?_; rotate_left
           ·
            intro w'; go_simp
            with_reducible rfl
           rotate_left
           ·
            simp only [Act.put, List.setIfInBounds_toArray, List.set_cons_zero, List.set_cons_succ, i64_w, i32_w]; rfl
           refine pure_ (i := 16) (N := some 28) (v := ?_) (a' := ?_) #[true, true, true, true, true, true, true, true, true, true, true, true, true, true, true, true, true] rfl rfl (any_of HT_.out (by kernel_rfl)) (fun _ _ _ h => h) (Or.inl ⟨by rfl, ?_⟩) ?_ ?_; rotate_left
           ·
            intro w'; go_simp
            with_reducible rfl
           rotate_left
           ·
            simp only [Act.put, List.setIfInBounds_toArray, List.set_cons_zero, List.set_cons_succ, i64_w, i32_w]; rfl
           refine done_ (done_of HT_.out (by kernel_rfl)) ?_
           try go_wp2
           go_meet
           case rel => exact ⟨_, (decide (t400 ≥ 0)), (by first | rfl | (simp; done) | (simp [*]; done) | (refine congrArg (Value.int .i64) ?_; unfold wrap64; omega)), H', ⟨by have := HK1.out; first | omega | exact Nat.le_refl _⟩, ⟨by exact BK397.out⟩, ⟨by exact HB.out⟩⟩
          ·
           rw [if_neg c13] at H; exact absurd H (by simp)
         ·
          rw [if_neg c12] at H; exact absurd H (by simp)
        ·
         rw [if_neg c10] at H; have c10b0 : decide (0 < x7_1) = false := decide_eq_false c10; clear c10; (first | rw [c10b0] | (simp only [i64_w, i32_w]; rw [c10b0]) | skip); have H' := Aside0.mk H; clear H
         try go_wp2
         have n0_ : Aside0 (((w6.setCell ⟨gb397, 0, none⟩ (.int .i64 ((rd_T60 l0 x7_1).f0))).setCell ⟨gb397, 1, none⟩ (.int .i64 ((rd_T60 l0 x7_1).f1))).heap[gb397]? = some (.cells #[.int .i64 ((rd_T60 l0 x7_1).f0), .int .i64 ((rd_T60 l0 x7_1).f1)] 60 (0, 0))) := ⟨by (with_reducible repeat (first | refine blk_drewN ?_ _ | refine blk_drew ?_ | refine blk_alloc ?_ _)); refine blk_put (cs := #[.int .i64 ((rd_T60 l0 x7_1).f0), .int .i64 0]) ?_ 1 _ rfl; (with_reducible repeat (first | refine blk_drewN ?_ _ | refine blk_drew ?_ | refine blk_alloc ?_ _)); refine blk_put (cs := #[.int .i64 0, .int .i64 0]) ?_ 0 _ rfl; (with_reducible repeat (first | refine blk_drewN ?_ _ | refine blk_drew ?_ | refine blk_alloc ?_ _)); exact BK397.out⟩
         have n1_ : Aside0 (Below w.heap.size w ((w6.setCell ⟨gb397, 0, none⟩ (.int .i64 ((rd_T60 l0 x7_1).f0))).setCell ⟨gb397, 1, none⟩ (.int .i64 ((rd_T60 l0 x7_1).f1)))) := ⟨by repeat (first | (with_reducible first | exact HB.out | apply below_alloc | apply pw_below_drewN | apply below_drew1 | refine below_set ?_ GE397.out) | exact HB.out)⟩; (try clear BK397); (try clear HB); generalize ((w6.setCell ⟨gb397, 0, none⟩ (.int .i64 ((rd_T60 l0 x7_1).f0))).setCell ⟨gb397, 1, none⟩ (.int .i64 ((rd_T60 l0 x7_1).f1))) = w19 at n0_ n1_ ⊢; have BK397 := n0_; have HB := n1_; clear n0_ n1_; replace BK397 := Aside0.mk (blk_drew BK397.out); replace HB := Aside0.mk (below_drew1 HB.out); refine start_ (n := 17) (S := fun w' => w'.cell? ⟨gb397, 0, none⟩ = some (.int .i64 ((rd_T60 l0 x7_1).f0)) ∧ w'.cell? ⟨gb397, 1, none⟩ = some (.int .i64 ((rd_T60 l0 x7_1).f1))) (ds := []) #[false, false, false, false, false, false, false, false, false, false, false, false, false, false, false, false, false] (by kernel_rfl) rfl rfl ⟨(blk_cell BK397.out 0).trans rfl, (blk_cell BK397.out 1).trans rfl⟩ (fun hHeld => ?_); refine with_tabW claims_Plain.tab4 claims_Plain.bits4 (fun HT_ HW_ => ?_); generalize w19.drew = w20 at BK397 HB hHeld ⊢; refine take_ (i := 0) (N := some 12) (v := ?_) (a' := ?_) #[true, false, false, false, false, false, false, false, false, false, false, false, false, false, false, false, false] rfl rfl (take_ofW HT_.out HW_.out (by kernel_rfl)) (fun _ _ _ h => h) (Or.inl ⟨by rfl, ?_⟩) hHeld ?_ ?_; rotate_left
         ·
          rintro w' ⟨s0, s1⟩; go_simp
          with_reducible rfl
         rotate_left
         ·
          simp only [Act.put, List.setIfInBounds_toArray, List.set_cons_zero, List.set_cons_succ, i64_w, i32_w]; rfl
         refine one_ (i := 1) (N := some 13) #[true, true, false, false, false, false, false, false, false, false, false, false, false, false, false, false, false] rfl rfl (one_of HT_.out (by kernel_rfl)) (by decide) (fun K hK => ?_); refine goes_ Try.func103 (by kernel_rfl) rfl #[.agg #[.int .i64 ((rd_T60 l0 x7_1).f0), .int .i64 ((rd_T60 l0 x7_1).f1)]] (by rfl) rfl rfl (by (try simp only [List.map_toArray, List.map_cons, List.map_nil]); first | done | rfl | (simp only [List.length_drop, List.length_take]; rfl)) ?_
         with_reducible refine (claims_Valid.calls ((rd_T60 l0 x7_1).f0) ((rd_T60 l0 x7_1).f1) true _ A8.out).mono ?_
         rintro e w21 ⟨rfl, hb⟩; refine ⟨_, rfl, ?_⟩; replace BK397 := Aside0.mk (blk_below BK397.out hb); replace HB := Aside0.mk (below_step HB.out hb); (try clear hb); (try clear hb2); (try clear hk); (try clear hi); refine hK.out _ _ ⟨(blk_cell BK397.out 0).trans rfl, (blk_cell BK397.out 1).trans rfl⟩ (fun hHeld => ?_); clear hK K; refine norm_ (a' := ?_) ?_ ?_; rotate_left
         ·
          show Act.put _ (some 13) _ = _
          simp only [Act.put, List.setIfInBounds_toArray, List.set_cons_zero, List.set_cons_succ, i64_w, i32_w]; rfl
         refine pure_ (i := 2) (N := some 14) (v := ?_) (a' := ?_) #[true, true, true, false, false, false, false, false, false, false, false, false, false, false, false, false, false] rfl rfl (any_of HT_.out (by kernel_rfl)) (fun _ _ _ h => h) (Or.inl ⟨by rfl, ?_⟩) ?_ ?_; rotate_left
         ·
          intro w'; go_simp
          with_reducible rfl
         rotate_left
         ·
          simp only [Act.put, List.setIfInBounds_toArray, List.set_cons_zero, List.set_cons_succ, i64_w, i32_w]; rfl
         refine pure_ (i := 3) (N := some 15) (v := ?_) (a' := ?_) #[true, true, true, true, false, false, false, false, false, false, false, false, false, false, false, false, false] rfl rfl (any_of HT_.out (by kernel_rfl)) (fun _ _ _ h => h) (Or.inl ⟨by rfl, ?_⟩) ?_ ?_; rotate_left
         ·
          intro w'; go_simp
          with_reducible rfl
         rotate_left
         ·
          simp only [Act.put, List.setIfInBounds_toArray, List.set_cons_zero, List.set_cons_succ, i64_w, i32_w]; rfl
         refine pure_ (i := 4) (N := some 16) (v := ?_) (a' := ?_) #[true, true, true, true, true, false, false, false, false, false, false, false, false, false, false, false, false] rfl rfl (any_of HT_.out (by kernel_rfl)) (fun _ _ _ h => h) (Or.inl ⟨by rfl, ?_⟩) ?_ ?_; rotate_left
         ·
          intro w'; go_simp
          with_reducible rfl
         rotate_left
         ·
          simp only [Act.put, List.setIfInBounds_toArray, List.set_cons_zero, List.set_cons_succ, i64_w, i32_w]; rfl
         refine pure_ (i := 5) (N := some 17) (v := ?_) (a' := ?_) #[true, true, true, true, true, true, false, false, false, false, false, false, false, false, false, false, false] rfl rfl (any_of HT_.out (by kernel_rfl)) (fun _ _ _ h => h) (Or.inl ⟨by rfl, ?_⟩) ?_ ?_; rotate_left
         ·
          intro w'; go_simp
          with_reducible rfl
         rotate_left
         ·
          simp only [Act.put, List.setIfInBounds_toArray, List.set_cons_zero, List.set_cons_succ, i64_w, i32_w]; rfl
         refine pure_ (i := 6) (N := some 18) (v := ?_) (a' := ?_) #[true, true, true, true, true, true, true, false, false, false, false, false, false, false, false, false, false] rfl rfl (any_of HT_.out (by kernel_rfl)) (fun _ _ _ h => h) (Or.inl ⟨by rfl, ?_⟩) ?_ ?_; rotate_left
         ·
          intro w'; go_simp
          with_reducible rfl
         rotate_left
         ·
          simp only [Act.put, List.setIfInBounds_toArray, List.set_cons_zero, List.set_cons_succ, i64_w, i32_w]; rfl
         refine pure_ (i := 7) (N := some 19) (v := undef) (a' := ?_) #[true, true, true, true, true, true, true, true, false, false, false, false, false, false, false, false, false] rfl rfl (any_of HT_.out (by kernel_rfl)) (fun _ _ _ h => h) (Or.inr ⟨by rfl, rfl⟩) ?_ ?_; rotate_left
         ·
          simp only [Act.put, List.setIfInBounds_toArray, List.set_cons_zero, List.set_cons_succ, i64_w, i32_w]; rfl
         refine pure_ (i := 8) (N := some 20) (v := undef) (a' := ?_) #[true, true, true, true, true, true, true, true, true, false, false, false, false, false, false, false, false] rfl rfl (any_of HT_.out (by kernel_rfl)) (fun _ _ _ h => h) (Or.inr ⟨by rfl, rfl⟩) ?_ ?_; rotate_left
         ·
          simp only [Act.put, List.setIfInBounds_toArray, List.set_cons_zero, List.set_cons_succ, i64_w, i32_w]; rfl
         refine pure_ (i := 9) (N := some 21) (v := undef) (a' := ?_) #[true, true, true, true, true, true, true, true, true, true, false, false, false, false, false, false, false] rfl rfl (any_of HT_.out (by kernel_rfl)) (fun _ _ _ h => h) (Or.inr ⟨by rfl, rfl⟩) ?_ ?_; rotate_left
         ·
          simp only [Act.put, List.setIfInBounds_toArray, List.set_cons_zero, List.set_cons_succ, i64_w, i32_w]; rfl
         refine pure_ (i := 10) (N := some 22) (v := undef) (a' := ?_) #[true, true, true, true, true, true, true, true, true, true, true, false, false, false, false, false, false] rfl rfl (any_of HT_.out (by kernel_rfl)) (fun _ _ _ h => h) (Or.inr ⟨by rfl, rfl⟩) ?_ ?_; rotate_left
         ·
          simp only [Act.put, List.setIfInBounds_toArray, List.set_cons_zero, List.set_cons_succ, i64_w, i32_w]; rfl
         refine pure_ (i := 11) (N := some 23) (v := undef) (a' := ?_) #[true, true, true, true, true, true, true, true, true, true, true, true, false, false, false, false, false] rfl rfl (any_of HT_.out (by kernel_rfl)) (fun _ _ _ h => h) (Or.inr ⟨by rfl, rfl⟩) ?_ ?_; rotate_left
         ·
          simp only [Act.put, List.setIfInBounds_toArray, List.set_cons_zero, List.set_cons_succ, i64_w, i32_w]; rfl
         refine pure_ (i := 12) (N := some 24) (v := undef) (a' := ?_) #[true, true, true, true, true, true, true, true, true, true, true, true, true, false, false, false, false] rfl rfl (any_of HT_.out (by kernel_rfl)) (fun _ _ _ h => h) (Or.inr ⟨by rfl, rfl⟩) ?_ ?_; rotate_left
         ·
          simp only [Act.put, List.setIfInBounds_toArray, List.set_cons_zero, List.set_cons_succ, i64_w, i32_w]; rfl
         refine pure_ (i := 13) (N := some 25) (v := undef) (a' := ?_) #[true, true, true, true, true, true, true, true, true, true, true, true, true, true, false, false, false] rfl rfl (any_of HT_.out (by kernel_rfl)) (fun _ _ _ h => h) (Or.inr ⟨by rfl, rfl⟩) ?_ ?_; rotate_left
         ·
          simp only [Act.put, List.setIfInBounds_toArray, List.set_cons_zero, List.set_cons_succ, i64_w, i32_w]; rfl
         refine pure_ (i := 14) (N := some 26) (v := undef) (a' := ?_) #[true, true, true, true, true, true, true, true, true, true, true, true, true, true, true, false, false] rfl rfl (any_of HT_.out (by kernel_rfl)) (fun _ _ _ h => h) (Or.inr ⟨by rfl, rfl⟩) ?_ ?_; rotate_left
         ·
          simp only [Act.put, List.setIfInBounds_toArray, List.set_cons_zero, List.set_cons_succ, i64_w, i32_w]; rfl
         refine pure_ (i := 15) (N := some 27) (v := ?_) (a' := ?_) #[true, true, true, true, true, true, true, true, true, true, true, true, true, true, true, true, false] rfl rfl (any_of HT_.out (by kernel_rfl)) (fun _ _ _ h => h) (Or.inl ⟨by rfl, ?_⟩) ?_ ?_; rotate_left
         ·
          intro w'; go_simp
          with_reducible rfl
         rotate_left
         ·
          simp only [Act.put, List.setIfInBounds_toArray, List.set_cons_zero, List.set_cons_succ, i64_w, i32_w]; rfl
         refine pure_ (i := 16) (N := some 28) (v := ?_) (a' := ?_) #[true, true, true, true, true, true, true, true, true, true, true, true, true, true, true, true, true] rfl rfl (any_of HT_.out (by kernel_rfl)) (fun _ _ _ h => h) (Or.inl ⟨by rfl, ?_⟩) ?_ ?_; rotate_left
         ·
          intro w'; go_simp
          with_reducible rfl
         rotate_left
         ·
          simp only [Act.put, List.setIfInBounds_toArray, List.set_cons_zero, List.set_cons_succ, i64_w, i32_w]; rfl
         refine done_ (done_of HT_.out (by kernel_rfl)) ?_
         try go_wp2
         go_meet
         case rel => exact ⟨_, (false), (by first | rfl | (simp; done) | (simp [*]; done) | (refine congrArg (Value.int .i64) ?_; unfold wrap64; omega)), H', ⟨by have := HK1.out; first | omega | exact Nat.le_refl _⟩, ⟨by exact BK397.out⟩, ⟨by exact HB.out⟩⟩
       ·
        replace c9 := Bool.eq_false_iff.mpr c9; subst c9; have H1 : (claims_Plain.j1 k1 l0 l0 (l0.length : Int) x7_1 true) = some r := by rw [if_neg (show ¬ (false = true) by decide)] at H; exact H
        clear H; have H := H1; clear H1; have H' := Aside0.mk H; clear H
        try go_wp2
        have n0_ : Aside0 (((w6.setCell ⟨gb397, 0, none⟩ (.int .i64 ((rd_T60 l0 x7_1).f0))).setCell ⟨gb397, 1, none⟩ (.int .i64 ((rd_T60 l0 x7_1).f1))).heap[gb397]? = some (.cells #[.int .i64 ((rd_T60 l0 x7_1).f0), .int .i64 ((rd_T60 l0 x7_1).f1)] 60 (0, 0))) := ⟨by (with_reducible repeat (first | refine blk_drewN ?_ _ | refine blk_drew ?_ | refine blk_alloc ?_ _)); refine blk_put (cs := #[.int .i64 ((rd_T60 l0 x7_1).f0), .int .i64 0]) ?_ 1 _ rfl; (with_reducible repeat (first | refine blk_drewN ?_ _ | refine blk_drew ?_ | refine blk_alloc ?_ _)); refine blk_put (cs := #[.int .i64 0, .int .i64 0]) ?_ 0 _ rfl; (with_reducible repeat (first | refine blk_drewN ?_ _ | refine blk_drew ?_ | refine blk_alloc ?_ _)); exact BK397.out⟩
        have n1_ : Aside0 (Below w.heap.size w ((w6.setCell ⟨gb397, 0, none⟩ (.int .i64 ((rd_T60 l0 x7_1).f0))).setCell ⟨gb397, 1, none⟩ (.int .i64 ((rd_T60 l0 x7_1).f1)))) := ⟨by repeat (first | (with_reducible first | exact HB.out | apply below_alloc | apply pw_below_drewN | apply below_drew1 | refine below_set ?_ GE397.out) | exact HB.out)⟩; (try clear BK397); (try clear HB); generalize ((w6.setCell ⟨gb397, 0, none⟩ (.int .i64 ((rd_T60 l0 x7_1).f0))).setCell ⟨gb397, 1, none⟩ (.int .i64 ((rd_T60 l0 x7_1).f1))) = w22 at n0_ n1_ ⊢; have BK397 := n0_; have HB := n1_; clear n0_ n1_; replace BK397 := Aside0.mk (blk_drew BK397.out); replace HB := Aside0.mk (below_drew1 HB.out); refine start_ (n := 17) (S := fun w' => w'.cell? ⟨gb397, 0, none⟩ = some (.int .i64 ((rd_T60 l0 x7_1).f0)) ∧ w'.cell? ⟨gb397, 1, none⟩ = some (.int .i64 ((rd_T60 l0 x7_1).f1))) (ds := []) #[false, false, false, false, false, false, false, false, false, false, false, false, false, false, false, false, false] (by kernel_rfl) rfl rfl ⟨(blk_cell BK397.out 0).trans rfl, (blk_cell BK397.out 1).trans rfl⟩ (fun hHeld => ?_); refine with_tabW claims_Plain.tab4 claims_Plain.bits4 (fun HT_ HW_ => ?_); generalize w22.drew = w23 at BK397 HB hHeld ⊢; refine take_ (i := 0) (N := some 12) (v := ?_) (a' := ?_) #[true, false, false, false, false, false, false, false, false, false, false, false, false, false, false, false, false] rfl rfl (take_ofW HT_.out HW_.out (by kernel_rfl)) (fun _ _ _ h => h) (Or.inl ⟨by rfl, ?_⟩) hHeld ?_ ?_; rotate_left
        ·
         rintro w' ⟨s0, s1⟩; go_simp
         with_reducible rfl
        rotate_left
        ·
         simp only [Act.put, List.setIfInBounds_toArray, List.set_cons_zero, List.set_cons_succ, i64_w, i32_w]; rfl
        refine one_ (i := 1) (N := some 13) #[true, true, false, false, false, false, false, false, false, false, false, false, false, false, false, false, false] rfl rfl (one_of HT_.out (by kernel_rfl)) (by decide) (fun K hK => ?_); refine goes_ Try.func103 (by kernel_rfl) rfl #[.agg #[.int .i64 ((rd_T60 l0 x7_1).f0), .int .i64 ((rd_T60 l0 x7_1).f1)]] (by rfl) rfl rfl (by (try simp only [List.map_toArray, List.map_cons, List.map_nil]); first | done | rfl | (simp only [List.length_drop, List.length_take]; rfl)) ?_
        with_reducible refine (claims_Valid.calls ((rd_T60 l0 x7_1).f0) ((rd_T60 l0 x7_1).f1) false _ A8.out).mono ?_
        rintro e w24 ⟨rfl, hb⟩; refine ⟨_, rfl, ?_⟩; replace BK397 := Aside0.mk (blk_below BK397.out hb); replace HB := Aside0.mk (below_step HB.out hb); (try clear hb); (try clear hb2); (try clear hk); (try clear hi); refine hK.out _ _ ⟨(blk_cell BK397.out 0).trans rfl, (blk_cell BK397.out 1).trans rfl⟩ (fun hHeld => ?_); clear hK K; refine norm_ (a' := ?_) ?_ ?_; rotate_left
        ·
         show Act.put _ (some 13) _ = _
         simp only [Act.put, List.setIfInBounds_toArray, List.set_cons_zero, List.set_cons_succ, i64_w, i32_w]; rfl
        refine pure_ (i := 2) (N := some 14) (v := ?_) (a' := ?_) #[true, true, true, false, false, false, false, false, false, false, false, false, false, false, false, false, false] rfl rfl (any_of HT_.out (by kernel_rfl)) (fun _ _ _ h => h) (Or.inl ⟨by rfl, ?_⟩) ?_ ?_; rotate_left
        ·
         intro w'; go_simp
         with_reducible rfl
        rotate_left
        ·
         simp only [Act.put, List.setIfInBounds_toArray, List.set_cons_zero, List.set_cons_succ, i64_w, i32_w]; rfl
        refine pure_ (i := 3) (N := some 15) (v := ?_) (a' := ?_) #[true, true, true, true, false, false, false, false, false, false, false, false, false, false, false, false, false] rfl rfl (any_of HT_.out (by kernel_rfl)) (fun _ _ _ h => h) (Or.inl ⟨by rfl, ?_⟩) ?_ ?_; rotate_left
        ·
         intro w'; go_simp
         with_reducible rfl
        rotate_left
        ·
         simp only [Act.put, List.setIfInBounds_toArray, List.set_cons_zero, List.set_cons_succ, i64_w, i32_w]; rfl
        refine pure_ (i := 4) (N := some 16) (v := undef) (a' := ?_) #[true, true, true, true, true, false, false, false, false, false, false, false, false, false, false, false, false] rfl rfl (any_of HT_.out (by kernel_rfl)) (fun _ _ _ h => h) (Or.inr ⟨by rfl, rfl⟩) ?_ ?_; rotate_left
        ·
         simp only [Act.put, List.setIfInBounds_toArray, List.set_cons_zero, List.set_cons_succ, i64_w, i32_w]; rfl
        refine pure_ (i := 5) (N := some 17) (v := undef) (a' := ?_) #[true, true, true, true, true, true, false, false, false, false, false, false, false, false, false, false, false] rfl rfl (any_of HT_.out (by kernel_rfl)) (fun _ _ _ h => h) (Or.inr ⟨by rfl, rfl⟩) ?_ ?_; rotate_left
        ·
         simp only [Act.put, List.setIfInBounds_toArray, List.set_cons_zero, List.set_cons_succ, i64_w, i32_w]; rfl
        refine pure_ (i := 6) (N := some 18) (v := undef) (a' := ?_) #[true, true, true, true, true, true, true, false, false, false, false, false, false, false, false, false, false] rfl rfl (any_of HT_.out (by kernel_rfl)) (fun _ _ _ h => h) (Or.inr ⟨by rfl, rfl⟩) ?_ ?_; rotate_left
        ·
         simp only [Act.put, List.setIfInBounds_toArray, List.set_cons_zero, List.set_cons_succ, i64_w, i32_w]; rfl
        refine pure_ (i := 7) (N := some 19) (v := undef) (a' := ?_) #[true, true, true, true, true, true, true, true, false, false, false, false, false, false, false, false, false] rfl rfl (any_of HT_.out (by kernel_rfl)) (fun _ _ _ h => h) (Or.inr ⟨by rfl, rfl⟩) ?_ ?_; rotate_left
        ·
         simp only [Act.put, List.setIfInBounds_toArray, List.set_cons_zero, List.set_cons_succ, i64_w, i32_w]; rfl
        refine pure_ (i := 8) (N := some 20) (v := undef) (a' := ?_) #[true, true, true, true, true, true, true, true, true, false, false, false, false, false, false, false, false] rfl rfl (any_of HT_.out (by kernel_rfl)) (fun _ _ _ h => h) (Or.inr ⟨by rfl, rfl⟩) ?_ ?_; rotate_left
        ·
         simp only [Act.put, List.setIfInBounds_toArray, List.set_cons_zero, List.set_cons_succ, i64_w, i32_w]; rfl
        refine pure_ (i := 9) (N := some 21) (v := undef) (a' := ?_) #[true, true, true, true, true, true, true, true, true, true, false, false, false, false, false, false, false] rfl rfl (any_of HT_.out (by kernel_rfl)) (fun _ _ _ h => h) (Or.inr ⟨by rfl, rfl⟩) ?_ ?_; rotate_left
        ·
         simp only [Act.put, List.setIfInBounds_toArray, List.set_cons_zero, List.set_cons_succ, i64_w, i32_w]; rfl
        refine pure_ (i := 10) (N := some 22) (v := undef) (a' := ?_) #[true, true, true, true, true, true, true, true, true, true, true, false, false, false, false, false, false] rfl rfl (any_of HT_.out (by kernel_rfl)) (fun _ _ _ h => h) (Or.inr ⟨by rfl, rfl⟩) ?_ ?_; rotate_left
        ·
         simp only [Act.put, List.setIfInBounds_toArray, List.set_cons_zero, List.set_cons_succ, i64_w, i32_w]; rfl
        refine pure_ (i := 11) (N := some 23) (v := undef) (a' := ?_) #[true, true, true, true, true, true, true, true, true, true, true, true, false, false, false, false, false] rfl rfl (any_of HT_.out (by kernel_rfl)) (fun _ _ _ h => h) (Or.inr ⟨by rfl, rfl⟩) ?_ ?_; rotate_left
        ·
         simp only [Act.put, List.setIfInBounds_toArray, List.set_cons_zero, List.set_cons_succ, i64_w, i32_w]; rfl
        refine pure_ (i := 12) (N := some 24) (v := undef) (a' := ?_) #[true, true, true, true, true, true, true, true, true, true, true, true, true, false, false, false, false] rfl rfl (any_of HT_.out (by kernel_rfl)) (fun _ _ _ h => h) (Or.inr ⟨by rfl, rfl⟩) ?_ ?_; rotate_left
        ·
         simp only [Act.put, List.setIfInBounds_toArray, List.set_cons_zero, List.set_cons_succ, i64_w, i32_w]; rfl
        refine pure_ (i := 13) (N := some 25) (v := undef) (a' := ?_) #[true, true, true, true, true, true, true, true, true, true, true, true, true, true, false, false, false] rfl rfl (any_of HT_.out (by kernel_rfl)) (fun _ _ _ h => h) (Or.inr ⟨by rfl, rfl⟩) ?_ ?_; rotate_left
        ·
         simp only [Act.put, List.setIfInBounds_toArray, List.set_cons_zero, List.set_cons_succ, i64_w, i32_w]; rfl
        refine pure_ (i := 14) (N := some 26) (v := undef) (a' := ?_) #[true, true, true, true, true, true, true, true, true, true, true, true, true, true, true, false, false] rfl rfl (any_of HT_.out (by kernel_rfl)) (fun _ _ _ h => h) (Or.inr ⟨by rfl, rfl⟩) ?_ ?_; rotate_left
        ·
         simp only [Act.put, List.setIfInBounds_toArray, List.set_cons_zero, List.set_cons_succ, i64_w, i32_w]; rfl
        refine pure_ (i := 15) (N := some 27) (v := undef) (a' := ?_) #[true, true, true, true, true, true, true, true, true, true, true, true, true, true, true, true, false] rfl rfl (any_of HT_.out (by kernel_rfl)) (fun _ _ _ h => h) (Or.inr ⟨by rfl, rfl⟩) ?_ ?_; rotate_left
        ·
         simp only [Act.put, List.setIfInBounds_toArray, List.set_cons_zero, List.set_cons_succ, i64_w, i32_w]; rfl
        refine pure_ (i := 16) (N := some 28) (v := ?_) (a' := ?_) #[true, true, true, true, true, true, true, true, true, true, true, true, true, true, true, true, true] rfl rfl (any_of HT_.out (by kernel_rfl)) (fun _ _ _ h => h) (Or.inl ⟨by rfl, ?_⟩) ?_ ?_; rotate_left
        ·
         intro w'; go_simp
         with_reducible rfl
        rotate_left
        ·
         simp only [Act.put, List.setIfInBounds_toArray, List.set_cons_zero, List.set_cons_succ, i64_w, i32_w]; rfl
        refine done_ (done_of HT_.out (by kernel_rfl)) ?_
        try go_wp2
        go_meet
        case rel => exact ⟨_, (true), (by first | rfl | (simp; done) | (simp [*]; done) | (refine congrArg (Value.int .i64) ?_; unfold wrap64; omega)), H', ⟨by have := HK1.out; first | omega | exact Nat.le_refl _⟩, ⟨by exact BK397.out⟩, ⟨by exact HB.out⟩⟩
      case rest =>
       clear HC5; (try clear c1); (try clear c2); (try clear c2b0); (try clear p2); (try clear c3); (try clear c3b0); (try clear p3); (try clear q3); (try clear hx3); (try clear c4); (try clear c4b0); (try clear p6); (try clear c7); (try clear c9); (try clear c10); (try clear c10b0); (try clear c12); (try clear c12b0); (try clear c13); (try clear c13b0); (try clear hcz7_0); (try clear hcz7_1); (try clear hfz7_0); (try clear hfz7_1); (try clear hx396_0); (try clear hx396_1); (try clear hx399_0); (try clear hx399_1); (try clear p396); (try clear p399); (try clear q396); (try clear q399); obtain ⟨kq, x28_4, rfl, HA, HJ4, BK397, HB⟩ := hcut
       cases kq with
       | zero => exact absurd HA.out (by simp [claims_Plain.j1])
       | succ kj4 =>
        have H := HA.out; clear HA; simp only [claims_Plain.j1] at H
        by_cases c25 : x28_4 = true
        ·
         subst c25; have H1 : (some false) = some r := by rw [if_pos rfl] at H; exact H
         clear H; have H := H1; clear H1; obtain rfl := Option.some.inj H
         go_wp2
         go_ret
         exact ⟨by first | rfl | (simp [errW_none, errW_some] <;> rfl) | (simp [*, errW_none, errW_some] <;> rfl), by exact HB.out⟩
        ·
         replace c25 := Bool.eq_false_iff.mpr c25; subst c25; have H1 : (claims_Plain.l0 kj4 l0 l0 (l0.length : Int) (wrap64 (x7_1 + 1))) = some r := by rw [if_neg (show ¬ (false = true) by decide)] at H; exact H
         clear H; have H := H1; clear H1; have H' := Aside0.mk H; clear H
         go_wp2
         go_roundg kj4
         case measure => have := HK1.out; have := HJ4.out; omega
         case rel => exact ⟨(wrap64 (x7_1 + 1)), (by first | rfl | (simp; done) | (simp [*]; done) | (refine congrArg (Value.int .i64) ?_; unfold wrap64; omega)), H', ⟨by have := HK1.out; have := HJ4.out; omega⟩, ⟨by exact HB.out⟩⟩
     ·
      rw [if_neg c4] at H; exact absurd H (by simp)
    ·
     rw [if_neg c3] at H; exact absurd H (by simp)
   ·
    rw [if_neg c2] at H; have c2b0 : decide (x7_1 < (l0.length : Int)) = false := decide_eq_false c2; clear c2; obtain rfl := Option.some.inj H
    go_wp2
    go_ret
    exact ⟨by first | rfl | (simp [errW_none, errW_some] <;> rfl) | (simp [*, errW_none, errW_some] <;> rfl), by exact HB.out⟩
/-! ### federated_Plain: function 34 -/
def federated_Plain.f (k : Nat) (a0_0 : Int) (a0_1 : Int) (a0_2 : Int) (l0_3 : List Int) (l0_4 : List (S48)) (l0_5 : List (S60)) (l0_6 : List (S60)) : Option (Bool) := (federated_node.f a0_0).bind fun t402 => (if t402 = true then (if a0_1 ≥ 1 then ((threshold_Valid.f k a0_2 l0_3 l0_4).bind fun t403 => (if t403 = 0 then ((claims_Plain.f k l0_5).bind fun t404 => (if t404 = true then ((claims_Plain.f k l0_6).bind fun t405 => (some t405)) else (some false))) else (some false))) else (some false)) else (some false))
theorem federated_Plain.mono : ∀ a0 a1 a2 a3 a4 a5 a6 k, LeO (federated_Plain.f k a0 a1 a2 a3 a4 a5 a6) (federated_Plain.f (k + 1) a0 a1 a2 a3 a4 a5 a6) := by
  intro a0 a1 a2 a3 a4 a5 a6 k
  unfold federated_Plain.f
  repeat' first
      | (with_reducible exact claims_Plain.mono _ _)
      | (with_reducible exact threshold_Valid.mono _ _ _ _)
      | (with_reducible exact LeO.refl _)
      | (with_reducible exact LeO.none _)
      | (with_reducible refine LeO.ite ?_ ?_)
      | (with_reducible refine LeO.bind ?_ (fun _ => ?_))
      | exact claims_Plain.mono _ _
      | exact threshold_Valid.mono _ _ _ _
      | exact LeO.none _
      | refine LeO.ite ?_ ?_
      | refine LeO.bind ?_ (fun _ => ?_)
set_option maxHeartbeats 8000000 in
set_option maxRecDepth 100000 in
theorem federated_Plain.calls (k : Nat) (a0_0 : Int) (a0_1 : Int) (a0_2 : Int) (A0_3 : Option Addr) (c0_3 : Nat) (l0_3 : List Int) (A0_4 : Option Addr) (c0_4 : Nat) (l0_4 : List (S48)) (A0_5 : Option Addr) (c0_5 : Nat) (l0_5 : List (S60)) (A0_6 : Option Addr) (c0_6 : Nat) (l0_6 : List (S60)) (r : Bool) (w : World) (hr0_3 : Kd.C (Kd.int .i64) w A0_3 l0_3.length l0_3) (hc0_3 : l0_3.length ≤ c0_3) (hr0_4 : Kd.C k48 w A0_4 l0_4.length l0_4) (hc0_4 : l0_4.length ≤ c0_4) (hr0_5 : Kd.C k60 w A0_5 l0_5.length l0_5) (hc0_5 : l0_5.length ≤ c0_5) (hr0_6 : Kd.C k60 w A0_6 l0_6.length l0_6) (hc0_6 : l0_6.length ≤ c0_6) (h : federated_Plain.f k a0_0 a0_1 a0_2 l0_3 l0_4 l0_5 l0_6 = some r) :
    Calls Try.prog 34 #[.agg #[.int .i64 a0_0, .int .i64 a0_1, .int .i64 a0_2, .slice A0_3 l0_3.length c0_3, .slice A0_4 l0_4.length c0_4, .slice A0_5 l0_5.length c0_5, .slice A0_6 l0_6.length c0_6]] w fun e w' => e = .returned (.bool r) ∧ Below w.heap.size w w' := by
 have hu58 := Try.underlying58; have hu48 := Try.underlying48; have HR0_3 := Aside0.mk hr0_3; have HC0_3 := Aside0.mk hc0_3; clear hr0_3 hc0_3; have HR0_4 := Aside0.mk hr0_4; have HC0_4 := Aside0.mk hc0_4; clear hr0_4 hc0_4; have HR0_5 := Aside0.mk hr0_5; have HC0_5 := Aside0.mk hc0_5; clear hr0_5 hc0_5; have HR0_6 := Aside0.mk hr0_6; have HC0_6 := Aside0.mk hc0_6; clear hr0_6 hc0_6; have HB := Aside0.mk (Below.refl w.heap.size w); have H : ((federated_node.f a0_0).bind fun t402 => (if t402 = true then (if a0_1 ≥ 1 then ((threshold_Valid.f k a0_2 l0_3 l0_4).bind fun t403 => (if t403 = 0 then ((claims_Plain.f k l0_5).bind fun t404 => (if t404 = true then ((claims_Plain.f k l0_6).bind fun t405 => (some t405)) else (some false))) else (some false))) else (some false)) else (some false))) = some r := h; clear h; replace H := Option.bind_eq_some_iff.mp H; obtain ⟨t402, A20, H⟩ := H; replace H : (if t402 = true then (if a0_1 ≥ 1 then ((threshold_Valid.f k a0_2 l0_3 l0_4).bind fun t403 => (if t403 = 0 then ((claims_Plain.f k l0_5).bind fun t404 => (if t404 = true then ((claims_Plain.f k l0_6).bind fun t405 => (some t405)) else (some false))) else (some false))) else (some false)) else (some false)) = some r := H; have A2 := Aside0.mk A20; clear A20
 by_cases c3 : t402 = true
 ·
  subst c3; have H1 : (if a0_1 ≥ 1 then ((threshold_Valid.f k a0_2 l0_3 l0_4).bind fun t403 => (if t403 = 0 then ((claims_Plain.f k l0_5).bind fun t404 => (if t404 = true then ((claims_Plain.f k l0_6).bind fun t405 => (some t405)) else (some false))) else (some false))) else (some false)) = some r := by rw [if_pos rfl] at H; exact H
  clear H; have H := H1; clear H1
  by_cases c4 : a0_1 ≥ 1
  ·
   rw [if_pos c4] at H; have c4b0 : decide (1 ≤ a0_1) = true := decide_eq_true c4; clear c4; replace H := Option.bind_eq_some_iff.mp H; obtain ⟨t403, A50, H⟩ := H; replace H : (if t403 = 0 then ((claims_Plain.f k l0_5).bind fun t404 => (if t404 = true then ((claims_Plain.f k l0_6).bind fun t405 => (some t405)) else (some false))) else (some false)) = some r := H; have A5 := Aside0.mk A50; clear A50
   by_cases c6 : t403 = 0
   ·
    rw [if_pos c6] at H; have c6b0 : (t403 == 0) = true := beq_iff_eq.mpr c6; have c6b1 : (t403 != 0) = false := bne_eq_false_iff_eq.mpr c6; clear c6; replace H := Option.bind_eq_some_iff.mp H; obtain ⟨t404, A70, H⟩ := H; replace H : (if t404 = true then ((claims_Plain.f k l0_6).bind fun t405 => (some t405)) else (some false)) = some r := H; have A7 := Aside0.mk A70; clear A70
    by_cases c8 : t404 = true
    ·
     subst c8; have H1 : ((claims_Plain.f k l0_6).bind fun t405 => (some t405)) = some r := by rw [if_pos rfl] at H; exact H
     clear H; have H := H1; clear H1; replace H := Option.bind_eq_some_iff.mp H; obtain ⟨t405, A90, H⟩ := H; replace H : (some t405) = some r := H; have A9 := Aside0.mk A90; clear A90; obtain rfl := Option.some.inj H
     go_enter Try.func34, Try.ntmps34
     go_wp2_with (first | ((with_reducible refine gate_dst (N := 1) rfl ?_); refine box_event ?hg (N := 1) ?hd (cs := #[.int .i64 a0_0, .int .i64 a0_1, .int .i64 a0_2, .slice A0_3 l0_3.length c0_3, .slice A0_4 l0_4.length c0_4, .slice A0_5 l0_5.length c0_5, .slice A0_6 l0_6.length c0_6]) (t := 58) ?hr ?_; (case hd => rfl); (case hg => rfl); (case hr => first | (go_simp; done) | (go_simp; rfl)); intro gb401 hg w10 hbox hb; have BK401 := Aside0.mk (hbox); have GW401 := Aside0.mk ((by rw [hg]; exact (below_size HB.out) : w.heap.size ≤ gb401)); have GE401 := Aside0.mk ((by rw [hg]; exact (below_size HB.out) : w.heap.size ≤ gb401)); replace HB := Aside0.mk (below_step HB.out hb); clear hb hbox hg; obtain ⟨hcz11_0, hcz11_1, hcz11_2, hcz11_3, hcz11_4, hcz11_5, hcz11_6, hfz11_0, hfz11_1, hfz11_2, hfz11_3, hfz11_4, hfz11_5, hfz11_6⟩ := blkC7 BK401.out) | ((with_reducible refine gate_callee (f := 65) rfl ?_); refine goesL_ (some 5) rfl rfl Try.func65 (by kernel_rfl) rfl #[.int .i64 a0_0] rfl (by (try simp only [List.map_toArray, List.map_cons, List.map_nil]); first | done | rfl | (simp only [List.length_drop, List.length_take]; rfl)) ?_; (with_reducible refine (federated_node.calls a0_0 true _ A2.out).mono ?_); rintro e w' ⟨rfl, ⟨nd, rfl⟩⟩; refine ⟨_, rfl, ?_⟩) | (go_at_call 66; (with_reducible refine (threshold_Valid.calls k a0_2 _ _ l0_3 _ _ l0_4 t403 _ ?side1 ?side2 ?side3 ?side4 A5.out).mono ?_); (case side1 => repeat (first | exact (Kd.C_below HR0_3.out (by repeat (first | (with_reducible first | exact HB.out | apply below_alloc | apply pw_below_drewN | apply below_drew1 | refine below_set ?_ GE401.out) | exact HB.out))) | (with_reducible refine Kd.C_alloc ?_ _) | (with_reducible refine Kd.C_drewN ?_ _) | (with_reducible refine Kd.C_drew ?_))); (case side2 => exact HC0_3.out); (case side3 => repeat (first | exact (Kd.C_below HR0_4.out (by repeat (first | (with_reducible first | exact HB.out | apply below_alloc | apply pw_below_drewN | apply below_drew1 | refine below_set ?_ GE401.out) | exact HB.out))) | (with_reducible refine Kd.C_alloc ?_ _) | (with_reducible refine Kd.C_drewN ?_ _) | (with_reducible refine Kd.C_drew ?_))); (case side4 => exact HC0_4.out); rintro e w12 ⟨rfl, hb⟩; replace BK401 := Aside0.mk (blk_below (g := gb401) (o := .cells #[.int .i64 a0_0, .int .i64 a0_1, .int .i64 a0_2, .slice A0_3 l0_3.length c0_3, .slice A0_4 l0_4.length c0_4, .slice A0_5 l0_5.length c0_5, .slice A0_6 l0_6.length c0_6] 58 (0, 0)) (by (with_reducible repeat (first | refine blk_drewN ?_ _ | refine blk_drew ?_ | refine blk_alloc ?_ _)); exact BK401.out) hb); replace HB := Aside0.mk (below_step (by repeat (first | (with_reducible first | exact HB.out | apply below_alloc | apply pw_below_drewN | apply below_drew1 | refine below_set ?_ GE401.out) | exact HB.out)) hb); (try clear hb); (try clear hb2); (try clear hk); (try clear hi); obtain ⟨hcz13_0, hcz13_1, hcz13_2, hcz13_3, hcz13_4, hcz13_5, hcz13_6, hfz13_0, hfz13_1, hfz13_2, hfz13_3, hfz13_4, hfz13_5, hfz13_6⟩ := blkC7 BK401.out) | (go_at_call 75; (with_reducible refine (claims_Plain.calls k _ _ l0_5 true _ ?side1 ?side2 A7.out).mono ?_); (case side1 => exact (Kd.C_below HR0_5.out HB.out)); (case side2 => exact HC0_5.out); rintro e w14 ⟨rfl, hb⟩; replace BK401 := Aside0.mk (blk_below BK401.out hb); replace HB := Aside0.mk (below_step HB.out hb); (try clear hb); (try clear hb2); (try clear hk); (try clear hi); obtain ⟨hcz15_0, hcz15_1, hcz15_2, hcz15_3, hcz15_4, hcz15_5, hcz15_6, hfz15_0, hfz15_1, hfz15_2, hfz15_3, hfz15_4, hfz15_5, hfz15_6⟩ := blkC7 BK401.out) | (go_at_call 75; (with_reducible refine (claims_Plain.calls k _ _ l0_6 t405 _ ?side1 ?side2 A9.out).mono ?_); (case side1 => exact (Kd.C_below HR0_6.out HB.out)); (case side2 => exact HC0_6.out); rintro e w16 ⟨rfl, hb⟩; replace BK401 := Aside0.mk (blk_below BK401.out hb); replace HB := Aside0.mk (below_step HB.out hb); (try clear hb); (try clear hb2); (try clear hk); (try clear hi)))
     go_ret
     exact ⟨by first | rfl | (simp [errW_none, errW_some] <;> rfl) | (simp [*, errW_none, errW_some] <;> rfl), by exact HB.out⟩
    ·
     replace c8 := Bool.eq_false_iff.mpr c8; subst c8; have H1 : (some false) = some r := by rw [if_neg (show ¬ (false = true) by decide)] at H; exact H
     clear H; have H := H1; clear H1; obtain rfl := Option.some.inj H
     go_enter Try.func34, Try.ntmps34
     go_wp2_with (first | ((with_reducible refine gate_dst (N := 1) rfl ?_); refine box_event ?hg (N := 1) ?hd (cs := #[.int .i64 a0_0, .int .i64 a0_1, .int .i64 a0_2, .slice A0_3 l0_3.length c0_3, .slice A0_4 l0_4.length c0_4, .slice A0_5 l0_5.length c0_5, .slice A0_6 l0_6.length c0_6]) (t := 58) ?hr ?_; (case hd => rfl); (case hg => rfl); (case hr => first | (go_simp; done) | (go_simp; rfl)); intro gb401 hg w17 hbox hb; have BK401 := Aside0.mk (hbox); have GW401 := Aside0.mk ((by rw [hg]; exact (below_size HB.out) : w.heap.size ≤ gb401)); have GE401 := Aside0.mk ((by rw [hg]; exact (below_size HB.out) : w.heap.size ≤ gb401)); replace HB := Aside0.mk (below_step HB.out hb); clear hb hbox hg; obtain ⟨hcz18_0, hcz18_1, hcz18_2, hcz18_3, hcz18_4, hcz18_5, hcz18_6, hfz18_0, hfz18_1, hfz18_2, hfz18_3, hfz18_4, hfz18_5, hfz18_6⟩ := blkC7 BK401.out) | ((with_reducible refine gate_callee (f := 65) rfl ?_); refine goesL_ (some 5) rfl rfl Try.func65 (by kernel_rfl) rfl #[.int .i64 a0_0] rfl (by (try simp only [List.map_toArray, List.map_cons, List.map_nil]); first | done | rfl | (simp only [List.length_drop, List.length_take]; rfl)) ?_; (with_reducible refine (federated_node.calls a0_0 true _ A2.out).mono ?_); rintro e w' ⟨rfl, ⟨nd, rfl⟩⟩; refine ⟨_, rfl, ?_⟩) | (go_at_call 66; (with_reducible refine (threshold_Valid.calls k a0_2 _ _ l0_3 _ _ l0_4 t403 _ ?side1 ?side2 ?side3 ?side4 A5.out).mono ?_); (case side1 => repeat (first | exact (Kd.C_below HR0_3.out (by repeat (first | (with_reducible first | exact HB.out | apply below_alloc | apply pw_below_drewN | apply below_drew1 | refine below_set ?_ GE401.out) | exact HB.out))) | (with_reducible refine Kd.C_alloc ?_ _) | (with_reducible refine Kd.C_drewN ?_ _) | (with_reducible refine Kd.C_drew ?_))); (case side2 => exact HC0_3.out); (case side3 => repeat (first | exact (Kd.C_below HR0_4.out (by repeat (first | (with_reducible first | exact HB.out | apply below_alloc | apply pw_below_drewN | apply below_drew1 | refine below_set ?_ GE401.out) | exact HB.out))) | (with_reducible refine Kd.C_alloc ?_ _) | (with_reducible refine Kd.C_drewN ?_ _) | (with_reducible refine Kd.C_drew ?_))); (case side4 => exact HC0_4.out); rintro e w19 ⟨rfl, hb⟩; replace BK401 := Aside0.mk (blk_below (g := gb401) (o := .cells #[.int .i64 a0_0, .int .i64 a0_1, .int .i64 a0_2, .slice A0_3 l0_3.length c0_3, .slice A0_4 l0_4.length c0_4, .slice A0_5 l0_5.length c0_5, .slice A0_6 l0_6.length c0_6] 58 (0, 0)) (by (with_reducible repeat (first | refine blk_drewN ?_ _ | refine blk_drew ?_ | refine blk_alloc ?_ _)); exact BK401.out) hb); replace HB := Aside0.mk (below_step (by repeat (first | (with_reducible first | exact HB.out | apply below_alloc | apply pw_below_drewN | apply below_drew1 | refine below_set ?_ GE401.out) | exact HB.out)) hb); (try clear hb); (try clear hb2); (try clear hk); (try clear hi); obtain ⟨hcz20_0, hcz20_1, hcz20_2, hcz20_3, hcz20_4, hcz20_5, hcz20_6, hfz20_0, hfz20_1, hfz20_2, hfz20_3, hfz20_4, hfz20_5, hfz20_6⟩ := blkC7 BK401.out) | (go_at_call 75; (with_reducible refine (claims_Plain.calls k _ _ l0_5 false _ ?side1 ?side2 A7.out).mono ?_); (case side1 => exact (Kd.C_below HR0_5.out HB.out)); (case side2 => exact HC0_5.out); rintro e w21 ⟨rfl, hb⟩; replace BK401 := Aside0.mk (blk_below BK401.out hb); replace HB := Aside0.mk (below_step HB.out hb); (try clear hb); (try clear hb2); (try clear hk); (try clear hi)))
     go_ret
     exact ⟨by first | rfl | (simp [errW_none, errW_some] <;> rfl) | (simp [*, errW_none, errW_some] <;> rfl), by exact HB.out⟩
   ·
    rw [if_neg c6] at H; have c6b0 : (t403 == 0) = false := beq_eq_false_iff_ne.mpr c6; have c6b1 : (t403 != 0) = true := bne_iff_ne.mpr c6; obtain rfl := Option.some.inj H
    go_enter Try.func34, Try.ntmps34
    go_wp2_with (first | ((with_reducible refine gate_dst (N := 1) rfl ?_); refine box_event ?hg (N := 1) ?hd (cs := #[.int .i64 a0_0, .int .i64 a0_1, .int .i64 a0_2, .slice A0_3 l0_3.length c0_3, .slice A0_4 l0_4.length c0_4, .slice A0_5 l0_5.length c0_5, .slice A0_6 l0_6.length c0_6]) (t := 58) ?hr ?_; (case hd => rfl); (case hg => rfl); (case hr => first | (go_simp; done) | (go_simp; rfl)); intro gb401 hg w22 hbox hb; have BK401 := Aside0.mk (hbox); have GW401 := Aside0.mk ((by rw [hg]; exact (below_size HB.out) : w.heap.size ≤ gb401)); have GE401 := Aside0.mk ((by rw [hg]; exact (below_size HB.out) : w.heap.size ≤ gb401)); replace HB := Aside0.mk (below_step HB.out hb); clear hb hbox hg; obtain ⟨hcz23_0, hcz23_1, hcz23_2, hcz23_3, hcz23_4, hcz23_5, hcz23_6, hfz23_0, hfz23_1, hfz23_2, hfz23_3, hfz23_4, hfz23_5, hfz23_6⟩ := blkC7 BK401.out) | ((with_reducible refine gate_callee (f := 65) rfl ?_); refine goesL_ (some 5) rfl rfl Try.func65 (by kernel_rfl) rfl #[.int .i64 a0_0] rfl (by (try simp only [List.map_toArray, List.map_cons, List.map_nil]); first | done | rfl | (simp only [List.length_drop, List.length_take]; rfl)) ?_; (with_reducible refine (federated_node.calls a0_0 true _ A2.out).mono ?_); rintro e w' ⟨rfl, ⟨nd, rfl⟩⟩; refine ⟨_, rfl, ?_⟩) | (go_at_call 66; (with_reducible refine (threshold_Valid.calls k a0_2 _ _ l0_3 _ _ l0_4 t403 _ ?side1 ?side2 ?side3 ?side4 A5.out).mono ?_); (case side1 => repeat (first | exact (Kd.C_below HR0_3.out (by repeat (first | (with_reducible first | exact HB.out | apply below_alloc | apply pw_below_drewN | apply below_drew1 | refine below_set ?_ GE401.out) | exact HB.out))) | (with_reducible refine Kd.C_alloc ?_ _) | (with_reducible refine Kd.C_drewN ?_ _) | (with_reducible refine Kd.C_drew ?_))); (case side2 => exact HC0_3.out); (case side3 => repeat (first | exact (Kd.C_below HR0_4.out (by repeat (first | (with_reducible first | exact HB.out | apply below_alloc | apply pw_below_drewN | apply below_drew1 | refine below_set ?_ GE401.out) | exact HB.out))) | (with_reducible refine Kd.C_alloc ?_ _) | (with_reducible refine Kd.C_drewN ?_ _) | (with_reducible refine Kd.C_drew ?_))); (case side4 => exact HC0_4.out); rintro e w24 ⟨rfl, hb⟩; replace BK401 := Aside0.mk (blk_below (g := gb401) (o := .cells #[.int .i64 a0_0, .int .i64 a0_1, .int .i64 a0_2, .slice A0_3 l0_3.length c0_3, .slice A0_4 l0_4.length c0_4, .slice A0_5 l0_5.length c0_5, .slice A0_6 l0_6.length c0_6] 58 (0, 0)) (by (with_reducible repeat (first | refine blk_drewN ?_ _ | refine blk_drew ?_ | refine blk_alloc ?_ _)); exact BK401.out) hb); replace HB := Aside0.mk (below_step (by repeat (first | (with_reducible first | exact HB.out | apply below_alloc | apply pw_below_drewN | apply below_drew1 | refine below_set ?_ GE401.out) | exact HB.out)) hb); (try clear hb); (try clear hb2); (try clear hk); (try clear hi)))
    go_ret
    exact ⟨by first | rfl | (simp [errW_none, errW_some] <;> rfl) | (simp [*, errW_none, errW_some] <;> rfl), by exact HB.out⟩
  ·
   rw [if_neg c4] at H; have c4b0 : decide (1 ≤ a0_1) = false := decide_eq_false c4; clear c4; obtain rfl := Option.some.inj H
   go_enter Try.func34, Try.ntmps34
   go_wp2_with (first | ((with_reducible refine gate_dst (N := 1) rfl ?_); refine box_event ?hg (N := 1) ?hd (cs := #[.int .i64 a0_0, .int .i64 a0_1, .int .i64 a0_2, .slice A0_3 l0_3.length c0_3, .slice A0_4 l0_4.length c0_4, .slice A0_5 l0_5.length c0_5, .slice A0_6 l0_6.length c0_6]) (t := 58) ?hr ?_; (case hd => rfl); (case hg => rfl); (case hr => first | (go_simp; done) | (go_simp; rfl)); intro gb401 hg w25 hbox hb; have BK401 := Aside0.mk (hbox); have GW401 := Aside0.mk ((by rw [hg]; exact (below_size HB.out) : w.heap.size ≤ gb401)); have GE401 := Aside0.mk ((by rw [hg]; exact (below_size HB.out) : w.heap.size ≤ gb401)); replace HB := Aside0.mk (below_step HB.out hb); clear hb hbox hg; obtain ⟨hcz26_0, hcz26_1, hcz26_2, hcz26_3, hcz26_4, hcz26_5, hcz26_6, hfz26_0, hfz26_1, hfz26_2, hfz26_3, hfz26_4, hfz26_5, hfz26_6⟩ := blkC7 BK401.out) | ((with_reducible refine gate_callee (f := 65) rfl ?_); refine goesL_ (some 5) rfl rfl Try.func65 (by kernel_rfl) rfl #[.int .i64 a0_0] rfl (by (try simp only [List.map_toArray, List.map_cons, List.map_nil]); first | done | rfl | (simp only [List.length_drop, List.length_take]; rfl)) ?_; (with_reducible refine (federated_node.calls a0_0 true _ A2.out).mono ?_); rintro e w' ⟨rfl, ⟨nd, rfl⟩⟩; refine ⟨_, rfl, ?_⟩))
   go_ret
   exact ⟨by first | rfl | (simp [errW_none, errW_some] <;> rfl) | (simp [*, errW_none, errW_some] <;> rfl), by repeat (first | (with_reducible first | exact HB.out | apply below_alloc | apply pw_below_drewN | apply below_drew1 | refine below_set ?_ GE401.out) | exact HB.out)⟩
 ·
  replace c3 := Bool.eq_false_iff.mpr c3; subst c3; have H1 : (some false) = some r := by rw [if_neg (show ¬ (false = true) by decide)] at H; exact H
  clear H; have H := H1; clear H1; obtain rfl := Option.some.inj H
  go_enter Try.func34, Try.ntmps34
  go_wp2_with (first | ((with_reducible refine gate_dst (N := 1) rfl ?_); refine box_event ?hg (N := 1) ?hd (cs := #[.int .i64 a0_0, .int .i64 a0_1, .int .i64 a0_2, .slice A0_3 l0_3.length c0_3, .slice A0_4 l0_4.length c0_4, .slice A0_5 l0_5.length c0_5, .slice A0_6 l0_6.length c0_6]) (t := 58) ?hr ?_; (case hd => rfl); (case hg => rfl); (case hr => first | (go_simp; done) | (go_simp; rfl)); intro gb401 hg w27 hbox hb; have BK401 := Aside0.mk (hbox); have GW401 := Aside0.mk ((by rw [hg]; exact (below_size HB.out) : w.heap.size ≤ gb401)); have GE401 := Aside0.mk ((by rw [hg]; exact (below_size HB.out) : w.heap.size ≤ gb401)); replace HB := Aside0.mk (below_step HB.out hb); clear hb hbox hg; obtain ⟨hcz28_0, hcz28_1, hcz28_2, hcz28_3, hcz28_4, hcz28_5, hcz28_6, hfz28_0, hfz28_1, hfz28_2, hfz28_3, hfz28_4, hfz28_5, hfz28_6⟩ := blkC7 BK401.out) | ((with_reducible refine gate_callee (f := 65) rfl ?_); refine goesL_ (some 5) rfl rfl Try.func65 (by kernel_rfl) rfl #[.int .i64 a0_0] rfl (by (try simp only [List.map_toArray, List.map_cons, List.map_nil]); first | done | rfl | (simp only [List.length_drop, List.length_take]; rfl)) ?_; (with_reducible refine (federated_node.calls a0_0 false _ A2.out).mono ?_); rintro e w' ⟨rfl, ⟨nd, rfl⟩⟩; refine ⟨_, rfl, ?_⟩))
  go_ret
  exact ⟨by first | rfl | (simp [errW_none, errW_some] <;> rfl) | (simp [*, errW_none, errW_some] <;> rfl), by repeat (first | (with_reducible first | exact HB.out | apply below_alloc | apply pw_below_drewN | apply below_drew1 | refine below_set ?_ GE401.out) | exact HB.out)⟩
end Go.Proofs.Ytmeamdklonmahaa.QFederatedView
