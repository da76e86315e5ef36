/- Lean functions that answer as the Go functions do which the law reaches, and proofs that the Go code comes to exactly these answers. Conditions: those that each theorem names. -/
import Derived.Test.YteljoemeogeidaaQThresholdGrowsx0
import Derived.Test.YteljoemeogeidaaQThresholdGrowsx1
import Derived.Test.YteljoemeogeidaaQThresholdGrowsx2
import Derived.Test.YteljoemeogeidaaQThresholdGrowsx4
import Derived.Test.YteljoemeogeidaaQThresholdGrowsx5
import Derived.Test.YteljoemeogeidaaQThresholdGrowsx7
namespace Go.Proofs.Yteljoemeogeidaa.QThresholdGrows
open Go.RowKit Go.Proofs.YteljoemeogeidaaW.PrintWords Go.Proofs.YteljoemeogeidaaW.PrintLast Go.Proofs.YteljoemeogeidaaW.PrintMore
attribute [local go_sem] max2_int min2_int max_two min_two max_three min_three max_four min_four   -- for this text's walks alone
set_option linter.unusedVariables false
set_option linter.unusedSimpArgs false

/-! ### trustquorumlaw02_ThresholdGrows: function 4 -/
mutual
def trustquorumlaw02_ThresholdGrows.l0 : Nat → Int → Int → List Int → Int → Int → List Int → List (S27) → Option (Bool)
  | 0, _, _, _, _, _, _, _ => none
  | k + 1, x5, x6, x259000, x259001, x270000, x270001, x270002 => if x6 < 6 then ((trustquorummake_Tape_N.f x259000 x259001 1024).bind fun bt272 => ((trustquorummake_Tape_N.f x259000 bt272.2 1024).bind fun bt274 => ((threshold_Satisfied.f k x270000 x270001 x270002 bt272.1).bind fun t276 => (if t276 = true then ((threshold_Satisfied.f k x270000 x270001 x270002 (Go.bits .or .i64 bt272.1 bt274.1)).bind fun t277 => (if t277 = true then ((threshold_Blocked.f k x270000 x270001 x270002 bt272.1).bind fun t278 => (if t278 = true then ((threshold_Blocked.f k x270000 x270001 x270002 (Go.bits .or .i64 bt272.1 bt274.1)).bind fun t279 => (trustquorumlaw02_ThresholdGrows.j1 k x5 x6 bt272.1 (!t279) x259000 bt274.2 x270000 x270001 x270002)) else (trustquorumlaw02_ThresholdGrows.j1 k x5 x6 bt272.1 false x259000 bt274.2 x270000 x270001 x270002))) else (trustquorumlaw02_ThresholdGrows.j1 k x5 x6 bt272.1 true x259000 bt274.2 x270000 x270001 x270002))) else ((threshold_Blocked.f k x270000 x270001 x270002 bt272.1).bind fun t280 => (if t280 = true then ((threshold_Blocked.f k x270000 x270001 x270002 (Go.bits .or .i64 bt272.1 bt274.1)).bind fun t281 => (trustquorumlaw02_ThresholdGrows.j1 k x5 x6 bt272.1 (!t281) x259000 bt274.2 x270000 x270001 x270002)) else (trustquorumlaw02_ThresholdGrows.j1 k x5 x6 bt272.1 false x259000 bt274.2 x270000 x270001 x270002))))))) else ((trustquorumlaw02_awake.f k).bind fun t271 => (some t271))
def trustquorumlaw02_ThresholdGrows.j1 : Nat → Int → Int → Int → Bool → List Int → Int → Int → List Int → List (S27) → Option (Bool)
  | 0, _, _, _, _, _, _, _, _, _ => none
  | k + 1, x5, x6, x7, x46, x259000, x259001, x270000, x270001, x270002 => if x46 = true then (some false) else ((threshold_Satisfied.f k x270000 x270001 x270002 x7).bind fun t282 => ((threshold_Satisfied.f k x270000 x270001 x270002 (Go.bits .and .i64 x7 x5)).bind fun t283 => (if (t282 != t283) = true then (some false) else ((threshold_Blocked.f k x270000 x270001 x270002 x7).bind fun t284 => ((threshold_Blocked.f k x270000 x270001 x270002 (Go.bits .and .i64 x7 x5)).bind fun t285 => (if (t284 != t285) = true then (some false) else (trustquorumlaw02_ThresholdGrows.l0 k x5 (wrap64 (x6 + 1)) x259000 x259001 x270000 x270001 x270002)))))))
end
def trustquorumlaw02_ThresholdGrows.f (k : Nat) (l0 : List Int) : Option (Bool) := (trustquorummake_New.f l0).bind fun bt256 => ((trustquorummake_Tape_Range.f bt256.1 bt256.2 1 10).bind fun bt259 => ((trustquorummake_Trust.f k bt256.1 bt259.2 bt259.1 4).bind fun bt261 => ((threshold_Uses.f k bt261.1 bt261.2.1 bt261.2.2.1).bind fun t270 => (trustquorumlaw02_ThresholdGrows.l0 k t270 0 bt256.1 bt261.2.2.2 bt261.1 bt261.2.1 bt261.2.2.1))))
theorem trustquorumlaw02_ThresholdGrows.mono_l : ∀ k, (∀ y0 y1 y2 y3 y4 y5 y6, LeO (trustquorumlaw02_ThresholdGrows.l0 k y0 y1 y2 y3 y4 y5 y6) (trustquorumlaw02_ThresholdGrows.l0 (k + 1) y0 y1 y2 y3 y4 y5 y6)) ∧ (∀ y0 y1 y2 y3 y4 y5 y6 y7 y8, LeO (trustquorumlaw02_ThresholdGrows.j1 k y0 y1 y2 y3 y4 y5 y6 y7 y8) (trustquorumlaw02_ThresholdGrows.j1 (k + 1) y0 y1 y2 y3 y4 y5 y6 y7 y8))
  | 0 => ⟨fun _ _ _ _ _ _ _ r h => by simp [trustquorumlaw02_ThresholdGrows.l0] at h, fun _ _ _ _ _ _ _ _ _ r h => by simp [trustquorumlaw02_ThresholdGrows.j1] at h⟩
  | k + 1 => by
    obtain ⟨ih0, ih1⟩ := trustquorumlaw02_ThresholdGrows.mono_l k
    refine ⟨?_, ?_⟩
    · intro y0 y1 y2 y3 y4 y5 y6
      unfold trustquorumlaw02_ThresholdGrows.l0
      repeat' first
      | (with_reducible exact ih0 _ _ _ _ _ _ _)
      | (with_reducible exact ih1 _ _ _ _ _ _ _ _ _)
      | (with_reducible exact threshold_Blocked.mono _ _ _ _ _)
      | (with_reducible exact threshold_Satisfied.mono _ _ _ _ _)
      | (with_reducible exact threshold_Uses.mono _ _ _ _)
      | (with_reducible exact trustquorumlaw02_awake.mono _)
      | (with_reducible exact trustquorummake_Trust.mono _ _ _ _ _)
      | (with_reducible exact LeO.refl _)
      | (with_reducible exact LeO.none _)
      | (with_reducible refine LeO.ite ?_ ?_)
      | (with_reducible refine LeO.bind ?_ (fun _ => ?_))
      | exact ih0 _ _ _ _ _ _ _
      | exact ih1 _ _ _ _ _ _ _ _ _
      | exact threshold_Blocked.mono _ _ _ _ _
      | exact threshold_Satisfied.mono _ _ _ _ _
      | exact threshold_Uses.mono _ _ _ _
      | exact trustquorumlaw02_awake.mono _
      | exact trustquorummake_Trust.mono _ _ _ _ _
      | exact LeO.none _
      | refine LeO.ite ?_ ?_
      | refine LeO.bind ?_ (fun _ => ?_)
    · intro y0 y1 y2 y3 y4 y5 y6 y7 y8
      unfold trustquorumlaw02_ThresholdGrows.j1
      repeat' first
      | (with_reducible exact ih0 _ _ _ _ _ _ _)
      | (with_reducible exact ih1 _ _ _ _ _ _ _ _ _)
      | (with_reducible exact threshold_Blocked.mono _ _ _ _ _)
      | (with_reducible exact threshold_Satisfied.mono _ _ _ _ _)
      | (with_reducible exact threshold_Uses.mono _ _ _ _)
      | (with_reducible exact trustquorumlaw02_awake.mono _)
      | (with_reducible exact trustquorummake_Trust.mono _ _ _ _ _)
      | (with_reducible exact LeO.refl _)
      | (with_reducible exact LeO.none _)
      | (with_reducible refine LeO.ite ?_ ?_)
      | (with_reducible refine LeO.bind ?_ (fun _ => ?_))
      | exact ih0 _ _ _ _ _ _ _
      | exact ih1 _ _ _ _ _ _ _ _ _
      | exact threshold_Blocked.mono _ _ _ _ _
      | exact threshold_Satisfied.mono _ _ _ _ _
      | exact threshold_Uses.mono _ _ _ _
      | exact trustquorumlaw02_awake.mono _
      | exact trustquorummake_Trust.mono _ _ _ _ _
      | exact LeO.none _
      | refine LeO.ite ?_ ?_
      | refine LeO.bind ?_ (fun _ => ?_)
theorem trustquorumlaw02_ThresholdGrows.mono : ∀ a0 k, LeO (trustquorumlaw02_ThresholdGrows.f k a0) (trustquorumlaw02_ThresholdGrows.f (k + 1) a0) := by
  intro a0 k
  obtain ⟨ih0, ih1⟩ := trustquorumlaw02_ThresholdGrows.mono_l k
  unfold trustquorumlaw02_ThresholdGrows.f
  repeat' first
      | (with_reducible exact ih0 _ _ _ _ _ _ _)
      | (with_reducible exact ih1 _ _ _ _ _ _ _ _ _)
      | (with_reducible exact threshold_Blocked.mono _ _ _ _ _)
      | (with_reducible exact threshold_Satisfied.mono _ _ _ _ _)
      | (with_reducible exact threshold_Uses.mono _ _ _ _)
      | (with_reducible exact trustquorumlaw02_awake.mono _)
      | (with_reducible exact trustquorummake_Trust.mono _ _ _ _ _)
      | (with_reducible exact LeO.refl _)
      | (with_reducible exact LeO.none _)
      | (with_reducible refine LeO.ite ?_ ?_)
      | (with_reducible refine LeO.bind ?_ (fun _ => ?_))
      | exact ih0 _ _ _ _ _ _ _
      | exact ih1 _ _ _ _ _ _ _ _ _
      | exact threshold_Blocked.mono _ _ _ _ _
      | exact threshold_Satisfied.mono _ _ _ _ _
      | exact threshold_Uses.mono _ _ _ _
      | exact trustquorumlaw02_awake.mono _
      | exact trustquorummake_Trust.mono _ _ _ _ _
      | exact LeO.none _
      | refine LeO.ite ?_ ?_
      | refine LeO.bind ?_ (fun _ => ?_)
def trustquorumlaw02_ThresholdGrows.T11 : Bool × List (List Nat × List Nat) := (true, [([], []), ([], []), ([0, 1], [0, 1]), ([], []), ([], []), ([], []), ([4, 5], [4, 5]), ([3, 6, 2], [3, 6]), ([2, 7], [2, 7]), ([8, 7], [8]), ([9], [9]), ([9], [9]), ([10, 11, 9, 9], [9, 10, 11]), ([9], [9]), ([9], [9]), ([9], [9]), ([14, 15, 9], [9, 14, 15]), ([13, 16, 12, 9], [9, 13, 16]), ([12, 17, 9], [9, 12, 17]), ([9, 18], [9, 18])])
def trustquorumlaw02_ThresholdGrows.B11 : List Nat := [0, 0, 3, 0, 0, 0, 48, 127, 255, 511, 1023, 1023, 4095, 1023, 1023, 1023, 50175, 131071, 262143, 524287]
theorem trustquorumlaw02_ThresholdGrows.tab11 : rtab .any (opsOf Try.f4 11) = trustquorumlaw02_ThresholdGrows.T11 := by kernel_rfl
theorem trustquorumlaw02_ThresholdGrows.bits11 : waitsOk trustquorumlaw02_ThresholdGrows.T11.2 trustquorumlaw02_ThresholdGrows.B11 = true := by kernel_rfl
set_option maxHeartbeats 8000000 in
set_option maxRecDepth 100000 in
theorem trustquorumlaw02_ThresholdGrows.calls (k : Nat) (A0 : Option Addr) (c0 : Nat) (l0 : List Int) (r : Bool) (w : World) (hr0 : Kd.C (Kd.int .i64) w A0 l0.length l0) (hc0 : l0.length ≤ c0) (h : trustquorumlaw02_ThresholdGrows.f k l0 = some r) :
    Calls Try.prog 4 #[.slice A0 l0.length c0] w fun e w' => e = .returned (.bool r) ∧ Below w.heap.size w w' := by
  have hu27 := Try.underlying27
  have HR0 := Aside0.mk hr0
  have HC0 := Aside0.mk hc0
  clear hr0 hc0
  have HB := Aside0.mk (Below.refl w.heap.size w)
  have H : ((trustquorummake_New.f l0).bind fun bt256 => ((trustquorummake_Tape_Range.f bt256.1 bt256.2 1 10).bind fun bt259 => ((trustquorummake_Trust.f k bt256.1 bt259.2 bt259.1 4).bind fun bt261 => ((threshold_Uses.f k bt261.1 bt261.2.1 bt261.2.2.1).bind fun t270 => (trustquorumlaw02_ThresholdGrows.l0 k t270 0 bt256.1 bt261.2.2.2 bt261.1 bt261.2.1 bt261.2.2.1))))) = some r := h
  clear h
  replace H := Option.bind_eq_some_iff.mp H
  obtain ⟨⟨t256, t257⟩, A20, H⟩ := H
  replace H : ((trustquorummake_Tape_Range.f t256 t257 1 10).bind fun bt259 => ((trustquorummake_Trust.f k t256 bt259.2 bt259.1 4).bind fun bt261 => ((threshold_Uses.f k bt261.1 bt261.2.1 bt261.2.2.1).bind fun t270 => (trustquorumlaw02_ThresholdGrows.l0 k t270 0 t256 bt261.2.2.2 bt261.1 bt261.2.1 bt261.2.2.1)))) = some r := H
  have A2 := Aside0.mk A20
  clear A20
  replace H := Option.bind_eq_some_iff.mp H
  obtain ⟨⟨t259, t260⟩, A30, H⟩ := H
  replace H : ((trustquorummake_Trust.f k t256 t260 t259 4).bind fun bt261 => ((threshold_Uses.f k bt261.1 bt261.2.1 bt261.2.2.1).bind fun t270 => (trustquorumlaw02_ThresholdGrows.l0 k t270 0 t256 bt261.2.2.2 bt261.1 bt261.2.1 bt261.2.2.1))) = some r := H
  have A3 := Aside0.mk A30
  clear A30
  replace H := Option.bind_eq_some_iff.mp H
  obtain ⟨⟨t261, t262, t265, t268⟩, A40, H⟩ := H
  replace H : ((threshold_Uses.f k t261 t262 t265).bind fun t270 => (trustquorumlaw02_ThresholdGrows.l0 k t270 0 t256 t268 t261 t262 t265)) = some r := H
  have A4 := Aside0.mk A40
  clear A40
  replace H := Option.bind_eq_some_iff.mp H
  obtain ⟨t270, A50, H⟩ := H
  replace H : (trustquorumlaw02_ThresholdGrows.l0 k t270 0 t256 t268 t261 t262 t265) = some r := H
  have A5 := Aside0.mk A50
  clear A50
  have H' := Aside0.mk H
  clear H
  go_enter Try.func4, Try.ntmps4
  go_wp2_with (first | ((with_reducible refine gate_callee (f := 8) rfl ?_); refine goesL_ (some 10) rfl rfl Try.func8 (by kernel_rfl) rfl #[.slice A0 l0.length c0] rfl (by (try simp only [List.map_toArray, List.map_cons, List.map_nil]); first | done | rfl | (simp only [List.length_drop, List.length_take]; rfl)) ?_; (with_reducible refine (trustquorummake_New.calls _ _ l0 t256 t257 w _ ?side1 ?side2 ?side3 A2.out).mono ?_); (case side1 => repeat (first | (with_reducible first | exact HB.out | apply below_alloc | apply pw_below_drewN | apply below_drew1) | exact HB.out)); (case side2 => exact HR0.out); (case side3 => exact HC0.out); rintro e w6 ⟨g258, rfl, hi, hb, hb2⟩; refine ⟨_, rfl, ?_⟩; have n0_ := Aside0.mk (hb); have n1_ := Aside0.mk (hi); clear HB; have HB := n0_; have HI258 := n1_; clear n0_ n1_; (try clear hb); (try clear hb2); (try clear hk); (try clear hi)) | ((with_reducible refine gate_callee (f := 10) rfl ?_); refine goesL_ (some 13) rfl rfl Try.func10 (by kernel_rfl) rfl #[.pointer (some ⟨g258, 0, none⟩), .int .i64 1, .int .i64 10] rfl (by (try simp only [List.map_toArray, List.map_cons, List.map_nil]); first | done | rfl | (simp only [List.length_drop, List.length_take]; rfl)) ?_; (with_reducible refine (trustquorummake_Tape_Range.calls g258 t256 t257 1 10 t259 t260 w _ ?side1 ?side2 A3.out).mono ?_); (case side1 => repeat (first | (with_reducible first | exact HI258.out | apply IsS43.alloc | apply IsS43.drewN | apply IsS43.drew | apply IsS43.set_1) | exact HI258.out)); (case side2 => repeat (first | (with_reducible first | exact HB.out | apply below_alloc | apply pw_below_drewN | apply below_drew1 | refine below_set ?_ (IsS43.ge HI258.out)) | exact HB.out)); rintro e w7 ⟨rfl, hi, hb, hk⟩; refine ⟨_, rfl, ?_⟩; have n0_ := Aside0.mk (hb); have n1_ := Aside0.mk (hi); clear HB; clear HI258; have HB := n0_; have HI258 := n1_; clear n0_ n1_; (try clear hb); (try clear hb2); (try clear hk); (try clear hi)) | ((with_reducible refine gate_callee (f := 9) rfl ?_); refine goesL_ (some 14) rfl rfl Try.func9 (by kernel_rfl) rfl #[.pointer (some ⟨g258, 0, none⟩), .int .i64 t259, .int .i64 4] rfl (by (try simp only [List.map_toArray, List.map_cons, List.map_nil]); first | done | rfl | (simp only [List.length_drop, List.length_take]; rfl)) ?_; (with_reducible refine (trustquorummake_Trust.calls k g258 t256 t260 t259 4 t261 t262 t265 t268 w _ ?side1 ?side2 A4.out).mono ?_); (case side1 => repeat (first | (with_reducible first | exact HI258.out | apply IsS43.alloc | apply IsS43.drewN | apply IsS43.drew | apply IsS43.set_1) | exact HI258.out)); (case side2 => repeat (first | (with_reducible first | exact HB.out | apply below_alloc | apply pw_below_drewN | apply below_drew1 | refine below_set ?_ (IsS43.ge HI258.out)) | exact HB.out)); rintro e w8 ⟨v263, v266, rfl, ho0, ho1, hi, hb, hk⟩; refine ⟨_, rfl, ?_⟩; have n0_ := Aside0.mk (Kd.R_lower ho0 (below_size (by repeat (first | (with_reducible first | exact HB.out | apply below_alloc | apply pw_below_drewN | apply below_drew1 | refine below_set ?_ (IsS43.ge HI258.out)) | exact HB.out)))); have n1_ := Aside0.mk (Kd.R_lower ho1 (below_size (by repeat (first | (with_reducible first | exact HB.out | apply below_alloc | apply pw_below_drewN | apply below_drew1 | refine below_set ?_ (IsS43.ge HI258.out)) | exact HB.out)))); have n2_ := Aside0.mk (hb); have n3_ := Aside0.mk (hi); clear HB; clear HI258; have HO264 := n0_; have HO267 := n1_; have HB := n2_; have HI258 := n3_; clear n0_ n1_ n2_ n3_; (try clear hb); (try clear hb2); (try clear hk); (try clear hi); (try clear ho0); (try clear ho1)) | ((with_reducible refine gate_dst (N := 4) rfl ?_); refine box_event ?hg (N := 4) ?hd (cs := #[.int .i64 0, .slice none 0 0, .slice none 0 0]) (t := 27) ?hr ?_; (case hd => rfl); (case hg => rfl); (case hr => first | (go_simp; done) | (go_simp; rfl)); intro gb269 hg w9 hbox hb; have n0_ := Aside0.mk (Kd.R_below (by (with_reducible repeat (first | apply Kd.R_alloc | apply Kd.R_drewN | apply Kd.R_drew)); exact HO264.out) hb); have n1_ := Aside0.mk (Kd.R_below (Kd.R_elderB (by (with_reducible repeat (first | apply Kd.R_alloc | apply Kd.R_drewN | apply Kd.R_drew)); exact HO267.out) gb269 (Nat.le_of_eq hg.symm)) hb); have n2_ := Aside0.mk (IsS43.below (by repeat (first | (with_reducible first | exact HI258.out | apply IsS43.alloc | apply IsS43.drewN | apply IsS43.drew | apply IsS43.set_1) | exact HI258.out)) hb); have n3_ := Aside0.mk (below_step (by repeat (first | (with_reducible first | exact HB.out | apply below_alloc | apply pw_below_drewN | apply below_drew1 | refine below_set ?_ (IsS43.ge HI258.out)) | exact HB.out)) hb); have n4_ := Aside0.mk (hbox); have n5_ := Aside0.mk ((by rw [hg]; exact (below_size (by repeat (first | (with_reducible first | exact HB.out | apply below_alloc | apply pw_below_drewN | apply below_drew1 | refine below_set ?_ (IsS43.ge HI258.out)) | exact HB.out))) : w.heap.size ≤ gb269)); have n6_ := Aside0.mk ((by rw [hg]; exact (below_size (by repeat (first | (with_reducible first | exact HB.out | apply below_alloc | apply pw_below_drewN | apply below_drew1 | refine below_set ?_ (IsS43.ge HI258.out)) | exact HB.out))) : w.heap.size ≤ gb269)); have n7_ := Aside0.mk ((by rw [hg]; exact Nat.ne_of_lt (IsS43.lt (show IsS43 w _ g258 t256 t268 from by repeat (first | (with_reducible first | exact HI258.out | apply IsS43.alloc | apply IsS43.drewN | apply IsS43.drew | apply IsS43.set_1) | exact HI258.out))) : g258 ≠ gb269)); have n8_ := Aside0.mk ((by rw [hg]; exact Nat.ne_of_gt (IsS43.lt (show IsS43 w _ g258 t256 t268 from by repeat (first | (with_reducible first | exact HI258.out | apply IsS43.alloc | apply IsS43.drewN | apply IsS43.drew | apply IsS43.set_1) | exact HI258.out))) : gb269 ≠ g258)); clear HO264; clear HO267; clear HI258; clear HB; have HO264 := n0_; have HO267 := n1_; have HI258 := n2_; have HB := n3_; have BK269 := n4_; have GW269 := n5_; have GE269 := n6_; have NB258_269 := n7_; have NB269_258 := n8_; clear n0_ n1_ n2_ n3_ n4_ n5_ n6_ n7_ n8_; clear hb hbox hg; have hnb10 := NB269_258.out; have hnc10 := NB258_269.out; have hcz11_0 : w9.cell? ⟨gb269, 0, none⟩ = some (.int .i64 0) := (blk_cell BK269.out 0).trans rfl; have hcz11_1 : w9.cell? ⟨gb269, 1, none⟩ = some (.slice none 0 0) := (blk_cell BK269.out 1).trans rfl; have hcz11_2 : w9.cell? ⟨gb269, 2, none⟩ = some (.slice none 0 0) := (blk_cell BK269.out 2).trans rfl; have hfz11_0 := blk_frozen BK269.out 0; have hfz11_1 := blk_frozen BK269.out 1; have hfz11_2 := blk_frozen BK269.out 2; obtain ⟨Ao12, co12, eo12⟩ := Kd.R_slice HO264.out; subst eo12; obtain ⟨Ao13, co13, eo13⟩ := Kd.R_slice HO267.out; subst eo13) | ((with_reducible refine gate_callee (f := 15) rfl ?_); refine goesL_ (some 16) rfl rfl Try.func15 (by kernel_rfl) rfl #[.agg #[.int .i64 t261, .slice Ao12 t262.length co12, .slice Ao13 t265.length co13]] rfl (by (try simp only [List.map_toArray, List.map_cons, List.map_nil]); first | done | rfl | (simp only [List.length_drop, List.length_take]; rfl)) ?_; (with_reducible refine (threshold_Uses.calls k t261 _ _ t262 _ _ t265 t270 _ ?side1 ?side2 ?side3 ?side4 A5.out).mono ?_); (case side1 => refine (Kd.R_reads' (e := 3) (base := w.heap.size) (ok := fun k_ => True) (n := t262.length) (c := co12) ?_).2.2; exact (by (with_reducible repeat (first | apply Kd.R_alloc | apply Kd.R_drewN | apply Kd.R_drew)); exact (Kd.R_mono (Kd.R_far (p := ⟨gb269, 2, none⟩) (Kd.R_far (p := ⟨gb269, 1, none⟩) (Kd.R_far (p := ⟨gb269, 0, none⟩) (Kd.R_types HO264.out BK269.out (by decide)) (fun _ hk => hk.2) (.int .i64 t261)) (fun _ hk => hk.2) (.slice Ao12 t262.length co12)) (fun _ hk => hk.2) (.slice Ao13 t265.length co13)) (fun _ h_ => h_.1)))); (case side2 => exact (Kd.R_reads' HO264.out).2.1); (case side3 => refine (Kd.R_reads' (e := 27) (base := w.heap.size) (ok := fun k_ => (some k_ ≠ (.slice Ao12 t262.length co12 : Value).ownBlock ∧ k_ ≠ gb269)) (n := t265.length) (c := co13) ?_).2.2; exact (by (with_reducible repeat (first | apply Kd.R_alloc | apply Kd.R_drewN | apply Kd.R_drew)); exact (Kd.R_mono (Kd.R_far (p := ⟨gb269, 2, none⟩) (Kd.R_far (p := ⟨gb269, 1, none⟩) (Kd.R_far (p := ⟨gb269, 0, none⟩) (Kd.R_mono HO267.out (fun k_ hk => (⟨hk, hk.2⟩ : _ ∧ k_ ≠ gb269))) (fun _ hk => hk.2) (.int .i64 t261)) (fun _ hk => hk.2) (.slice Ao12 t262.length co12)) (fun _ hk => hk.2) (.slice Ao13 t265.length co13)) (fun _ h_ => h_.1)))); (case side4 => exact (Kd.R_reads' HO267.out).2.1); rintro e w14 ⟨rfl, hb⟩; refine ⟨_, rfl, ?_⟩; have n0_ := Aside0.mk (Kd.R_below (by (with_reducible repeat (first | apply Kd.R_alloc | apply Kd.R_drewN | apply Kd.R_drew)); exact (Kd.R_mono (Kd.R_far (p := ⟨gb269, 2, none⟩) (Kd.R_far (p := ⟨gb269, 1, none⟩) (Kd.R_far (p := ⟨gb269, 0, none⟩) (Kd.R_types HO264.out BK269.out (by decide)) (fun _ hk => hk.2) (.int .i64 t261)) (fun _ hk => hk.2) (.slice Ao12 t262.length co12)) (fun _ hk => hk.2) (.slice Ao13 t265.length co13)) (fun _ h_ => h_.1))) hb); have n1_ := Aside0.mk (Kd.R_below (by (with_reducible repeat (first | apply Kd.R_alloc | apply Kd.R_drewN | apply Kd.R_drew)); exact (Kd.R_mono (Kd.R_far (p := ⟨gb269, 2, none⟩) (Kd.R_far (p := ⟨gb269, 1, none⟩) (Kd.R_far (p := ⟨gb269, 0, none⟩) (Kd.R_mono HO267.out (fun k_ hk => (⟨hk, hk.2⟩ : _ ∧ k_ ≠ gb269))) (fun _ hk => hk.2) (.int .i64 t261)) (fun _ hk => hk.2) (.slice Ao12 t262.length co12)) (fun _ hk => hk.2) (.slice Ao13 t265.length co13)) (fun _ h_ => h_.1))) hb); have n2_ := Aside0.mk (IsS43.below (show IsS43 w (((w9.setCell ⟨gb269, 0, none⟩ (.int .i64 t261)).setCell ⟨gb269, 1, none⟩ (.slice Ao12 t262.length co12)).setCell ⟨gb269, 2, none⟩ (.slice Ao13 t265.length co13)) g258 t256 t268 from by repeat (first | (with_reducible first | exact HI258.out | apply IsS43.alloc | apply IsS43.drewN | apply IsS43.drew | apply IsS43.set_1 | refine IsS43.far ?_ NB258_269.out _) | exact HI258.out)) hb); have n3_ := Aside0.mk (blk_below (g := gb269) (o := .cells #[.int .i64 t261, .slice Ao12 t262.length co12, .slice Ao13 t265.length co13] 27 (0, 0)) (by (with_reducible repeat (first | refine blk_drewN ?_ _ | refine blk_drew ?_ | refine blk_alloc ?_ _)); refine blk_put (cs := #[.int .i64 t261, .slice Ao12 t262.length co12, .slice none 0 0]) ?_ 2 _ rfl; (with_reducible repeat (first | refine blk_drewN ?_ _ | refine blk_drew ?_ | refine blk_alloc ?_ _)); refine blk_put (cs := #[.int .i64 t261, .slice none 0 0, .slice none 0 0]) ?_ 1 _ rfl; (with_reducible repeat (first | refine blk_drewN ?_ _ | refine blk_drew ?_ | refine blk_alloc ?_ _)); refine blk_put (cs := #[.int .i64 0, .slice none 0 0, .slice none 0 0]) ?_ 0 _ rfl; (with_reducible repeat (first | refine blk_drewN ?_ _ | refine blk_drew ?_ | refine blk_alloc ?_ _)); exact BK269.out) hb); have n4_ := Aside0.mk (below_step (by repeat (first | (with_reducible first | exact HB.out | apply below_alloc | apply pw_below_drewN | apply below_drew1 | refine below_set ?_ (IsS43.ge HI258.out) | refine below_set ?_ GE269.out) | exact HB.out)) hb); clear HO264; clear HO267; clear HI258; clear BK269; clear HB; have HO264 := n0_; have HO267 := n1_; have HI258 := n2_; have BK269 := n3_; have HB := n4_; clear n0_ n1_ n2_ n3_ n4_; (try clear hb); (try clear hb2); (try clear hk); (try clear hi)))
  go_loopg [6] k (fun kq v6 w' => ∃ (x6_1 : Int) (x259001_1 : Int), v6 = .int .i64 x6_1 ∧ Aside0 (trustquorumlaw02_ThresholdGrows.l0 kq t270 x6_1 t256 x259001_1 t261 t262 t265 = some r) ∧ Aside0 (kq ≤ k) ∧ Aside0 (Kd.R (Kd.int .i64) 3 w' w.heap.size (fun _ => True) (.slice Ao12 t262.length co12) t262) ∧ Aside0 (Kd.R k27 27 w' w.heap.size (fun k_ => some k_ ≠ ((.slice Ao12 t262.length co12) : Value).ownBlock ∧ k_ ≠ gb269) (.slice Ao13 t265.length co13) t265) ∧ Aside0 (w'.heap[gb269]? = some (.cells #[.int .i64 t261, (.slice Ao12 t262.length co12), (.slice Ao13 t265.length co13)] 27 (0, 0))) ∧ Aside0 (IsS43 w w' g258 t256 x259001_1) ∧ Aside0 (Below w.heap.size w w'))
  case atStart => exact ⟨(0), (t268), (by first | rfl | (simp; done) | (simp [*]; done)), H', ⟨Nat.le_refl _⟩, ⟨by (with_reducible repeat (first | apply Kd.R_alloc | apply Kd.R_drewN | apply Kd.R_drew)); exact HO264.out⟩, ⟨by (with_reducible repeat (first | apply Kd.R_alloc | apply Kd.R_drewN | apply Kd.R_drew)); exact HO267.out⟩, ⟨by (with_reducible repeat (first | refine blk_drewN ?_ _ | refine blk_drew ?_ | refine blk_alloc ?_ _)); exact BK269.out⟩, ⟨by repeat (first | (with_reducible first | exact HI258.out | apply IsS43.alloc | apply IsS43.drewN | apply IsS43.drew | apply IsS43.set_1 | refine IsS43.far ?_ NB258_269.out _) | exact HI258.out)⟩, ⟨by repeat (first | (with_reducible first | exact HB.out | apply below_alloc | apply pw_below_drewN | apply below_drew1 | refine below_set ?_ (IsS43.ge HI258.out) | refine below_set ?_ GE269.out) | exact HB.out)⟩⟩
  case round =>
    clear H'
    try clear c1
    try clear p2
    try clear c4
    try clear c8
    try clear c9
    try clear c10
    try clear hcz11_0
    try clear hcz11_1
    try clear hcz11_2
    try clear hfz11_0
    try clear hfz11_1
    try clear hfz11_2
    obtain ⟨x6_1, x259001_1, rfl, HA, HK1, HO_270001, HO_270002, BK269, HI258, HB⟩ := hrel
    cases gk with
    | zero => exact absurd HA.out (by simp [trustquorumlaw02_ThresholdGrows.l0])
    | succ k1 =>
      have H := HA.out
      clear HA
      simp only [trustquorumlaw02_ThresholdGrows.l0] at H
      by_cases c15 : x6_1 < 6
      · rw [if_pos c15] at H
        have c15b0 : decide (x6_1 < 6) = true := decide_eq_true c15
        clear c15
        replace H := Option.bind_eq_some_iff.mp H
        obtain ⟨⟨t272, t273⟩, A160, H⟩ := H
        replace H : ((trustquorummake_Tape_N.f t256 t273 1024).bind fun bt274 => ((threshold_Satisfied.f k1 t261 t262 t265 t272).bind fun t276 => (if t276 = true then ((threshold_Satisfied.f k1 t261 t262 t265 (Go.bits .or .i64 t272 bt274.1)).bind fun t277 => (if t277 = true then ((threshold_Blocked.f k1 t261 t262 t265 t272).bind fun t278 => (if t278 = true then ((threshold_Blocked.f k1 t261 t262 t265 (Go.bits .or .i64 t272 bt274.1)).bind fun t279 => (trustquorumlaw02_ThresholdGrows.j1 k1 t270 x6_1 t272 (!t279) t256 bt274.2 t261 t262 t265)) else (trustquorumlaw02_ThresholdGrows.j1 k1 t270 x6_1 t272 false t256 bt274.2 t261 t262 t265))) else (trustquorumlaw02_ThresholdGrows.j1 k1 t270 x6_1 t272 true t256 bt274.2 t261 t262 t265))) else ((threshold_Blocked.f k1 t261 t262 t265 t272).bind fun t280 => (if t280 = true then ((threshold_Blocked.f k1 t261 t262 t265 (Go.bits .or .i64 t272 bt274.1)).bind fun t281 => (trustquorumlaw02_ThresholdGrows.j1 k1 t270 x6_1 t272 (!t281) t256 bt274.2 t261 t262 t265)) else (trustquorumlaw02_ThresholdGrows.j1 k1 t270 x6_1 t272 false t256 bt274.2 t261 t262 t265)))))) = some r := H
        have A16 := Aside0.mk A160
        clear A160
        replace H := Option.bind_eq_some_iff.mp H
        obtain ⟨⟨t274, t275⟩, A170, H⟩ := H
        replace H : ((threshold_Satisfied.f k1 t261 t262 t265 t272).bind fun t276 => (if t276 = true then ((threshold_Satisfied.f k1 t261 t262 t265 (Go.bits .or .i64 t272 t274)).bind fun t277 => (if t277 = true then ((threshold_Blocked.f k1 t261 t262 t265 t272).bind fun t278 => (if t278 = true then ((threshold_Blocked.f k1 t261 t262 t265 (Go.bits .or .i64 t272 t274)).bind fun t279 => (trustquorumlaw02_ThresholdGrows.j1 k1 t270 x6_1 t272 (!t279) t256 t275 t261 t262 t265)) else (trustquorumlaw02_ThresholdGrows.j1 k1 t270 x6_1 t272 false t256 t275 t261 t262 t265))) else (trustquorumlaw02_ThresholdGrows.j1 k1 t270 x6_1 t272 true t256 t275 t261 t262 t265))) else ((threshold_Blocked.f k1 t261 t262 t265 t272).bind fun t280 => (if t280 = true then ((threshold_Blocked.f k1 t261 t262 t265 (Go.bits .or .i64 t272 t274)).bind fun t281 => (trustquorumlaw02_ThresholdGrows.j1 k1 t270 x6_1 t272 (!t281) t256 t275 t261 t262 t265)) else (trustquorumlaw02_ThresholdGrows.j1 k1 t270 x6_1 t272 false t256 t275 t261 t262 t265))))) = some r := H
        have A17 := Aside0.mk A170
        clear A170
        have HC18 := Aside0.mk H
        clear H
        go_upto_region 9 with (first | ((with_reducible refine gate_callee (f := 13) rfl ?_); refine goesL_ (some 22) rfl rfl Try.func13 (by kernel_rfl) rfl #[.pointer (some ⟨g258, 0, none⟩), .int .i64 1024] rfl (by (try simp only [List.map_toArray, List.map_cons, List.map_nil]); first | done | rfl | (simp only [List.length_drop, List.length_take]; rfl)) ?_; (with_reducible refine (trustquorummake_Tape_N.calls g258 t256 x259001_1 1024 t272 t273 w _ ?side1 ?side2 A16.out).mono ?_); (case side1 => repeat (first | (with_reducible first | exact HI258.out | apply IsS43.alloc | apply IsS43.drewN | apply IsS43.drew | apply IsS43.set_1 | refine IsS43.far ?_ NB258_269.out _) | exact HI258.out)); (case side2 => repeat (first | (with_reducible first | exact HB.out | apply below_alloc | apply pw_below_drewN | apply below_drew1 | refine below_set ?_ (IsS43.ge HI258.out) | refine below_set ?_ GE269.out) | exact HB.out)); rintro e w19 ⟨rfl, hi, hb, hk⟩; refine ⟨_, rfl, ?_⟩; have n0_ := Aside0.mk (Kd.R_mono (Kd.R_keep (IsS43.apart (show IsS43 w _ g258 t256 x259001_1 from by repeat (first | (with_reducible first | exact HI258.out | apply IsS43.alloc | apply IsS43.drewN | apply IsS43.drew | apply IsS43.set_1 | refine IsS43.far ?_ NB258_269.out _) | exact HI258.out)) (by (with_reducible repeat (first | apply Kd.R_alloc | apply Kd.R_drewN | apply Kd.R_drew)); exact HO_270001.out) (by decide)) hk (fun _ h => h.2)) (fun _ h => h.1)); have n1_ := Aside0.mk (Kd.R_mono (Kd.R_keep (IsS43.apart (show IsS43 w _ g258 t256 x259001_1 from by repeat (first | (with_reducible first | exact HI258.out | apply IsS43.alloc | apply IsS43.drewN | apply IsS43.drew | apply IsS43.set_1 | refine IsS43.far ?_ NB258_269.out _) | exact HI258.out)) (by (with_reducible repeat (first | apply Kd.R_alloc | apply Kd.R_drewN | apply Kd.R_drew)); exact HO_270002.out) (by decide)) hk (fun _ h => h.2)) (fun _ h => h.1)); have n2_ := Aside0.mk (KeepBut.blk hk (g' := gb269) (o := .cells #[.int .i64 t261, .slice Ao12 t262.length co12, .slice Ao13 t265.length co13] 27 (0, 0)) (by (with_reducible repeat (first | refine blk_drewN ?_ _ | refine blk_drew ?_ | refine blk_alloc ?_ _)); exact BK269.out) NB269_258.out (by simp)); have n3_ := Aside0.mk (hb); have n4_ := Aside0.mk (hi); clear HO_270001; clear HO_270002; clear BK269; clear HB; clear HI258; have HO_270001 := n0_; have HO_270002 := n1_; have BK269 := n2_; have HB := n3_; have HI258 := n4_; clear n0_ n1_ n2_ n3_ n4_; (try clear hb); (try clear hb2); (try clear hk); (try clear hi)) | ((with_reducible refine gate_callee (f := 13) rfl ?_); refine goesL_ (some 25) rfl rfl Try.func13 (by kernel_rfl) rfl #[.pointer (some ⟨g258, 0, none⟩), .int .i64 1024] rfl (by (try simp only [List.map_toArray, List.map_cons, List.map_nil]); first | done | rfl | (simp only [List.length_drop, List.length_take]; rfl)) ?_; (with_reducible refine (trustquorummake_Tape_N.calls g258 t256 t273 1024 t274 t275 w _ ?side1 ?side2 A17.out).mono ?_); (case side1 => repeat (first | (with_reducible first | exact HI258.out | apply IsS43.alloc | apply IsS43.drewN | apply IsS43.drew | apply IsS43.set_1 | refine IsS43.far ?_ NB258_269.out _) | exact HI258.out)); (case side2 => repeat (first | (with_reducible first | exact HB.out | apply below_alloc | apply pw_below_drewN | apply below_drew1 | refine below_set ?_ (IsS43.ge HI258.out) | refine below_set ?_ GE269.out) | exact HB.out)); rintro e w20 ⟨rfl, hi, hb, hk⟩; refine ⟨_, rfl, ?_⟩; have n0_ := Aside0.mk (Kd.R_mono (Kd.R_keep (IsS43.apart (show IsS43 w _ g258 t256 t273 from by repeat (first | (with_reducible first | exact HI258.out | apply IsS43.alloc | apply IsS43.drewN | apply IsS43.drew | apply IsS43.set_1 | refine IsS43.far ?_ NB258_269.out _) | exact HI258.out)) (by (with_reducible repeat (first | apply Kd.R_alloc | apply Kd.R_drewN | apply Kd.R_drew)); exact HO_270001.out) (by decide)) hk (fun _ h => h.2)) (fun _ h => h.1)); have n1_ := Aside0.mk (Kd.R_mono (Kd.R_keep (IsS43.apart (show IsS43 w _ g258 t256 t273 from by repeat (first | (with_reducible first | exact HI258.out | apply IsS43.alloc | apply IsS43.drewN | apply IsS43.drew | apply IsS43.set_1 | refine IsS43.far ?_ NB258_269.out _) | exact HI258.out)) (by (with_reducible repeat (first | apply Kd.R_alloc | apply Kd.R_drewN | apply Kd.R_drew)); exact HO_270002.out) (by decide)) hk (fun _ h => h.2)) (fun _ h => h.1)); have n2_ := Aside0.mk (KeepBut.blk hk (g' := gb269) (o := .cells #[.int .i64 t261, .slice Ao12 t262.length co12, .slice Ao13 t265.length co13] 27 (0, 0)) (by (with_reducible repeat (first | refine blk_drewN ?_ _ | refine blk_drew ?_ | refine blk_alloc ?_ _)); exact BK269.out) NB269_258.out (by simp)); have n3_ := Aside0.mk (hb); have n4_ := Aside0.mk (hi); clear HO_270001; clear HO_270002; clear BK269; clear HB; clear HI258; have HO_270001 := n0_; have HO_270002 := n1_; have BK269 := n2_; have HB := n3_; have HI258 := n4_; clear n0_ n1_ n2_ n3_ n4_; (try clear hb); (try clear hb2); (try clear hk); (try clear hi)))
        (try simp only [Act.put, List.setIfInBounds_toArray, List.set_cons_zero, List.set_cons_succ])
        go_cut [46] (fun v46 wc => ∃ (kq : Nat) (x46_17 : Bool), v46 = .bool x46_17 ∧ Aside0 (trustquorumlaw02_ThresholdGrows.j1 kq t270 x6_1 t272 x46_17 t256 t275 t261 t262 t265 = some r) ∧ Aside0 (kq ≤ k1) ∧ Aside0 (Kd.R (Kd.int .i64) 3 wc w.heap.size (fun _ => True) (.slice Ao12 t262.length co12) t262) ∧ Aside0 (Kd.R k27 27 wc w.heap.size (fun k_ => some k_ ≠ ((.slice Ao12 t262.length co12) : Value).ownBlock ∧ k_ ≠ gb269) (.slice Ao13 t265.length co13) t265) ∧ Aside0 (wc.heap[gb269]? = some (.cells #[.int .i64 t261, (.slice Ao12 t262.length co12), (.slice Ao13 t265.length co13)] 27 (0, 0))) ∧ Aside0 (IsS43 w wc g258 t256 t275) ∧ Aside0 (Below w.heap.size w wc))
        case first =>
          have H := HC18.out
          clear HC18
          replace H := Option.bind_eq_some_iff.mp H
          obtain ⟨t276, A210, H⟩ := H
          replace H : (if t276 = true then ((threshold_Satisfied.f k1 t261 t262 t265 (Go.bits .or .i64 t272 t274)).bind fun t277 => (if t277 = true then ((threshold_Blocked.f k1 t261 t262 t265 t272).bind fun t278 => (if t278 = true then ((threshold_Blocked.f k1 t261 t262 t265 (Go.bits .or .i64 t272 t274)).bind fun t279 => (trustquorumlaw02_ThresholdGrows.j1 k1 t270 x6_1 t272 (!t279) t256 t275 t261 t262 t265)) else (trustquorumlaw02_ThresholdGrows.j1 k1 t270 x6_1 t272 false t256 t275 t261 t262 t265))) else (trustquorumlaw02_ThresholdGrows.j1 k1 t270 x6_1 t272 true t256 t275 t261 t262 t265))) else ((threshold_Blocked.f k1 t261 t262 t265 t272).bind fun t280 => (if t280 = true then ((threshold_Blocked.f k1 t261 t262 t265 (Go.bits .or .i64 t272 t274)).bind fun t281 => (trustquorumlaw02_ThresholdGrows.j1 k1 t270 x6_1 t272 (!t281) t256 t275 t261 t262 t265)) else (trustquorumlaw02_ThresholdGrows.j1 k1 t270 x6_1 t272 false t256 t275 t261 t262 t265)))) = some r := H
          have A21 := Aside0.mk A210
          clear A210
          by_cases c22 : t276 = true
          · subst c22
            have H1 : ((threshold_Satisfied.f k1 t261 t262 t265 (Go.bits .or .i64 t272 t274)).bind fun t277 => (if t277 = true then ((threshold_Blocked.f k1 t261 t262 t265 t272).bind fun t278 => (if t278 = true then ((threshold_Blocked.f k1 t261 t262 t265 (Go.bits .or .i64 t272 t274)).bind fun t279 => (trustquorumlaw02_ThresholdGrows.j1 k1 t270 x6_1 t272 (!t279) t256 t275 t261 t262 t265)) else (trustquorumlaw02_ThresholdGrows.j1 k1 t270 x6_1 t272 false t256 t275 t261 t262 t265))) else (trustquorumlaw02_ThresholdGrows.j1 k1 t270 x6_1 t272 true t256 t275 t261 t262 t265))) = some r := by rw [if_pos rfl] at H; exact H
            clear H
            have H := H1
            clear H1
            replace H := Option.bind_eq_some_iff.mp H
            obtain ⟨t277, A230, H⟩ := H
            replace H : (if t277 = true then ((threshold_Blocked.f k1 t261 t262 t265 t272).bind fun t278 => (if t278 = true then ((threshold_Blocked.f k1 t261 t262 t265 (Go.bits .or .i64 t272 t274)).bind fun t279 => (trustquorumlaw02_ThresholdGrows.j1 k1 t270 x6_1 t272 (!t279) t256 t275 t261 t262 t265)) else (trustquorumlaw02_ThresholdGrows.j1 k1 t270 x6_1 t272 false t256 t275 t261 t262 t265))) else (trustquorumlaw02_ThresholdGrows.j1 k1 t270 x6_1 t272 true t256 t275 t261 t262 t265)) = some r := H
            have A23 := Aside0.mk A230
            clear A230
            by_cases c24 : t277 = true
            · subst c24
              have H1 : ((threshold_Blocked.f k1 t261 t262 t265 t272).bind fun t278 => (if t278 = true then ((threshold_Blocked.f k1 t261 t262 t265 (Go.bits .or .i64 t272 t274)).bind fun t279 => (trustquorumlaw02_ThresholdGrows.j1 k1 t270 x6_1 t272 (!t279) t256 t275 t261 t262 t265)) else (trustquorumlaw02_ThresholdGrows.j1 k1 t270 x6_1 t272 false t256 t275 t261 t262 t265))) = some r := by rw [if_pos rfl] at H; exact H
              clear H
              have H := H1
              clear H1
              replace H := Option.bind_eq_some_iff.mp H
              obtain ⟨t278, A250, H⟩ := H
              replace H : (if t278 = true then ((threshold_Blocked.f k1 t261 t262 t265 (Go.bits .or .i64 t272 t274)).bind fun t279 => (trustquorumlaw02_ThresholdGrows.j1 k1 t270 x6_1 t272 (!t279) t256 t275 t261 t262 t265)) else (trustquorumlaw02_ThresholdGrows.j1 k1 t270 x6_1 t272 false t256 t275 t261 t262 t265)) = some r := H
              have A25 := Aside0.mk A250
              clear A250
              by_cases c26 : t278 = true
              · subst c26
                have H1 : ((threshold_Blocked.f k1 t261 t262 t265 (Go.bits .or .i64 t272 t274)).bind fun t279 => (trustquorumlaw02_ThresholdGrows.j1 k1 t270 x6_1 t272 (!t279) t256 t275 t261 t262 t265)) = some r := by rw [if_pos rfl] at H; exact H
                clear H
                have H := H1
                clear H1
                replace H := Option.bind_eq_some_iff.mp H
                obtain ⟨t279, A270, H⟩ := H
                replace H : (trustquorumlaw02_ThresholdGrows.j1 k1 t270 x6_1 t272 (!t279) t256 t275 t261 t262 t265) = some r := H
                have A27 := Aside0.mk A270
                clear A270
                have H' := Aside0.mk H
                clear H
                have hnb28 := NB269_258.out
                have hnc28 := NB258_269.out
                have hcz29_0 : w20.cell? ⟨gb269, 0, none⟩ = some (.int .i64 t261) := (blk_cell BK269.out 0).trans rfl
                have hcz29_1 : w20.cell? ⟨gb269, 1, none⟩ = some (.slice Ao12 t262.length co12) := (blk_cell BK269.out 1).trans rfl
                have hcz29_2 : w20.cell? ⟨gb269, 2, none⟩ = some (.slice Ao13 t265.length co13) := (blk_cell BK269.out 2).trans rfl
                have hfz29_0 := blk_frozen BK269.out 0
                have hfz29_1 := blk_frozen BK269.out 1
                have hfz29_2 := blk_frozen BK269.out 2
                go_wp2_with (first | ((with_reducible refine gate_callee (f := 11) rfl ?_); refine goesL_ (some 29) rfl rfl Try.func11 (by kernel_rfl) rfl #[.agg #[.int .i64 t261, .slice Ao12 t262.length co12, .slice Ao13 t265.length co13], .int .i64 t272] rfl (by (try simp only [List.map_toArray, List.map_cons, List.map_nil]); first | done | rfl | (simp only [List.length_drop, List.length_take]; rfl)) ?_; (with_reducible refine (threshold_Satisfied.calls k1 t261 _ _ t262 _ _ t265 t272 true _ ?side1 ?side2 ?side3 ?side4 A21.out).mono ?_); (case side1 => repeat (first | exact (Kd.R_reads' HO_270001.out).2.2 | (with_reducible refine Kd.C_alloc ?_ _) | (with_reducible refine Kd.C_drewN ?_ _) | (with_reducible refine Kd.C_drew ?_))); (case side2 => exact (Kd.R_reads' HO_270001.out).2.1); (case side3 => repeat (first | exact (Kd.R_reads' HO_270002.out).2.2 | (with_reducible refine Kd.C_alloc ?_ _) | (with_reducible refine Kd.C_drewN ?_ _) | (with_reducible refine Kd.C_drew ?_))); (case side4 => exact (Kd.R_reads' HO_270002.out).2.1); rintro e w30 ⟨rfl, hb⟩; refine ⟨_, rfl, ?_⟩; have n0_ := Aside0.mk (Kd.R_below (by (with_reducible repeat (first | apply Kd.R_alloc | apply Kd.R_drewN | apply Kd.R_drew)); exact HO_270001.out) hb); have n1_ := Aside0.mk (Kd.R_below (by (with_reducible repeat (first | apply Kd.R_alloc | apply Kd.R_drewN | apply Kd.R_drew)); exact HO_270002.out) hb); have n2_ := Aside0.mk (blk_below (g := gb269) (o := .cells #[.int .i64 t261, .slice Ao12 t262.length co12, .slice Ao13 t265.length co13] 27 (0, 0)) (by (with_reducible repeat (first | refine blk_drewN ?_ _ | refine blk_drew ?_ | refine blk_alloc ?_ _)); exact BK269.out) hb); have n3_ := Aside0.mk (IsS43.below (by repeat (first | (with_reducible first | exact HI258.out | apply IsS43.alloc | apply IsS43.drewN | apply IsS43.drew | apply IsS43.set_1 | refine IsS43.far ?_ NB258_269.out _) | exact HI258.out)) hb); have n4_ := Aside0.mk (below_step (by repeat (first | (with_reducible first | exact HB.out | apply below_alloc | apply pw_below_drewN | apply below_drew1 | refine below_set ?_ (IsS43.ge HI258.out) | refine below_set ?_ GE269.out) | exact HB.out)) hb); clear HO_270001; clear HO_270002; clear BK269; clear HI258; clear HB; have HO_270001 := n0_; have HO_270002 := n1_; have BK269 := n2_; have HI258 := n3_; have HB := n4_; clear n0_ n1_ n2_ n3_ n4_; (try clear hb); (try clear hb2); (try clear hk); (try clear hi); have hcz31_0 : w30.cell? ⟨gb269, 0, none⟩ = some (.int .i64 t261) := (blk_cell BK269.out 0).trans rfl; have hcz31_1 : w30.cell? ⟨gb269, 1, none⟩ = some (.slice Ao12 t262.length co12) := (blk_cell BK269.out 1).trans rfl; have hcz31_2 : w30.cell? ⟨gb269, 2, none⟩ = some (.slice Ao13 t265.length co13) := (blk_cell BK269.out 2).trans rfl; have hfz31_0 := blk_frozen BK269.out 0; have hfz31_1 := blk_frozen BK269.out 1; have hfz31_2 := blk_frozen BK269.out 2) | (go_at_call 11; (with_reducible refine (threshold_Satisfied.calls k1 t261 _ _ t262 _ _ t265 (Go.bits .or .i64 t272 t274) true _ ?side1 ?side2 ?side3 ?side4 A23.out).mono ?_); (case side1 => repeat (first | exact (Kd.R_reads' HO_270001.out).2.2 | (with_reducible refine Kd.C_alloc ?_ _) | (with_reducible refine Kd.C_drewN ?_ _) | (with_reducible refine Kd.C_drew ?_))); (case side2 => exact (Kd.R_reads' HO_270001.out).2.1); (case side3 => repeat (first | exact (Kd.R_reads' HO_270002.out).2.2 | (with_reducible refine Kd.C_alloc ?_ _) | (with_reducible refine Kd.C_drewN ?_ _) | (with_reducible refine Kd.C_drew ?_))); (case side4 => exact (Kd.R_reads' HO_270002.out).2.1); rintro e w32 ⟨rfl, hb⟩; have n0_ := Aside0.mk (Kd.R_below (by (with_reducible repeat (first | apply Kd.R_alloc | apply Kd.R_drewN | apply Kd.R_drew)); exact HO_270001.out) hb); have n1_ := Aside0.mk (Kd.R_below (by (with_reducible repeat (first | apply Kd.R_alloc | apply Kd.R_drewN | apply Kd.R_drew)); exact HO_270002.out) hb); have n2_ := Aside0.mk (blk_below (g := gb269) (o := .cells #[.int .i64 t261, .slice Ao12 t262.length co12, .slice Ao13 t265.length co13] 27 (0, 0)) (by (with_reducible repeat (first | refine blk_drewN ?_ _ | refine blk_drew ?_ | refine blk_alloc ?_ _)); exact BK269.out) hb); have n3_ := Aside0.mk (IsS43.below (by repeat (first | (with_reducible first | exact HI258.out | apply IsS43.alloc | apply IsS43.drewN | apply IsS43.drew | apply IsS43.set_1 | refine IsS43.far ?_ NB258_269.out _) | exact HI258.out)) hb); have n4_ := Aside0.mk (below_step (by repeat (first | (with_reducible first | exact HB.out | apply below_alloc | apply pw_below_drewN | apply below_drew1 | refine below_set ?_ (IsS43.ge HI258.out) | refine below_set ?_ GE269.out) | exact HB.out)) hb); clear HO_270001; clear HO_270002; clear BK269; clear HI258; clear HB; have HO_270001 := n0_; have HO_270002 := n1_; have BK269 := n2_; have HI258 := n3_; have HB := n4_; clear n0_ n1_ n2_ n3_ n4_; (try clear hb); (try clear hb2); (try clear hk); (try clear hi); have hcz33_0 : w32.cell? ⟨gb269, 0, none⟩ = some (.int .i64 t261) := (blk_cell BK269.out 0).trans rfl; have hcz33_1 : w32.cell? ⟨gb269, 1, none⟩ = some (.slice Ao12 t262.length co12) := (blk_cell BK269.out 1).trans rfl; have hcz33_2 : w32.cell? ⟨gb269, 2, none⟩ = some (.slice Ao13 t265.length co13) := (blk_cell BK269.out 2).trans rfl; have hfz33_0 := blk_frozen BK269.out 0; have hfz33_1 := blk_frozen BK269.out 1; have hfz33_2 := blk_frozen BK269.out 2) | (go_at_call 12; (with_reducible refine (threshold_Blocked.calls k1 t261 _ _ t262 _ _ t265 t272 true _ ?side1 ?side2 ?side3 ?side4 A25.out).mono ?_); (case side1 => repeat (first | exact (Kd.R_reads' HO_270001.out).2.2 | (with_reducible refine Kd.C_alloc ?_ _) | (with_reducible refine Kd.C_drewN ?_ _) | (with_reducible refine Kd.C_drew ?_))); (case side2 => exact (Kd.R_reads' HO_270001.out).2.1); (case side3 => repeat (first | exact (Kd.R_reads' HO_270002.out).2.2 | (with_reducible refine Kd.C_alloc ?_ _) | (with_reducible refine Kd.C_drewN ?_ _) | (with_reducible refine Kd.C_drew ?_))); (case side4 => exact (Kd.R_reads' HO_270002.out).2.1); rintro e w34 ⟨rfl, hb⟩; have n0_ := Aside0.mk (Kd.R_below (by (with_reducible repeat (first | apply Kd.R_alloc | apply Kd.R_drewN | apply Kd.R_drew)); exact HO_270001.out) hb); have n1_ := Aside0.mk (Kd.R_below (by (with_reducible repeat (first | apply Kd.R_alloc | apply Kd.R_drewN | apply Kd.R_drew)); exact HO_270002.out) hb); have n2_ := Aside0.mk (blk_below (g := gb269) (o := .cells #[.int .i64 t261, .slice Ao12 t262.length co12, .slice Ao13 t265.length co13] 27 (0, 0)) (by (with_reducible repeat (first | refine blk_drewN ?_ _ | refine blk_drew ?_ | refine blk_alloc ?_ _)); exact BK269.out) hb); have n3_ := Aside0.mk (IsS43.below (by repeat (first | (with_reducible first | exact HI258.out | apply IsS43.alloc | apply IsS43.drewN | apply IsS43.drew | apply IsS43.set_1 | refine IsS43.far ?_ NB258_269.out _) | exact HI258.out)) hb); have n4_ := Aside0.mk (below_step (by repeat (first | (with_reducible first | exact HB.out | apply below_alloc | apply pw_below_drewN | apply below_drew1 | refine below_set ?_ (IsS43.ge HI258.out) | refine below_set ?_ GE269.out) | exact HB.out)) hb); clear HO_270001; clear HO_270002; clear BK269; clear HI258; clear HB; have HO_270001 := n0_; have HO_270002 := n1_; have BK269 := n2_; have HI258 := n3_; have HB := n4_; clear n0_ n1_ n2_ n3_ n4_; (try clear hb); (try clear hb2); (try clear hk); (try clear hi); have hcz35_0 : w34.cell? ⟨gb269, 0, none⟩ = some (.int .i64 t261) := (blk_cell BK269.out 0).trans rfl; have hcz35_1 : w34.cell? ⟨gb269, 1, none⟩ = some (.slice Ao12 t262.length co12) := (blk_cell BK269.out 1).trans rfl; have hcz35_2 : w34.cell? ⟨gb269, 2, none⟩ = some (.slice Ao13 t265.length co13) := (blk_cell BK269.out 2).trans rfl; have hfz35_0 := blk_frozen BK269.out 0; have hfz35_1 := blk_frozen BK269.out 1; have hfz35_2 := blk_frozen BK269.out 2) | (go_at_call 12; (with_reducible refine (threshold_Blocked.calls k1 t261 _ _ t262 _ _ t265 (Go.bits .or .i64 t272 t274) t279 _ ?side1 ?side2 ?side3 ?side4 A27.out).mono ?_); (case side1 => repeat (first | exact (Kd.R_reads' HO_270001.out).2.2 | (with_reducible refine Kd.C_alloc ?_ _) | (with_reducible refine Kd.C_drewN ?_ _) | (with_reducible refine Kd.C_drew ?_))); (case side2 => exact (Kd.R_reads' HO_270001.out).2.1); (case side3 => repeat (first | exact (Kd.R_reads' HO_270002.out).2.2 | (with_reducible refine Kd.C_alloc ?_ _) | (with_reducible refine Kd.C_drewN ?_ _) | (with_reducible refine Kd.C_drew ?_))); (case side4 => exact (Kd.R_reads' HO_270002.out).2.1); rintro e w36 ⟨rfl, hb⟩; have n0_ := Aside0.mk (Kd.R_below (by (with_reducible repeat (first | apply Kd.R_alloc | apply Kd.R_drewN | apply Kd.R_drew)); exact HO_270001.out) hb); have n1_ := Aside0.mk (Kd.R_below (by (with_reducible repeat (first | apply Kd.R_alloc | apply Kd.R_drewN | apply Kd.R_drew)); exact HO_270002.out) hb); have n2_ := Aside0.mk (blk_below (g := gb269) (o := .cells #[.int .i64 t261, .slice Ao12 t262.length co12, .slice Ao13 t265.length co13] 27 (0, 0)) (by (with_reducible repeat (first | refine blk_drewN ?_ _ | refine blk_drew ?_ | refine blk_alloc ?_ _)); exact BK269.out) hb); have n3_ := Aside0.mk (IsS43.below (by repeat (first | (with_reducible first | exact HI258.out | apply IsS43.alloc | apply IsS43.drewN | apply IsS43.drew | apply IsS43.set_1 | refine IsS43.far ?_ NB258_269.out _) | exact HI258.out)) hb); have n4_ := Aside0.mk (below_step (by repeat (first | (with_reducible first | exact HB.out | apply below_alloc | apply pw_below_drewN | apply below_drew1 | refine below_set ?_ (IsS43.ge HI258.out) | refine below_set ?_ GE269.out) | exact HB.out)) hb); clear HO_270001; clear HO_270002; clear BK269; clear HI258; clear HB; have HO_270001 := n0_; have HO_270002 := n1_; have BK269 := n2_; have HI258 := n3_; have HB := n4_; clear n0_ n1_ n2_ n3_ n4_; (try clear hb); (try clear hb2); (try clear hk); (try clear hi)))
                go_meet
                case rel => exact ⟨_, (!t279), (by first | rfl | (simp; done) | (simp [*]; done)), H', ⟨by have := HK1.out; first | omega | exact Nat.le_refl _⟩, ⟨by (with_reducible repeat (first | apply Kd.R_alloc | apply Kd.R_drewN | apply Kd.R_drew)); exact HO_270001.out⟩, ⟨by (with_reducible repeat (first | apply Kd.R_alloc | apply Kd.R_drewN | apply Kd.R_drew)); exact HO_270002.out⟩, ⟨by (with_reducible repeat (first | refine blk_drewN ?_ _ | refine blk_drew ?_ | refine blk_alloc ?_ _)); exact BK269.out⟩, ⟨by repeat (first | (with_reducible first | exact HI258.out | apply IsS43.alloc | apply IsS43.drewN | apply IsS43.drew | apply IsS43.set_1 | refine IsS43.far ?_ NB258_269.out _) | exact HI258.out)⟩, ⟨by repeat (first | (with_reducible first | exact HB.out | apply below_alloc | apply pw_below_drewN | apply below_drew1 | refine below_set ?_ (IsS43.ge HI258.out) | refine below_set ?_ GE269.out) | exact HB.out)⟩⟩
              · replace c26 := Bool.eq_false_iff.mpr c26
                subst c26
                have H1 : (trustquorumlaw02_ThresholdGrows.j1 k1 t270 x6_1 t272 false t256 t275 t261 t262 t265) = some r := by rw [if_neg (show ¬ (false = true) by decide)] at H; exact H
                clear H
                have H := H1
                clear H1
                have H' := Aside0.mk H
                clear H
                have hnb37 := NB269_258.out
                have hnc37 := NB258_269.out
                have hcz38_0 : w20.cell? ⟨gb269, 0, none⟩ = some (.int .i64 t261) := (blk_cell BK269.out 0).trans rfl
                have hcz38_1 : w20.cell? ⟨gb269, 1, none⟩ = some (.slice Ao12 t262.length co12) := (blk_cell BK269.out 1).trans rfl
                have hcz38_2 : w20.cell? ⟨gb269, 2, none⟩ = some (.slice Ao13 t265.length co13) := (blk_cell BK269.out 2).trans rfl
                have hfz38_0 := blk_frozen BK269.out 0
                have hfz38_1 := blk_frozen BK269.out 1
                have hfz38_2 := blk_frozen BK269.out 2
                go_wp2_with (first | ((with_reducible refine gate_callee (f := 11) rfl ?_); refine goesL_ (some 29) rfl rfl Try.func11 (by kernel_rfl) rfl #[.agg #[.int .i64 t261, .slice Ao12 t262.length co12, .slice Ao13 t265.length co13], .int .i64 t272] rfl (by (try simp only [List.map_toArray, List.map_cons, List.map_nil]); first | done | rfl | (simp only [List.length_drop, List.length_take]; rfl)) ?_; (with_reducible refine (threshold_Satisfied.calls k1 t261 _ _ t262 _ _ t265 t272 true _ ?side1 ?side2 ?side3 ?side4 A21.out).mono ?_); (case side1 => repeat (first | exact (Kd.R_reads' HO_270001.out).2.2 | (with_reducible refine Kd.C_alloc ?_ _) | (with_reducible refine Kd.C_drewN ?_ _) | (with_reducible refine Kd.C_drew ?_))); (case side2 => exact (Kd.R_reads' HO_270001.out).2.1); (case side3 => repeat (first | exact (Kd.R_reads' HO_270002.out).2.2 | (with_reducible refine Kd.C_alloc ?_ _) | (with_reducible refine Kd.C_drewN ?_ _) | (with_reducible refine Kd.C_drew ?_))); (case side4 => exact (Kd.R_reads' HO_270002.out).2.1); rintro e w39 ⟨rfl, hb⟩; refine ⟨_, rfl, ?_⟩; have n0_ := Aside0.mk (Kd.R_below (by (with_reducible repeat (first | apply Kd.R_alloc | apply Kd.R_drewN | apply Kd.R_drew)); exact HO_270001.out) hb); have n1_ := Aside0.mk (Kd.R_below (by (with_reducible repeat (first | apply Kd.R_alloc | apply Kd.R_drewN | apply Kd.R_drew)); exact HO_270002.out) hb); have n2_ := Aside0.mk (blk_below (g := gb269) (o := .cells #[.int .i64 t261, .slice Ao12 t262.length co12, .slice Ao13 t265.length co13] 27 (0, 0)) (by (with_reducible repeat (first | refine blk_drewN ?_ _ | refine blk_drew ?_ | refine blk_alloc ?_ _)); exact BK269.out) hb); have n3_ := Aside0.mk (IsS43.below (by repeat (first | (with_reducible first | exact HI258.out | apply IsS43.alloc | apply IsS43.drewN | apply IsS43.drew | apply IsS43.set_1 | refine IsS43.far ?_ NB258_269.out _) | exact HI258.out)) hb); have n4_ := Aside0.mk (below_step (by repeat (first | (with_reducible first | exact HB.out | apply below_alloc | apply pw_below_drewN | apply below_drew1 | refine below_set ?_ (IsS43.ge HI258.out) | refine below_set ?_ GE269.out) | exact HB.out)) hb); clear HO_270001; clear HO_270002; clear BK269; clear HI258; clear HB; have HO_270001 := n0_; have HO_270002 := n1_; have BK269 := n2_; have HI258 := n3_; have HB := n4_; clear n0_ n1_ n2_ n3_ n4_; (try clear hb); (try clear hb2); (try clear hk); (try clear hi); have hcz40_0 : w39.cell? ⟨gb269, 0, none⟩ = some (.int .i64 t261) := (blk_cell BK269.out 0).trans rfl; have hcz40_1 : w39.cell? ⟨gb269, 1, none⟩ = some (.slice Ao12 t262.length co12) := (blk_cell BK269.out 1).trans rfl; have hcz40_2 : w39.cell? ⟨gb269, 2, none⟩ = some (.slice Ao13 t265.length co13) := (blk_cell BK269.out 2).trans rfl; have hfz40_0 := blk_frozen BK269.out 0; have hfz40_1 := blk_frozen BK269.out 1; have hfz40_2 := blk_frozen BK269.out 2) | (go_at_call 11; (with_reducible refine (threshold_Satisfied.calls k1 t261 _ _ t262 _ _ t265 (Go.bits .or .i64 t272 t274) true _ ?side1 ?side2 ?side3 ?side4 A23.out).mono ?_); (case side1 => repeat (first | exact (Kd.R_reads' HO_270001.out).2.2 | (with_reducible refine Kd.C_alloc ?_ _) | (with_reducible refine Kd.C_drewN ?_ _) | (with_reducible refine Kd.C_drew ?_))); (case side2 => exact (Kd.R_reads' HO_270001.out).2.1); (case side3 => repeat (first | exact (Kd.R_reads' HO_270002.out).2.2 | (with_reducible refine Kd.C_alloc ?_ _) | (with_reducible refine Kd.C_drewN ?_ _) | (with_reducible refine Kd.C_drew ?_))); (case side4 => exact (Kd.R_reads' HO_270002.out).2.1); rintro e w41 ⟨rfl, hb⟩; have n0_ := Aside0.mk (Kd.R_below (by (with_reducible repeat (first | apply Kd.R_alloc | apply Kd.R_drewN | apply Kd.R_drew)); exact HO_270001.out) hb); have n1_ := Aside0.mk (Kd.R_below (by (with_reducible repeat (first | apply Kd.R_alloc | apply Kd.R_drewN | apply Kd.R_drew)); exact HO_270002.out) hb); have n2_ := Aside0.mk (blk_below (g := gb269) (o := .cells #[.int .i64 t261, .slice Ao12 t262.length co12, .slice Ao13 t265.length co13] 27 (0, 0)) (by (with_reducible repeat (first | refine blk_drewN ?_ _ | refine blk_drew ?_ | refine blk_alloc ?_ _)); exact BK269.out) hb); have n3_ := Aside0.mk (IsS43.below (by repeat (first | (with_reducible first | exact HI258.out | apply IsS43.alloc | apply IsS43.drewN | apply IsS43.drew | apply IsS43.set_1 | refine IsS43.far ?_ NB258_269.out _) | exact HI258.out)) hb); have n4_ := Aside0.mk (below_step (by repeat (first | (with_reducible first | exact HB.out | apply below_alloc | apply pw_below_drewN | apply below_drew1 | refine below_set ?_ (IsS43.ge HI258.out) | refine below_set ?_ GE269.out) | exact HB.out)) hb); clear HO_270001; clear HO_270002; clear BK269; clear HI258; clear HB; have HO_270001 := n0_; have HO_270002 := n1_; have BK269 := n2_; have HI258 := n3_; have HB := n4_; clear n0_ n1_ n2_ n3_ n4_; (try clear hb); (try clear hb2); (try clear hk); (try clear hi); have hcz42_0 : w41.cell? ⟨gb269, 0, none⟩ = some (.int .i64 t261) := (blk_cell BK269.out 0).trans rfl; have hcz42_1 : w41.cell? ⟨gb269, 1, none⟩ = some (.slice Ao12 t262.length co12) := (blk_cell BK269.out 1).trans rfl; have hcz42_2 : w41.cell? ⟨gb269, 2, none⟩ = some (.slice Ao13 t265.length co13) := (blk_cell BK269.out 2).trans rfl; have hfz42_0 := blk_frozen BK269.out 0; have hfz42_1 := blk_frozen BK269.out 1; have hfz42_2 := blk_frozen BK269.out 2) | (go_at_call 12; (with_reducible refine (threshold_Blocked.calls k1 t261 _ _ t262 _ _ t265 t272 false _ ?side1 ?side2 ?side3 ?side4 A25.out).mono ?_); (case side1 => repeat (first | exact (Kd.R_reads' HO_270001.out).2.2 | (with_reducible refine Kd.C_alloc ?_ _) | (with_reducible refine Kd.C_drewN ?_ _) | (with_reducible refine Kd.C_drew ?_))); (case side2 => exact (Kd.R_reads' HO_270001.out).2.1); (case side3 => repeat (first | exact (Kd.R_reads' HO_270002.out).2.2 | (with_reducible refine Kd.C_alloc ?_ _) | (with_reducible refine Kd.C_drewN ?_ _) | (with_reducible refine Kd.C_drew ?_))); (case side4 => exact (Kd.R_reads' HO_270002.out).2.1); rintro e w43 ⟨rfl, hb⟩; have n0_ := Aside0.mk (Kd.R_below (by (with_reducible repeat (first | apply Kd.R_alloc | apply Kd.R_drewN | apply Kd.R_drew)); exact HO_270001.out) hb); have n1_ := Aside0.mk (Kd.R_below (by (with_reducible repeat (first | apply Kd.R_alloc | apply Kd.R_drewN | apply Kd.R_drew)); exact HO_270002.out) hb); have n2_ := Aside0.mk (blk_below (g := gb269) (o := .cells #[.int .i64 t261, .slice Ao12 t262.length co12, .slice Ao13 t265.length co13] 27 (0, 0)) (by (with_reducible repeat (first | refine blk_drewN ?_ _ | refine blk_drew ?_ | refine blk_alloc ?_ _)); exact BK269.out) hb); have n3_ := Aside0.mk (IsS43.below (by repeat (first | (with_reducible first | exact HI258.out | apply IsS43.alloc | apply IsS43.drewN | apply IsS43.drew | apply IsS43.set_1 | refine IsS43.far ?_ NB258_269.out _) | exact HI258.out)) hb); have n4_ := Aside0.mk (below_step (by repeat (first | (with_reducible first | exact HB.out | apply below_alloc | apply pw_below_drewN | apply below_drew1 | refine below_set ?_ (IsS43.ge HI258.out) | refine below_set ?_ GE269.out) | exact HB.out)) hb); clear HO_270001; clear HO_270002; clear BK269; clear HI258; clear HB; have HO_270001 := n0_; have HO_270002 := n1_; have BK269 := n2_; have HI258 := n3_; have HB := n4_; clear n0_ n1_ n2_ n3_ n4_; (try clear hb); (try clear hb2); (try clear hk); (try clear hi)))
                go_meet
                case rel => exact ⟨_, (false), (by first | rfl | (simp; done) | (simp [*]; done)), H', ⟨by have := HK1.out; first | omega | exact Nat.le_refl _⟩, ⟨by (with_reducible repeat (first | apply Kd.R_alloc | apply Kd.R_drewN | apply Kd.R_drew)); exact HO_270001.out⟩, ⟨by (with_reducible repeat (first | apply Kd.R_alloc | apply Kd.R_drewN | apply Kd.R_drew)); exact HO_270002.out⟩, ⟨by (with_reducible repeat (first | refine blk_drewN ?_ _ | refine blk_drew ?_ | refine blk_alloc ?_ _)); exact BK269.out⟩, ⟨by repeat (first | (with_reducible first | exact HI258.out | apply IsS43.alloc | apply IsS43.drewN | apply IsS43.drew | apply IsS43.set_1 | refine IsS43.far ?_ NB258_269.out _) | exact HI258.out)⟩, ⟨by repeat (first | (with_reducible first | exact HB.out | apply below_alloc | apply pw_below_drewN | apply below_drew1 | refine below_set ?_ (IsS43.ge HI258.out) | refine below_set ?_ GE269.out) | exact HB.out)⟩⟩
            · replace c24 := Bool.eq_false_iff.mpr c24
              subst c24
              have H1 : (trustquorumlaw02_ThresholdGrows.j1 k1 t270 x6_1 t272 true t256 t275 t261 t262 t265) = some r := by rw [if_neg (show ¬ (false = true) by decide)] at H; exact H
              clear H
              have H := H1
              clear H1
              have H' := Aside0.mk H
              clear H
              have hnb44 := NB269_258.out
              have hnc44 := NB258_269.out
              have hcz45_0 : w20.cell? ⟨gb269, 0, none⟩ = some (.int .i64 t261) := (blk_cell BK269.out 0).trans rfl
              have hcz45_1 : w20.cell? ⟨gb269, 1, none⟩ = some (.slice Ao12 t262.length co12) := (blk_cell BK269.out 1).trans rfl
              have hcz45_2 : w20.cell? ⟨gb269, 2, none⟩ = some (.slice Ao13 t265.length co13) := (blk_cell BK269.out 2).trans rfl
              have hfz45_0 := blk_frozen BK269.out 0
              have hfz45_1 := blk_frozen BK269.out 1
              have hfz45_2 := blk_frozen BK269.out 2
              go_wp2_with (first | ((with_reducible refine gate_callee (f := 11) rfl ?_); refine goesL_ (some 29) rfl rfl Try.func11 (by kernel_rfl) rfl #[.agg #[.int .i64 t261, .slice Ao12 t262.length co12, .slice Ao13 t265.length co13], .int .i64 t272] rfl (by (try simp only [List.map_toArray, List.map_cons, List.map_nil]); first | done | rfl | (simp only [List.length_drop, List.length_take]; rfl)) ?_; (with_reducible refine (threshold_Satisfied.calls k1 t261 _ _ t262 _ _ t265 t272 true _ ?side1 ?side2 ?side3 ?side4 A21.out).mono ?_); (case side1 => repeat (first | exact (Kd.R_reads' HO_270001.out).2.2 | (with_reducible refine Kd.C_alloc ?_ _) | (with_reducible refine Kd.C_drewN ?_ _) | (with_reducible refine Kd.C_drew ?_))); (case side2 => exact (Kd.R_reads' HO_270001.out).2.1); (case side3 => repeat (first | exact (Kd.R_reads' HO_270002.out).2.2 | (with_reducible refine Kd.C_alloc ?_ _) | (with_reducible refine Kd.C_drewN ?_ _) | (with_reducible refine Kd.C_drew ?_))); (case side4 => exact (Kd.R_reads' HO_270002.out).2.1); rintro e w46 ⟨rfl, hb⟩; refine ⟨_, rfl, ?_⟩; have n0_ := Aside0.mk (Kd.R_below (by (with_reducible repeat (first | apply Kd.R_alloc | apply Kd.R_drewN | apply Kd.R_drew)); exact HO_270001.out) hb); have n1_ := Aside0.mk (Kd.R_below (by (with_reducible repeat (first | apply Kd.R_alloc | apply Kd.R_drewN | apply Kd.R_drew)); exact HO_270002.out) hb); have n2_ := Aside0.mk (blk_below (g := gb269) (o := .cells #[.int .i64 t261, .slice Ao12 t262.length co12, .slice Ao13 t265.length co13] 27 (0, 0)) (by (with_reducible repeat (first | refine blk_drewN ?_ _ | refine blk_drew ?_ | refine blk_alloc ?_ _)); exact BK269.out) hb); have n3_ := Aside0.mk (IsS43.below (by repeat (first | (with_reducible first | exact HI258.out | apply IsS43.alloc | apply IsS43.drewN | apply IsS43.drew | apply IsS43.set_1 | refine IsS43.far ?_ NB258_269.out _) | exact HI258.out)) hb); have n4_ := Aside0.mk (below_step (by repeat (first | (with_reducible first | exact HB.out | apply below_alloc | apply pw_below_drewN | apply below_drew1 | refine below_set ?_ (IsS43.ge HI258.out) | refine below_set ?_ GE269.out) | exact HB.out)) hb); clear HO_270001; clear HO_270002; clear BK269; clear HI258; clear HB; have HO_270001 := n0_; have HO_270002 := n1_; have BK269 := n2_; have HI258 := n3_; have HB := n4_; clear n0_ n1_ n2_ n3_ n4_; (try clear hb); (try clear hb2); (try clear hk); (try clear hi); have hcz47_0 : w46.cell? ⟨gb269, 0, none⟩ = some (.int .i64 t261) := (blk_cell BK269.out 0).trans rfl; have hcz47_1 : w46.cell? ⟨gb269, 1, none⟩ = some (.slice Ao12 t262.length co12) := (blk_cell BK269.out 1).trans rfl; have hcz47_2 : w46.cell? ⟨gb269, 2, none⟩ = some (.slice Ao13 t265.length co13) := (blk_cell BK269.out 2).trans rfl; have hfz47_0 := blk_frozen BK269.out 0; have hfz47_1 := blk_frozen BK269.out 1; have hfz47_2 := blk_frozen BK269.out 2) | (go_at_call 11; (with_reducible refine (threshold_Satisfied.calls k1 t261 _ _ t262 _ _ t265 (Go.bits .or .i64 t272 t274) false _ ?side1 ?side2 ?side3 ?side4 A23.out).mono ?_); (case side1 => repeat (first | exact (Kd.R_reads' HO_270001.out).2.2 | (with_reducible refine Kd.C_alloc ?_ _) | (with_reducible refine Kd.C_drewN ?_ _) | (with_reducible refine Kd.C_drew ?_))); (case side2 => exact (Kd.R_reads' HO_270001.out).2.1); (case side3 => repeat (first | exact (Kd.R_reads' HO_270002.out).2.2 | (with_reducible refine Kd.C_alloc ?_ _) | (with_reducible refine Kd.C_drewN ?_ _) | (with_reducible refine Kd.C_drew ?_))); (case side4 => exact (Kd.R_reads' HO_270002.out).2.1); rintro e w48 ⟨rfl, hb⟩; have n0_ := Aside0.mk (Kd.R_below (by (with_reducible repeat (first | apply Kd.R_alloc | apply Kd.R_drewN | apply Kd.R_drew)); exact HO_270001.out) hb); have n1_ := Aside0.mk (Kd.R_below (by (with_reducible repeat (first | apply Kd.R_alloc | apply Kd.R_drewN | apply Kd.R_drew)); exact HO_270002.out) hb); have n2_ := Aside0.mk (blk_below (g := gb269) (o := .cells #[.int .i64 t261, .slice Ao12 t262.length co12, .slice Ao13 t265.length co13] 27 (0, 0)) (by (with_reducible repeat (first | refine blk_drewN ?_ _ | refine blk_drew ?_ | refine blk_alloc ?_ _)); exact BK269.out) hb); have n3_ := Aside0.mk (IsS43.below (by repeat (first | (with_reducible first | exact HI258.out | apply IsS43.alloc | apply IsS43.drewN | apply IsS43.drew | apply IsS43.set_1 | refine IsS43.far ?_ NB258_269.out _) | exact HI258.out)) hb); have n4_ := Aside0.mk (below_step (by repeat (first | (with_reducible first | exact HB.out | apply below_alloc | apply pw_below_drewN | apply below_drew1 | refine below_set ?_ (IsS43.ge HI258.out) | refine below_set ?_ GE269.out) | exact HB.out)) hb); clear HO_270001; clear HO_270002; clear BK269; clear HI258; clear HB; have HO_270001 := n0_; have HO_270002 := n1_; have BK269 := n2_; have HI258 := n3_; have HB := n4_; clear n0_ n1_ n2_ n3_ n4_; (try clear hb); (try clear hb2); (try clear hk); (try clear hi)))
              go_meet
              case rel => exact ⟨_, (true), (by first | rfl | (simp; done) | (simp [*]; done)), H', ⟨by have := HK1.out; first | omega | exact Nat.le_refl _⟩, ⟨by (with_reducible repeat (first | apply Kd.R_alloc | apply Kd.R_drewN | apply Kd.R_drew)); exact HO_270001.out⟩, ⟨by (with_reducible repeat (first | apply Kd.R_alloc | apply Kd.R_drewN | apply Kd.R_drew)); exact HO_270002.out⟩, ⟨by (with_reducible repeat (first | refine blk_drewN ?_ _ | refine blk_drew ?_ | refine blk_alloc ?_ _)); exact BK269.out⟩, ⟨by repeat (first | (with_reducible first | exact HI258.out | apply IsS43.alloc | apply IsS43.drewN | apply IsS43.drew | apply IsS43.set_1 | refine IsS43.far ?_ NB258_269.out _) | exact HI258.out)⟩, ⟨by repeat (first | (with_reducible first | exact HB.out | apply below_alloc | apply pw_below_drewN | apply below_drew1 | refine below_set ?_ (IsS43.ge HI258.out) | refine below_set ?_ GE269.out) | exact HB.out)⟩⟩
          · replace c22 := Bool.eq_false_iff.mpr c22
            subst c22
            have H1 : ((threshold_Blocked.f k1 t261 t262 t265 t272).bind fun t280 => (if t280 = true then ((threshold_Blocked.f k1 t261 t262 t265 (Go.bits .or .i64 t272 t274)).bind fun t281 => (trustquorumlaw02_ThresholdGrows.j1 k1 t270 x6_1 t272 (!t281) t256 t275 t261 t262 t265)) else (trustquorumlaw02_ThresholdGrows.j1 k1 t270 x6_1 t272 false t256 t275 t261 t262 t265))) = some r := by rw [if_neg (show ¬ (false = true) by decide)] at H; exact H
            clear H
            have H := H1
            clear H1
            replace H := Option.bind_eq_some_iff.mp H
            obtain ⟨t280, A490, H⟩ := H
            replace H : (if t280 = true then ((threshold_Blocked.f k1 t261 t262 t265 (Go.bits .or .i64 t272 t274)).bind fun t281 => (trustquorumlaw02_ThresholdGrows.j1 k1 t270 x6_1 t272 (!t281) t256 t275 t261 t262 t265)) else (trustquorumlaw02_ThresholdGrows.j1 k1 t270 x6_1 t272 false t256 t275 t261 t262 t265)) = some r := H
            have A49 := Aside0.mk A490
            clear A490
            by_cases c50 : t280 = true
            · subst c50
              have H1 : ((threshold_Blocked.f k1 t261 t262 t265 (Go.bits .or .i64 t272 t274)).bind fun t281 => (trustquorumlaw02_ThresholdGrows.j1 k1 t270 x6_1 t272 (!t281) t256 t275 t261 t262 t265)) = some r := by rw [if_pos rfl] at H; exact H
              clear H
              have H := H1
              clear H1
              replace H := Option.bind_eq_some_iff.mp H
              obtain ⟨t281, A510, H⟩ := H
              replace H : (trustquorumlaw02_ThresholdGrows.j1 k1 t270 x6_1 t272 (!t281) t256 t275 t261 t262 t265) = some r := H
              have A51 := Aside0.mk A510
              clear A510
              have H' := Aside0.mk H
              clear H
              have hnb52 := NB269_258.out
              have hnc52 := NB258_269.out
              have hcz53_0 : w20.cell? ⟨gb269, 0, none⟩ = some (.int .i64 t261) := (blk_cell BK269.out 0).trans rfl
              have hcz53_1 : w20.cell? ⟨gb269, 1, none⟩ = some (.slice Ao12 t262.length co12) := (blk_cell BK269.out 1).trans rfl
              have hcz53_2 : w20.cell? ⟨gb269, 2, none⟩ = some (.slice Ao13 t265.length co13) := (blk_cell BK269.out 2).trans rfl
              have hfz53_0 := blk_frozen BK269.out 0
              have hfz53_1 := blk_frozen BK269.out 1
              have hfz53_2 := blk_frozen BK269.out 2
              go_wp2_with (first | ((with_reducible refine gate_callee (f := 11) rfl ?_); refine goesL_ (some 29) rfl rfl Try.func11 (by kernel_rfl) rfl #[.agg #[.int .i64 t261, .slice Ao12 t262.length co12, .slice Ao13 t265.length co13], .int .i64 t272] rfl (by (try simp only [List.map_toArray, List.map_cons, List.map_nil]); first | done | rfl | (simp only [List.length_drop, List.length_take]; rfl)) ?_; (with_reducible refine (threshold_Satisfied.calls k1 t261 _ _ t262 _ _ t265 t272 false _ ?side1 ?side2 ?side3 ?side4 A21.out).mono ?_); (case side1 => repeat (first | exact (Kd.R_reads' HO_270001.out).2.2 | (with_reducible refine Kd.C_alloc ?_ _) | (with_reducible refine Kd.C_drewN ?_ _) | (with_reducible refine Kd.C_drew ?_))); (case side2 => exact (Kd.R_reads' HO_270001.out).2.1); (case side3 => repeat (first | exact (Kd.R_reads' HO_270002.out).2.2 | (with_reducible refine Kd.C_alloc ?_ _) | (with_reducible refine Kd.C_drewN ?_ _) | (with_reducible refine Kd.C_drew ?_))); (case side4 => exact (Kd.R_reads' HO_270002.out).2.1); rintro e w54 ⟨rfl, hb⟩; refine ⟨_, rfl, ?_⟩; have n0_ := Aside0.mk (Kd.R_below (by (with_reducible repeat (first | apply Kd.R_alloc | apply Kd.R_drewN | apply Kd.R_drew)); exact HO_270001.out) hb); have n1_ := Aside0.mk (Kd.R_below (by (with_reducible repeat (first | apply Kd.R_alloc | apply Kd.R_drewN | apply Kd.R_drew)); exact HO_270002.out) hb); have n2_ := Aside0.mk (blk_below (g := gb269) (o := .cells #[.int .i64 t261, .slice Ao12 t262.length co12, .slice Ao13 t265.length co13] 27 (0, 0)) (by (with_reducible repeat (first | refine blk_drewN ?_ _ | refine blk_drew ?_ | refine blk_alloc ?_ _)); exact BK269.out) hb); have n3_ := Aside0.mk (IsS43.below (by repeat (first | (with_reducible first | exact HI258.out | apply IsS43.alloc | apply IsS43.drewN | apply IsS43.drew | apply IsS43.set_1 | refine IsS43.far ?_ NB258_269.out _) | exact HI258.out)) hb); have n4_ := Aside0.mk (below_step (by repeat (first | (with_reducible first | exact HB.out | apply below_alloc | apply pw_below_drewN | apply below_drew1 | refine below_set ?_ (IsS43.ge HI258.out) | refine below_set ?_ GE269.out) | exact HB.out)) hb); clear HO_270001; clear HO_270002; clear BK269; clear HI258; clear HB; have HO_270001 := n0_; have HO_270002 := n1_; have BK269 := n2_; have HI258 := n3_; have HB := n4_; clear n0_ n1_ n2_ n3_ n4_; (try clear hb); (try clear hb2); (try clear hk); (try clear hi); have hcz55_0 : w54.cell? ⟨gb269, 0, none⟩ = some (.int .i64 t261) := (blk_cell BK269.out 0).trans rfl; have hcz55_1 : w54.cell? ⟨gb269, 1, none⟩ = some (.slice Ao12 t262.length co12) := (blk_cell BK269.out 1).trans rfl; have hcz55_2 : w54.cell? ⟨gb269, 2, none⟩ = some (.slice Ao13 t265.length co13) := (blk_cell BK269.out 2).trans rfl; have hfz55_0 := blk_frozen BK269.out 0; have hfz55_1 := blk_frozen BK269.out 1; have hfz55_2 := blk_frozen BK269.out 2) | (go_at_call 12; (with_reducible refine (threshold_Blocked.calls k1 t261 _ _ t262 _ _ t265 t272 true _ ?side1 ?side2 ?side3 ?side4 A49.out).mono ?_); (case side1 => repeat (first | exact (Kd.R_reads' HO_270001.out).2.2 | (with_reducible refine Kd.C_alloc ?_ _) | (with_reducible refine Kd.C_drewN ?_ _) | (with_reducible refine Kd.C_drew ?_))); (case side2 => exact (Kd.R_reads' HO_270001.out).2.1); (case side3 => repeat (first | exact (Kd.R_reads' HO_270002.out).2.2 | (with_reducible refine Kd.C_alloc ?_ _) | (with_reducible refine Kd.C_drewN ?_ _) | (with_reducible refine Kd.C_drew ?_))); (case side4 => exact (Kd.R_reads' HO_270002.out).2.1); rintro e w56 ⟨rfl, hb⟩; have n0_ := Aside0.mk (Kd.R_below (by (with_reducible repeat (first | apply Kd.R_alloc | apply Kd.R_drewN | apply Kd.R_drew)); exact HO_270001.out) hb); have n1_ := Aside0.mk (Kd.R_below (by (with_reducible repeat (first | apply Kd.R_alloc | apply Kd.R_drewN | apply Kd.R_drew)); exact HO_270002.out) hb); have n2_ := Aside0.mk (blk_below (g := gb269) (o := .cells #[.int .i64 t261, .slice Ao12 t262.length co12, .slice Ao13 t265.length co13] 27 (0, 0)) (by (with_reducible repeat (first | refine blk_drewN ?_ _ | refine blk_drew ?_ | refine blk_alloc ?_ _)); exact BK269.out) hb); have n3_ := Aside0.mk (IsS43.below (by repeat (first | (with_reducible first | exact HI258.out | apply IsS43.alloc | apply IsS43.drewN | apply IsS43.drew | apply IsS43.set_1 | refine IsS43.far ?_ NB258_269.out _) | exact HI258.out)) hb); have n4_ := Aside0.mk (below_step (by repeat (first | (with_reducible first | exact HB.out | apply below_alloc | apply pw_below_drewN | apply below_drew1 | refine below_set ?_ (IsS43.ge HI258.out) | refine below_set ?_ GE269.out) | exact HB.out)) hb); clear HO_270001; clear HO_270002; clear BK269; clear HI258; clear HB; have HO_270001 := n0_; have HO_270002 := n1_; have BK269 := n2_; have HI258 := n3_; have HB := n4_; clear n0_ n1_ n2_ n3_ n4_; (try clear hb); (try clear hb2); (try clear hk); (try clear hi); have hcz57_0 : w56.cell? ⟨gb269, 0, none⟩ = some (.int .i64 t261) := (blk_cell BK269.out 0).trans rfl; have hcz57_1 : w56.cell? ⟨gb269, 1, none⟩ = some (.slice Ao12 t262.length co12) := (blk_cell BK269.out 1).trans rfl; have hcz57_2 : w56.cell? ⟨gb269, 2, none⟩ = some (.slice Ao13 t265.length co13) := (blk_cell BK269.out 2).trans rfl; have hfz57_0 := blk_frozen BK269.out 0; have hfz57_1 := blk_frozen BK269.out 1; have hfz57_2 := blk_frozen BK269.out 2) | (go_at_call 12; (with_reducible refine (threshold_Blocked.calls k1 t261 _ _ t262 _ _ t265 (Go.bits .or .i64 t272 t274) t281 _ ?side1 ?side2 ?side3 ?side4 A51.out).mono ?_); (case side1 => repeat (first | exact (Kd.R_reads' HO_270001.out).2.2 | (with_reducible refine Kd.C_alloc ?_ _) | (with_reducible refine Kd.C_drewN ?_ _) | (with_reducible refine Kd.C_drew ?_))); (case side2 => exact (Kd.R_reads' HO_270001.out).2.1); (case side3 => repeat (first | exact (Kd.R_reads' HO_270002.out).2.2 | (with_reducible refine Kd.C_alloc ?_ _) | (with_reducible refine Kd.C_drewN ?_ _) | (with_reducible refine Kd.C_drew ?_))); (case side4 => exact (Kd.R_reads' HO_270002.out).2.1); rintro e w58 ⟨rfl, hb⟩; have n0_ := Aside0.mk (Kd.R_below (by (with_reducible repeat (first | apply Kd.R_alloc | apply Kd.R_drewN | apply Kd.R_drew)); exact HO_270001.out) hb); have n1_ := Aside0.mk (Kd.R_below (by (with_reducible repeat (first | apply Kd.R_alloc | apply Kd.R_drewN | apply Kd.R_drew)); exact HO_270002.out) hb); have n2_ := Aside0.mk (blk_below (g := gb269) (o := .cells #[.int .i64 t261, .slice Ao12 t262.length co12, .slice Ao13 t265.length co13] 27 (0, 0)) (by (with_reducible repeat (first | refine blk_drewN ?_ _ | refine blk_drew ?_ | refine blk_alloc ?_ _)); exact BK269.out) hb); have n3_ := Aside0.mk (IsS43.below (by repeat (first | (with_reducible first | exact HI258.out | apply IsS43.alloc | apply IsS43.drewN | apply IsS43.drew | apply IsS43.set_1 | refine IsS43.far ?_ NB258_269.out _) | exact HI258.out)) hb); have n4_ := Aside0.mk (below_step (by repeat (first | (with_reducible first | exact HB.out | apply below_alloc | apply pw_below_drewN | apply below_drew1 | refine below_set ?_ (IsS43.ge HI258.out) | refine below_set ?_ GE269.out) | exact HB.out)) hb); clear HO_270001; clear HO_270002; clear BK269; clear HI258; clear HB; have HO_270001 := n0_; have HO_270002 := n1_; have BK269 := n2_; have HI258 := n3_; have HB := n4_; clear n0_ n1_ n2_ n3_ n4_; (try clear hb); (try clear hb2); (try clear hk); (try clear hi)))
              go_meet
              case rel => exact ⟨_, (!t281), (by first | rfl | (simp; done) | (simp [*]; done)), H', ⟨by have := HK1.out; first | omega | exact Nat.le_refl _⟩, ⟨by (with_reducible repeat (first | apply Kd.R_alloc | apply Kd.R_drewN | apply Kd.R_drew)); exact HO_270001.out⟩, ⟨by (with_reducible repeat (first | apply Kd.R_alloc | apply Kd.R_drewN | apply Kd.R_drew)); exact HO_270002.out⟩, ⟨by (with_reducible repeat (first | refine blk_drewN ?_ _ | refine blk_drew ?_ | refine blk_alloc ?_ _)); exact BK269.out⟩, ⟨by repeat (first | (with_reducible first | exact HI258.out | apply IsS43.alloc | apply IsS43.drewN | apply IsS43.drew | apply IsS43.set_1 | refine IsS43.far ?_ NB258_269.out _) | exact HI258.out)⟩, ⟨by repeat (first | (with_reducible first | exact HB.out | apply below_alloc | apply pw_below_drewN | apply below_drew1 | refine below_set ?_ (IsS43.ge HI258.out) | refine below_set ?_ GE269.out) | exact HB.out)⟩⟩
            · replace c50 := Bool.eq_false_iff.mpr c50
              subst c50
              have H1 : (trustquorumlaw02_ThresholdGrows.j1 k1 t270 x6_1 t272 false t256 t275 t261 t262 t265) = some r := by rw [if_neg (show ¬ (false = true) by decide)] at H; exact H
              clear H
              have H := H1
              clear H1
              have H' := Aside0.mk H
              clear H
              have hnb59 := NB269_258.out
              have hnc59 := NB258_269.out
              have hcz60_0 : w20.cell? ⟨gb269, 0, none⟩ = some (.int .i64 t261) := (blk_cell BK269.out 0).trans rfl
              have hcz60_1 : w20.cell? ⟨gb269, 1, none⟩ = some (.slice Ao12 t262.length co12) := (blk_cell BK269.out 1).trans rfl
              have hcz60_2 : w20.cell? ⟨gb269, 2, none⟩ = some (.slice Ao13 t265.length co13) := (blk_cell BK269.out 2).trans rfl
              have hfz60_0 := blk_frozen BK269.out 0
              have hfz60_1 := blk_frozen BK269.out 1
              have hfz60_2 := blk_frozen BK269.out 2
              go_wp2_with (first | ((with_reducible refine gate_callee (f := 11) rfl ?_); refine goesL_ (some 29) rfl rfl Try.func11 (by kernel_rfl) rfl #[.agg #[.int .i64 t261, .slice Ao12 t262.length co12, .slice Ao13 t265.length co13], .int .i64 t272] rfl (by (try simp only [List.map_toArray, List.map_cons, List.map_nil]); first | done | rfl | (simp only [List.length_drop, List.length_take]; rfl)) ?_; (with_reducible refine (threshold_Satisfied.calls k1 t261 _ _ t262 _ _ t265 t272 false _ ?side1 ?side2 ?side3 ?side4 A21.out).mono ?_); (case side1 => repeat (first | exact (Kd.R_reads' HO_270001.out).2.2 | (with_reducible refine Kd.C_alloc ?_ _) | (with_reducible refine Kd.C_drewN ?_ _) | (with_reducible refine Kd.C_drew ?_))); (case side2 => exact (Kd.R_reads' HO_270001.out).2.1); (case side3 => repeat (first | exact (Kd.R_reads' HO_270002.out).2.2 | (with_reducible refine Kd.C_alloc ?_ _) | (with_reducible refine Kd.C_drewN ?_ _) | (with_reducible refine Kd.C_drew ?_))); (case side4 => exact (Kd.R_reads' HO_270002.out).2.1); rintro e w61 ⟨rfl, hb⟩; refine ⟨_, rfl, ?_⟩; have n0_ := Aside0.mk (Kd.R_below (by (with_reducible repeat (first | apply Kd.R_alloc | apply Kd.R_drewN | apply Kd.R_drew)); exact HO_270001.out) hb); have n1_ := Aside0.mk (Kd.R_below (by (with_reducible repeat (first | apply Kd.R_alloc | apply Kd.R_drewN | apply Kd.R_drew)); exact HO_270002.out) hb); have n2_ := Aside0.mk (blk_below (g := gb269) (o := .cells #[.int .i64 t261, .slice Ao12 t262.length co12, .slice Ao13 t265.length co13] 27 (0, 0)) (by (with_reducible repeat (first | refine blk_drewN ?_ _ | refine blk_drew ?_ | refine blk_alloc ?_ _)); exact BK269.out) hb); have n3_ := Aside0.mk (IsS43.below (by repeat (first | (with_reducible first | exact HI258.out | apply IsS43.alloc | apply IsS43.drewN | apply IsS43.drew | apply IsS43.set_1 | refine IsS43.far ?_ NB258_269.out _) | exact HI258.out)) hb); have n4_ := Aside0.mk (below_step (by repeat (first | (with_reducible first | exact HB.out | apply below_alloc | apply pw_below_drewN | apply below_drew1 | refine below_set ?_ (IsS43.ge HI258.out) | refine below_set ?_ GE269.out) | exact HB.out)) hb); clear HO_270001; clear HO_270002; clear BK269; clear HI258; clear HB; have HO_270001 := n0_; have HO_270002 := n1_; have BK269 := n2_; have HI258 := n3_; have HB := n4_; clear n0_ n1_ n2_ n3_ n4_; (try clear hb); (try clear hb2); (try clear hk); (try clear hi); have hcz62_0 : w61.cell? ⟨gb269, 0, none⟩ = some (.int .i64 t261) := (blk_cell BK269.out 0).trans rfl; have hcz62_1 : w61.cell? ⟨gb269, 1, none⟩ = some (.slice Ao12 t262.length co12) := (blk_cell BK269.out 1).trans rfl; have hcz62_2 : w61.cell? ⟨gb269, 2, none⟩ = some (.slice Ao13 t265.length co13) := (blk_cell BK269.out 2).trans rfl; have hfz62_0 := blk_frozen BK269.out 0; have hfz62_1 := blk_frozen BK269.out 1; have hfz62_2 := blk_frozen BK269.out 2) | (go_at_call 12; (with_reducible refine (threshold_Blocked.calls k1 t261 _ _ t262 _ _ t265 t272 false _ ?side1 ?side2 ?side3 ?side4 A49.out).mono ?_); (case side1 => repeat (first | exact (Kd.R_reads' HO_270001.out).2.2 | (with_reducible refine Kd.C_alloc ?_ _) | (with_reducible refine Kd.C_drewN ?_ _) | (with_reducible refine Kd.C_drew ?_))); (case side2 => exact (Kd.R_reads' HO_270001.out).2.1); (case side3 => repeat (first | exact (Kd.R_reads' HO_270002.out).2.2 | (with_reducible refine Kd.C_alloc ?_ _) | (with_reducible refine Kd.C_drewN ?_ _) | (with_reducible refine Kd.C_drew ?_))); (case side4 => exact (Kd.R_reads' HO_270002.out).2.1); rintro e w63 ⟨rfl, hb⟩; have n0_ := Aside0.mk (Kd.R_below (by (with_reducible repeat (first | apply Kd.R_alloc | apply Kd.R_drewN | apply Kd.R_drew)); exact HO_270001.out) hb); have n1_ := Aside0.mk (Kd.R_below (by (with_reducible repeat (first | apply Kd.R_alloc | apply Kd.R_drewN | apply Kd.R_drew)); exact HO_270002.out) hb); have n2_ := Aside0.mk (blk_below (g := gb269) (o := .cells #[.int .i64 t261, .slice Ao12 t262.length co12, .slice Ao13 t265.length co13] 27 (0, 0)) (by (with_reducible repeat (first | refine blk_drewN ?_ _ | refine blk_drew ?_ | refine blk_alloc ?_ _)); exact BK269.out) hb); have n3_ := Aside0.mk (IsS43.below (by repeat (first | (with_reducible first | exact HI258.out | apply IsS43.alloc | apply IsS43.drewN | apply IsS43.drew | apply IsS43.set_1 | refine IsS43.far ?_ NB258_269.out _) | exact HI258.out)) hb); have n4_ := Aside0.mk (below_step (by repeat (first | (with_reducible first | exact HB.out | apply below_alloc | apply pw_below_drewN | apply below_drew1 | refine below_set ?_ (IsS43.ge HI258.out) | refine below_set ?_ GE269.out) | exact HB.out)) hb); clear HO_270001; clear HO_270002; clear BK269; clear HI258; clear HB; have HO_270001 := n0_; have HO_270002 := n1_; have BK269 := n2_; have HI258 := n3_; have HB := n4_; clear n0_ n1_ n2_ n3_ n4_; (try clear hb); (try clear hb2); (try clear hk); (try clear hi)))
              go_meet
              case rel => exact ⟨_, (false), (by first | rfl | (simp; done) | (simp [*]; done)), H', ⟨by have := HK1.out; first | omega | exact Nat.le_refl _⟩, ⟨by (with_reducible repeat (first | apply Kd.R_alloc | apply Kd.R_drewN | apply Kd.R_drew)); exact HO_270001.out⟩, ⟨by (with_reducible repeat (first | apply Kd.R_alloc | apply Kd.R_drewN | apply Kd.R_drew)); exact HO_270002.out⟩, ⟨by (with_reducible repeat (first | refine blk_drewN ?_ _ | refine blk_drew ?_ | refine blk_alloc ?_ _)); exact BK269.out⟩, ⟨by repeat (first | (with_reducible first | exact HI258.out | apply IsS43.alloc | apply IsS43.drewN | apply IsS43.drew | apply IsS43.set_1 | refine IsS43.far ?_ NB258_269.out _) | exact HI258.out)⟩, ⟨by repeat (first | (with_reducible first | exact HB.out | apply below_alloc | apply pw_below_drewN | apply below_drew1 | refine below_set ?_ (IsS43.ge HI258.out) | refine below_set ?_ GE269.out) | exact HB.out)⟩⟩
        case rest =>
          clear HC18
          try clear c1
          try clear c2
          try clear p2
          try clear c3
          try clear c4
          try clear c5
          try clear c8
          try clear c9
          try clear c10
          try clear c11
          try clear c13
          try clear c15
          try clear c15b0
          try clear c22
          try clear c24
          try clear c26
          try clear c28
          try clear c37
          try clear c44
          try clear c50
          try clear c52
          try clear c59
          try clear hcz11_0
          try clear hcz11_1
          try clear hcz11_2
          try clear hcz29_0
          try clear hcz29_1
          try clear hcz29_2
          try clear hcz31_0
          try clear hcz31_1
          try clear hcz31_2
          try clear hcz33_0
          try clear hcz33_1
          try clear hcz33_2
          try clear hcz35_0
          try clear hcz35_1
          try clear hcz35_2
          try clear hcz38_0
          try clear hcz38_1
          try clear hcz38_2
          try clear hcz40_0
          try clear hcz40_1
          try clear hcz40_2
          try clear hcz42_0
          try clear hcz42_1
          try clear hcz42_2
          try clear hcz45_0
          try clear hcz45_1
          try clear hcz45_2
          try clear hcz47_0
          try clear hcz47_1
          try clear hcz47_2
          try clear hcz53_0
          try clear hcz53_1
          try clear hcz53_2
          try clear hcz55_0
          try clear hcz55_1
          try clear hcz55_2
          try clear hcz57_0
          try clear hcz57_1
          try clear hcz57_2
          try clear hcz60_0
          try clear hcz60_1
          try clear hcz60_2
          try clear hcz62_0
          try clear hcz62_1
          try clear hcz62_2
          try clear hfz11_0
          try clear hfz11_1
          try clear hfz11_2
          try clear hfz29_0
          try clear hfz29_1
          try clear hfz29_2
          try clear hfz31_0
          try clear hfz31_1
          try clear hfz31_2
          try clear hfz33_0
          try clear hfz33_1
          try clear hfz33_2
          try clear hfz35_0
          try clear hfz35_1
          try clear hfz35_2
          try clear hfz38_0
          try clear hfz38_1
          try clear hfz38_2
          try clear hfz40_0
          try clear hfz40_1
          try clear hfz40_2
          try clear hfz42_0
          try clear hfz42_1
          try clear hfz42_2
          try clear hfz45_0
          try clear hfz45_1
          try clear hfz45_2
          try clear hfz47_0
          try clear hfz47_1
          try clear hfz47_2
          try clear hfz53_0
          try clear hfz53_1
          try clear hfz53_2
          try clear hfz55_0
          try clear hfz55_1
          try clear hfz55_2
          try clear hfz57_0
          try clear hfz57_1
          try clear hfz57_2
          try clear hfz60_0
          try clear hfz60_1
          try clear hfz60_2
          try clear hfz62_0
          try clear hfz62_1
          try clear hfz62_2
          try clear p2
          obtain ⟨kq, x46_17, rfl, HA, HJ17, HO_270001, HO_270002, BK269, HI258, HB⟩ := hcut
          cases kq with
          | zero => exact absurd HA.out (by simp [trustquorumlaw02_ThresholdGrows.j1])
          | succ kj17 =>
            have H := HA.out
            clear HA
            simp only [trustquorumlaw02_ThresholdGrows.j1] at H
            by_cases c64 : x46_17 = true
            · subst c64
              have H1 : (some false) = some r := by rw [if_pos rfl] at H; exact H
              clear H
              have H := H1
              clear H1
              obtain rfl := Option.some.inj H
              go_wp2
              go_ret
              exact ⟨by first | rfl | (simp [errW_none, errW_some] <;> rfl) | (simp [*, errW_none, errW_some] <;> rfl), by repeat (first | (with_reducible first | exact HB.out | apply below_alloc | apply pw_below_drewN | apply below_drew1 | refine below_set ?_ (IsS43.ge HI258.out) | refine below_set ?_ GE269.out) | exact HB.out)⟩
            · replace c64 := Bool.eq_false_iff.mpr c64
              subst c64
              have H1 : ((threshold_Satisfied.f kj17 t261 t262 t265 t272).bind fun t282 => ((threshold_Satisfied.f kj17 t261 t262 t265 (Go.bits .and .i64 t272 t270)).bind fun t283 => (if (t282 != t283) = true then (some false) else ((threshold_Blocked.f kj17 t261 t262 t265 t272).bind fun t284 => ((threshold_Blocked.f kj17 t261 t262 t265 (Go.bits .and .i64 t272 t270)).bind fun t285 => (if (t284 != t285) = true then (some false) else (trustquorumlaw02_ThresholdGrows.l0 kj17 t270 (wrap64 (x6_1 + 1)) t256 t275 t261 t262 t265))))))) = some r := by rw [if_neg (show ¬ (false = true) by decide)] at H; exact H
              clear H
              have H := H1
              clear H1
              replace H := Option.bind_eq_some_iff.mp H
              obtain ⟨t282, A650, H⟩ := H
              replace H : ((threshold_Satisfied.f kj17 t261 t262 t265 (Go.bits .and .i64 t272 t270)).bind fun t283 => (if (t282 != t283) = true then (some false) else ((threshold_Blocked.f kj17 t261 t262 t265 t272).bind fun t284 => ((threshold_Blocked.f kj17 t261 t262 t265 (Go.bits .and .i64 t272 t270)).bind fun t285 => (if (t284 != t285) = true then (some false) else (trustquorumlaw02_ThresholdGrows.l0 kj17 t270 (wrap64 (x6_1 + 1)) t256 t275 t261 t262 t265)))))) = some r := H
              have A65 := Aside0.mk A650
              clear A650
              replace H := Option.bind_eq_some_iff.mp H
              obtain ⟨t283, A660, H⟩ := H
              replace H : (if (t282 != t283) = true then (some false) else ((threshold_Blocked.f kj17 t261 t262 t265 t272).bind fun t284 => ((threshold_Blocked.f kj17 t261 t262 t265 (Go.bits .and .i64 t272 t270)).bind fun t285 => (if (t284 != t285) = true then (some false) else (trustquorumlaw02_ThresholdGrows.l0 kj17 t270 (wrap64 (x6_1 + 1)) t256 t275 t261 t262 t265))))) = some r := H
              have A66 := Aside0.mk A660
              clear A660
              by_cases c67 : (t282 != t283) = true
              · rw [if_pos c67] at H
                have c67b0 : (t282 != t283) = true := c67
                (try (have c67b1 : decide (t282 = t283) = false := by simpa using c67))
                (try (have c67b2 : (t282 == t283) = false := by simpa using c67))
                (try (have c67b3 : ¬ (t282 = t283) := by simpa using c67))
                clear c67
                obtain rfl := Option.some.inj H
                try go_wp2
                have n0_ := Aside0.mk (Kd.R_drew HO_270001.out)
                have n1_ := Aside0.mk (Kd.R_drew HO_270002.out)
                have n2_ := Aside0.mk (blk_drew BK269.out)
                have n3_ := Aside0.mk (IsS43.drew HI258.out)
                have n4_ := Aside0.mk (below_drew1 HB.out)
                clear HO_270001
                clear HO_270002
                clear BK269
                clear HI258
                clear HB
                have HO_270001 := n0_
                have HO_270002 := n1_
                have BK269 := n2_
                have HI258 := n3_
                have HB := n4_
                clear n0_ n1_ n2_ n3_ n4_
                refine start_ (n := 20) (S := fun w' => w'.cell? ⟨gb269, 0, none⟩ = some (.int .i64 t261) ∧ w'.cell? ⟨gb269, 1, none⟩ = some (.slice Ao12 t262.length co12) ∧ w'.cell? ⟨gb269, 2, none⟩ = some (.slice Ao13 t265.length co13)) (ds := []) #[false, false, false, false, false, false, false, false, false, false, false, false, false, false, false, false, false, false, false, false] (by kernel_rfl) rfl rfl ⟨(blk_cell BK269.out 0).trans rfl, (blk_cell BK269.out 1).trans rfl, (blk_cell BK269.out 2).trans rfl⟩ (fun hHeld => ?_); refine with_tabW trustquorumlaw02_ThresholdGrows.tab11 trustquorumlaw02_ThresholdGrows.bits11 (fun HT_ HW_ => ?_)
                generalize wc.drew = w68 at HO_270001 HO_270002 BK269 HI258 HB hHeld ⊢
                refine pure_ (i := 1) (N := some 48) (v := ?_) (a' := ?_) #[false, true, false, false, false, false, false, false, false, false, false, false, false, false, false, false, false, false, false, false] rfl rfl (any_of HT_.out (by kernel_rfl)) (fun _ _ _ h => h) (Or.inl ⟨by rfl, ?_⟩) ?_ ?_
                rotate_left
                · intro w'
                  go_simp
                  with_reducible rfl
                rotate_left
                · simp only [Act.put, List.setIfInBounds_toArray, List.set_cons_zero, List.set_cons_succ, i64_w, i32_w]
                  rfl
                refine pure_ (i := 4) (N := some 51) (v := ?_) (a' := ?_) #[false, true, false, false, true, false, false, false, false, false, false, false, false, false, false, false, false, false, false, false] rfl rfl (any_of HT_.out (by kernel_rfl)) (fun _ _ _ h => h) (Or.inl ⟨by rfl, ?_⟩) ?_ ?_
                rotate_left
                · intro w'
                  go_simp
                  with_reducible rfl
                rotate_left
                · simp only [Act.put, List.setIfInBounds_toArray, List.set_cons_zero, List.set_cons_succ, i64_w, i32_w]
                  rfl
                refine pure_ (i := 5) (N := some 52) (v := ?_) (a' := ?_) #[false, true, false, false, true, true, false, false, false, false, false, false, false, false, false, false, false, false, false, false] rfl rfl (any_of HT_.out (by kernel_rfl)) (fun _ _ _ h => h) (Or.inl ⟨by rfl, ?_⟩) ?_ ?_
                rotate_left
                · intro w'
                  go_simp
                  with_reducible rfl
                rotate_left
                · simp only [Act.put, List.setIfInBounds_toArray, List.set_cons_zero, List.set_cons_succ, i64_w, i32_w]
                  rfl
                refine pure_ (i := 6) (N := some 53) (v := ?_) (a' := ?_) #[false, true, false, false, true, true, true, false, false, false, false, false, false, false, false, false, false, false, false, false] rfl rfl (any_of HT_.out (by kernel_rfl)) (fun _ _ _ h => h) (Or.inl ⟨by rfl, ?_⟩) ?_ ?_
                rotate_left
                · intro w'
                  go_simp
                  with_reducible rfl
                rotate_left
                · simp only [Act.put, List.setIfInBounds_toArray, List.set_cons_zero, List.set_cons_succ, i64_w, i32_w]
                  rfl
                refine take_ (i := 0) (N := some 47) (v := ?_) (a' := ?_) #[true, true, false, false, true, true, true, false, false, false, false, false, false, false, false, false, false, false, false, false] rfl rfl (take_ofW HT_.out HW_.out (by kernel_rfl)) (fun _ _ _ h => h) (Or.inl ⟨by rfl, ?_⟩) hHeld ?_ ?_
                rotate_left
                · rintro w' ⟨s0, s1, s2⟩
                  go_simp
                  with_reducible rfl
                rotate_left
                · simp only [Act.put, List.setIfInBounds_toArray, List.set_cons_zero, List.set_cons_succ, i64_w, i32_w]
                  rfl
                refine take_ (i := 3) (N := some 50) (v := ?_) (a' := ?_) #[true, true, false, true, true, true, true, false, false, false, false, false, false, false, false, false, false, false, false, false] rfl rfl (take_ofW HT_.out HW_.out (by kernel_rfl)) (fun _ _ _ h => h) (Or.inl ⟨by rfl, ?_⟩) hHeld ?_ ?_
                rotate_left
                · rintro w' ⟨s0, s1, s2⟩
                  go_simp
                  with_reducible rfl
                rotate_left
                · simp only [Act.put, List.setIfInBounds_toArray, List.set_cons_zero, List.set_cons_succ, i64_w, i32_w]
                  rfl
                refine one_ (i := 2) (N := some 49) #[true, true, true, true, true, true, true, false, false, false, false, false, false, false, false, false, false, false, false, false] rfl rfl (one_of HT_.out (by kernel_rfl)) (by decide) (fun K hK => ?_)
                refine goes_ Try.func11 (by kernel_rfl) rfl #[.agg #[.int .i64 t261, .slice Ao12 t262.length co12, .slice Ao13 t265.length co13], .int .i64 t272] (by rfl) rfl rfl (by (try simp only [List.map_toArray, List.map_cons, List.map_nil]); first | done | rfl | (simp only [List.length_drop, List.length_take]; rfl)) ?_
                with_reducible refine (threshold_Satisfied.calls kj17 t261 _ _ t262 _ _ t265 t272 t282 _ ?side1 ?side2 ?side3 ?side4 A65.out).mono ?_
                (case side1 => repeat (first | exact (Kd.R_reads' HO_270001.out).2.2 | (with_reducible refine Kd.C_alloc ?_ _) | (with_reducible refine Kd.C_drewN ?_ _) | (with_reducible refine Kd.C_drew ?_)))
                (case side2 => exact (Kd.R_reads' HO_270001.out).2.1)
                (case side3 => repeat (first | exact (Kd.R_reads' HO_270002.out).2.2 | (with_reducible refine Kd.C_alloc ?_ _) | (with_reducible refine Kd.C_drewN ?_ _) | (with_reducible refine Kd.C_drew ?_)))
                (case side4 => exact (Kd.R_reads' HO_270002.out).2.1)
                rintro e w69 ⟨rfl, hb⟩
                refine ⟨_, rfl, ?_⟩
                have n0_ := Aside0.mk (Kd.R_below (by (with_reducible repeat (first | apply Kd.R_alloc | apply Kd.R_drewN | apply Kd.R_drew)); exact HO_270001.out) hb)
                have n1_ := Aside0.mk (Kd.R_below (by (with_reducible repeat (first | apply Kd.R_alloc | apply Kd.R_drewN | apply Kd.R_drew)); exact HO_270002.out) hb)
                have n2_ := Aside0.mk (blk_below (g := gb269) (o := .cells #[.int .i64 t261, .slice Ao12 t262.length co12, .slice Ao13 t265.length co13] 27 (0, 0)) (by (with_reducible repeat (first | refine blk_drewN ?_ _ | refine blk_drew ?_ | refine blk_alloc ?_ _)); exact BK269.out) hb)
                have n3_ := Aside0.mk (IsS43.below (by repeat (first | (with_reducible first | exact HI258.out | apply IsS43.alloc | apply IsS43.drewN | apply IsS43.drew | apply IsS43.set_1 | refine IsS43.far ?_ NB258_269.out _) | exact HI258.out)) hb)
                have n4_ := Aside0.mk (below_step (by repeat (first | (with_reducible first | exact HB.out | apply below_alloc | apply pw_below_drewN | apply below_drew1 | refine below_set ?_ (IsS43.ge HI258.out) | refine below_set ?_ GE269.out) | exact HB.out)) hb)
                clear HO_270001
                clear HO_270002
                clear BK269
                clear HI258
                clear HB
                have HO_270001 := n0_
                have HO_270002 := n1_
                have BK269 := n2_
                have HI258 := n3_
                have HB := n4_
                clear n0_ n1_ n2_ n3_ n4_
                (try clear hb)
                (try clear hb2)
                (try clear hk)
                (try clear hi)
                refine hK.out _ _ ⟨(blk_cell BK269.out 0).trans rfl, (blk_cell BK269.out 1).trans rfl, (blk_cell BK269.out 2).trans rfl⟩ (fun hHeld => ?_)
                clear hK K
                refine norm_ (a' := ?_) ?_ ?_
                rotate_left
                · show Act.put _ (some 49) _ = _
                  simp only [Act.put, List.setIfInBounds_toArray, List.set_cons_zero, List.set_cons_succ, i64_w, i32_w]
                  rfl
                refine one_ (i := 7) (N := some 54) #[true, true, true, true, true, true, true, true, false, false, false, false, false, false, false, false, false, false, false, false] rfl rfl (one_of HT_.out (by kernel_rfl)) (by decide) (fun K hK => ?_)
                refine goes_ Try.func11 (by kernel_rfl) rfl #[.agg #[.int .i64 t261, .slice Ao12 t262.length co12, .slice Ao13 t265.length co13], .int .i64 (Go.bits .and .i64 t272 t270)] (by rfl) rfl rfl (by (try simp only [List.map_toArray, List.map_cons, List.map_nil]); first | done | rfl | (simp only [List.length_drop, List.length_take]; rfl)) ?_
                with_reducible refine (threshold_Satisfied.calls kj17 t261 _ _ t262 _ _ t265 (Go.bits .and .i64 t272 t270) t283 _ ?side1 ?side2 ?side3 ?side4 A66.out).mono ?_
                (case side1 => repeat (first | exact (Kd.R_reads' HO_270001.out).2.2 | (with_reducible refine Kd.C_alloc ?_ _) | (with_reducible refine Kd.C_drewN ?_ _) | (with_reducible refine Kd.C_drew ?_)))
                (case side2 => exact (Kd.R_reads' HO_270001.out).2.1)
                (case side3 => repeat (first | exact (Kd.R_reads' HO_270002.out).2.2 | (with_reducible refine Kd.C_alloc ?_ _) | (with_reducible refine Kd.C_drewN ?_ _) | (with_reducible refine Kd.C_drew ?_)))
                (case side4 => exact (Kd.R_reads' HO_270002.out).2.1)
                rintro e w70 ⟨rfl, hb⟩
                refine ⟨_, rfl, ?_⟩
                have n0_ := Aside0.mk (Kd.R_below (by (with_reducible repeat (first | apply Kd.R_alloc | apply Kd.R_drewN | apply Kd.R_drew)); exact HO_270001.out) hb)
                have n1_ := Aside0.mk (Kd.R_below (by (with_reducible repeat (first | apply Kd.R_alloc | apply Kd.R_drewN | apply Kd.R_drew)); exact HO_270002.out) hb)
                have n2_ := Aside0.mk (blk_below (g := gb269) (o := .cells #[.int .i64 t261, .slice Ao12 t262.length co12, .slice Ao13 t265.length co13] 27 (0, 0)) (by (with_reducible repeat (first | refine blk_drewN ?_ _ | refine blk_drew ?_ | refine blk_alloc ?_ _)); exact BK269.out) hb)
                have n3_ := Aside0.mk (IsS43.below (by repeat (first | (with_reducible first | exact HI258.out | apply IsS43.alloc | apply IsS43.drewN | apply IsS43.drew | apply IsS43.set_1 | refine IsS43.far ?_ NB258_269.out _) | exact HI258.out)) hb)
                have n4_ := Aside0.mk (below_step (by repeat (first | (with_reducible first | exact HB.out | apply below_alloc | apply pw_below_drewN | apply below_drew1 | refine below_set ?_ (IsS43.ge HI258.out) | refine below_set ?_ GE269.out) | exact HB.out)) hb)
                clear HO_270001
                clear HO_270002
                clear BK269
                clear HI258
                clear HB
                have HO_270001 := n0_
                have HO_270002 := n1_
                have BK269 := n2_
                have HI258 := n3_
                have HB := n4_
                clear n0_ n1_ n2_ n3_ n4_
                (try clear hb)
                (try clear hb2)
                (try clear hk)
                (try clear hi)
                refine hK.out _ _ ⟨(blk_cell BK269.out 0).trans rfl, (blk_cell BK269.out 1).trans rfl, (blk_cell BK269.out 2).trans rfl⟩ (fun hHeld => ?_)
                clear hK K
                refine norm_ (a' := ?_) ?_ ?_
                rotate_left
                · show Act.put _ (some 54) _ = _
                  simp only [Act.put, List.setIfInBounds_toArray, List.set_cons_zero, List.set_cons_succ, i64_w, i32_w]
                  rfl
                refine pure_ (i := 8) (N := some 55) (v := ?_) (a' := ?_) #[true, true, true, true, true, true, true, true, true, false, false, false, false, false, false, false, false, false, false, false] rfl rfl (any_of HT_.out (by kernel_rfl)) (fun _ _ _ h => h) (Or.inl ⟨by rfl, ?_⟩) ?_ ?_
                rotate_left
                · intro w'
                  go_simp
                  with_reducible rfl
                rotate_left
                · simp only [Act.put, List.setIfInBounds_toArray, List.set_cons_zero, List.set_cons_succ, i64_w, i32_w]
                  rfl
                refine pure_ (i := 9) (N := some 56) (v := ?_) (a' := ?_) #[true, true, true, true, true, true, true, true, true, true, false, false, false, false, false, false, false, false, false, false] rfl rfl (any_of HT_.out (by kernel_rfl)) (fun _ _ _ h => h) (Or.inl ⟨by rfl, ?_⟩) ?_ ?_
                rotate_left
                · intro w'
                  go_simp
                  with_reducible rfl
                rotate_left
                · simp only [Act.put, List.setIfInBounds_toArray, List.set_cons_zero, List.set_cons_succ, i64_w, i32_w]
                  rfl
                refine pure_ (i := 10) (N := some 57) (v := undef) (a' := ?_) #[true, true, true, true, true, true, true, true, true, true, true, false, false, false, false, false, false, false, false, false] rfl rfl (any_of HT_.out (by kernel_rfl)) (fun _ _ _ h => h) (Or.inr ⟨by rfl, rfl⟩) ?_ ?_
                rotate_left
                · simp only [Act.put, List.setIfInBounds_toArray, List.set_cons_zero, List.set_cons_succ, i64_w, i32_w]
                  rfl
                refine pure_ (i := 11) (N := some 58) (v := undef) (a' := ?_) #[true, true, true, true, true, true, true, true, true, true, true, true, false, false, false, false, false, false, false, false] rfl rfl (any_of HT_.out (by kernel_rfl)) (fun _ _ _ h => h) (Or.inr ⟨by rfl, rfl⟩) ?_ ?_
                rotate_left
                · simp only [Act.put, List.setIfInBounds_toArray, List.set_cons_zero, List.set_cons_succ, i64_w, i32_w]
                  rfl
                refine pure_ (i := 12) (N := some 59) (v := undef) (a' := ?_) #[true, true, true, true, true, true, true, true, true, true, true, true, true, false, false, false, false, false, false, false] rfl rfl (any_of HT_.out (by kernel_rfl)) (fun _ _ _ h => h) (Or.inr ⟨by rfl, rfl⟩) ?_ ?_
                rotate_left
                · simp only [Act.put, List.setIfInBounds_toArray, List.set_cons_zero, List.set_cons_succ, i64_w, i32_w]
                  rfl
                refine pure_ (i := 13) (N := some 60) (v := undef) (a' := ?_) #[true, true, true, true, true, true, true, true, true, true, true, true, true, true, false, false, false, false, false, false] rfl rfl (any_of HT_.out (by kernel_rfl)) (fun _ _ _ h => h) (Or.inr ⟨by rfl, rfl⟩) ?_ ?_
                rotate_left
                · simp only [Act.put, List.setIfInBounds_toArray, List.set_cons_zero, List.set_cons_succ, i64_w, i32_w]
                  rfl
                refine pure_ (i := 14) (N := some 61) (v := undef) (a' := ?_) #[true, true, true, true, true, true, true, true, true, true, true, true, true, true, true, false, false, false, false, false] rfl rfl (any_of HT_.out (by kernel_rfl)) (fun _ _ _ h => h) (Or.inr ⟨by rfl, rfl⟩) ?_ ?_
                rotate_left
                · simp only [Act.put, List.setIfInBounds_toArray, List.set_cons_zero, List.set_cons_succ, i64_w, i32_w]
                  rfl
                refine pure_ (i := 15) (N := some 62) (v := undef) (a' := ?_) #[true, true, true, true, true, true, true, true, true, true, true, true, true, true, true, true, false, false, false, false] rfl rfl (any_of HT_.out (by kernel_rfl)) (fun _ _ _ h => h) (Or.inr ⟨by rfl, rfl⟩) ?_ ?_
                rotate_left
                · simp only [Act.put, List.setIfInBounds_toArray, List.set_cons_zero, List.set_cons_succ, i64_w, i32_w]
                  rfl
                refine pure_ (i := 16) (N := some 63) (v := undef) (a' := ?_) #[true, true, true, true, true, true, true, true, true, true, true, true, true, true, true, true, true, false, false, false] rfl rfl (any_of HT_.out (by kernel_rfl)) (fun _ _ _ h => h) (Or.inr ⟨by rfl, rfl⟩) ?_ ?_
                rotate_left
                · simp only [Act.put, List.setIfInBounds_toArray, List.set_cons_zero, List.set_cons_succ, i64_w, i32_w]
                  rfl
                refine pure_ (i := 17) (N := some 64) (v := undef) (a' := ?_) #[true, true, true, true, true, true, true, true, true, true, true, true, true, true, true, true, true, true, false, false] rfl rfl (any_of HT_.out (by kernel_rfl)) (fun _ _ _ h => h) (Or.inr ⟨by rfl, rfl⟩) ?_ ?_
                rotate_left
                · simp only [Act.put, List.setIfInBounds_toArray, List.set_cons_zero, List.set_cons_succ, i64_w, i32_w]
                  rfl
                refine pure_ (i := 18) (N := some 65) (v := undef) (a' := ?_) #[true, true, true, true, true, true, true, true, true, true, true, true, true, true, true, true, true, true, true, false] rfl rfl (any_of HT_.out (by kernel_rfl)) (fun _ _ _ h => h) (Or.inr ⟨by rfl, rfl⟩) ?_ ?_
                rotate_left
                · simp only [Act.put, List.setIfInBounds_toArray, List.set_cons_zero, List.set_cons_succ, i64_w, i32_w]
                  rfl
                refine pure_ (i := 19) (N := some 66) (v := ?_) (a' := ?_) #[true, true, true, true, true, true, true, true, true, true, true, true, true, true, true, true, true, true, true, true] rfl rfl (any_of HT_.out (by kernel_rfl)) (fun _ _ _ h => h) (Or.inl ⟨by rfl, ?_⟩) ?_ ?_
                rotate_left
                · intro w'
                  go_simp
                  with_reducible rfl
                rotate_left
                · simp only [Act.put, List.setIfInBounds_toArray, List.set_cons_zero, List.set_cons_succ, i64_w, i32_w]
                  rfl
                refine done_ (done_of HT_.out (by kernel_rfl)) ?_
                try go_wp2
                go_ret
                exact ⟨by first | rfl | (simp [errW_none, errW_some] <;> rfl) | (simp [*, errW_none, errW_some] <;> rfl), by repeat (first | (with_reducible first | exact HB.out | apply below_alloc | apply pw_below_drewN | apply below_drew1 | refine below_set ?_ (IsS43.ge HI258.out) | refine below_set ?_ GE269.out) | exact HB.out)⟩
              · rw [if_neg c67] at H
                have c67b0 : (t282 != t283) = false := by simpa using c67
                (try (have c67b1 : decide (t282 = t283) = true := by simpa using c67))
                (try (have c67b2 : (t282 == t283) = true := by simpa using c67))
                clear c67
                replace H := Option.bind_eq_some_iff.mp H
                obtain ⟨t284, A710, H⟩ := H
                replace H : ((threshold_Blocked.f kj17 t261 t262 t265 (Go.bits .and .i64 t272 t270)).bind fun t285 => (if (t284 != t285) = true then (some false) else (trustquorumlaw02_ThresholdGrows.l0 kj17 t270 (wrap64 (x6_1 + 1)) t256 t275 t261 t262 t265))) = some r := H
                have A71 := Aside0.mk A710
                clear A710
                replace H := Option.bind_eq_some_iff.mp H
                obtain ⟨t285, A720, H⟩ := H
                replace H : (if (t284 != t285) = true then (some false) else (trustquorumlaw02_ThresholdGrows.l0 kj17 t270 (wrap64 (x6_1 + 1)) t256 t275 t261 t262 t265)) = some r := H
                have A72 := Aside0.mk A720
                clear A720
                by_cases c73 : (t284 != t285) = true
                · rw [if_pos c73] at H
                  have c73b0 : (t284 != t285) = true := c73
                  (try (have c73b1 : decide (t284 = t285) = false := by simpa using c73))
                  (try (have c73b2 : (t284 == t285) = false := by simpa using c73))
                  (try (have c73b3 : ¬ (t284 = t285) := by simpa using c73))
                  clear c73
                  obtain rfl := Option.some.inj H
                  try go_wp2
                  have n0_ := Aside0.mk (Kd.R_drew HO_270001.out)
                  have n1_ := Aside0.mk (Kd.R_drew HO_270002.out)
                  have n2_ := Aside0.mk (blk_drew BK269.out)
                  have n3_ := Aside0.mk (IsS43.drew HI258.out)
                  have n4_ := Aside0.mk (below_drew1 HB.out)
                  clear HO_270001
                  clear HO_270002
                  clear BK269
                  clear HI258
                  clear HB
                  have HO_270001 := n0_
                  have HO_270002 := n1_
                  have BK269 := n2_
                  have HI258 := n3_
                  have HB := n4_
                  clear n0_ n1_ n2_ n3_ n4_
                  refine start_ (n := 20) (S := fun w' => w'.cell? ⟨gb269, 0, none⟩ = some (.int .i64 t261) ∧ w'.cell? ⟨gb269, 1, none⟩ = some (.slice Ao12 t262.length co12) ∧ w'.cell? ⟨gb269, 2, none⟩ = some (.slice Ao13 t265.length co13)) (ds := []) #[false, false, false, false, false, false, false, false, false, false, false, false, false, false, false, false, false, false, false, false] (by kernel_rfl) rfl rfl ⟨(blk_cell BK269.out 0).trans rfl, (blk_cell BK269.out 1).trans rfl, (blk_cell BK269.out 2).trans rfl⟩ (fun hHeld => ?_); refine with_tabW trustquorumlaw02_ThresholdGrows.tab11 trustquorumlaw02_ThresholdGrows.bits11 (fun HT_ HW_ => ?_)
                  generalize wc.drew = w74 at HO_270001 HO_270002 BK269 HI258 HB hHeld ⊢
                  refine pure_ (i := 1) (N := some 48) (v := ?_) (a' := ?_) #[false, true, false, false, false, false, false, false, false, false, false, false, false, false, false, false, false, false, false, false] rfl rfl (any_of HT_.out (by kernel_rfl)) (fun _ _ _ h => h) (Or.inl ⟨by rfl, ?_⟩) ?_ ?_
                  rotate_left
                  · intro w'
                    go_simp
                    with_reducible rfl
                  rotate_left
                  · simp only [Act.put, List.setIfInBounds_toArray, List.set_cons_zero, List.set_cons_succ, i64_w, i32_w]
                    rfl
                  refine pure_ (i := 4) (N := some 51) (v := ?_) (a' := ?_) #[false, true, false, false, true, false, false, false, false, false, false, false, false, false, false, false, false, false, false, false] rfl rfl (any_of HT_.out (by kernel_rfl)) (fun _ _ _ h => h) (Or.inl ⟨by rfl, ?_⟩) ?_ ?_
                  rotate_left
                  · intro w'
                    go_simp
                    with_reducible rfl
                  rotate_left
                  · simp only [Act.put, List.setIfInBounds_toArray, List.set_cons_zero, List.set_cons_succ, i64_w, i32_w]
                    rfl
                  refine pure_ (i := 5) (N := some 52) (v := ?_) (a' := ?_) #[false, true, false, false, true, true, false, false, false, false, false, false, false, false, false, false, false, false, false, false] rfl rfl (any_of HT_.out (by kernel_rfl)) (fun _ _ _ h => h) (Or.inl ⟨by rfl, ?_⟩) ?_ ?_
                  rotate_left
                  · intro w'
                    go_simp
                    with_reducible rfl
                  rotate_left
                  · simp only [Act.put, List.setIfInBounds_toArray, List.set_cons_zero, List.set_cons_succ, i64_w, i32_w]
                    rfl
                  refine pure_ (i := 6) (N := some 53) (v := ?_) (a' := ?_) #[false, true, false, false, true, true, true, false, false, false, false, false, false, false, false, false, false, false, false, false] rfl rfl (any_of HT_.out (by kernel_rfl)) (fun _ _ _ h => h) (Or.inl ⟨by rfl, ?_⟩) ?_ ?_
                  rotate_left
                  · intro w'
                    go_simp
                    with_reducible rfl
                  rotate_left
                  · simp only [Act.put, List.setIfInBounds_toArray, List.set_cons_zero, List.set_cons_succ, i64_w, i32_w]
                    rfl
                  refine take_ (i := 0) (N := some 47) (v := ?_) (a' := ?_) #[true, true, false, false, true, true, true, false, false, false, false, false, false, false, false, false, false, false, false, false] rfl rfl (take_ofW HT_.out HW_.out (by kernel_rfl)) (fun _ _ _ h => h) (Or.inl ⟨by rfl, ?_⟩) hHeld ?_ ?_
                  rotate_left
                  · rintro w' ⟨s0, s1, s2⟩
                    go_simp
                    with_reducible rfl
                  rotate_left
                  · simp only [Act.put, List.setIfInBounds_toArray, List.set_cons_zero, List.set_cons_succ, i64_w, i32_w]
                    rfl
                  refine take_ (i := 3) (N := some 50) (v := ?_) (a' := ?_) #[true, true, false, true, true, true, true, false, false, false, false, false, false, false, false, false, false, false, false, false] rfl rfl (take_ofW HT_.out HW_.out (by kernel_rfl)) (fun _ _ _ h => h) (Or.inl ⟨by rfl, ?_⟩) hHeld ?_ ?_
                  rotate_left
                  · rintro w' ⟨s0, s1, s2⟩
                    go_simp
                    with_reducible rfl
                  rotate_left
                  · simp only [Act.put, List.setIfInBounds_toArray, List.set_cons_zero, List.set_cons_succ, i64_w, i32_w]
                    rfl
                  refine one_ (i := 2) (N := some 49) #[true, true, true, true, true, true, true, false, false, false, false, false, false, false, false, false, false, false, false, false] rfl rfl (one_of HT_.out (by kernel_rfl)) (by decide) (fun K hK => ?_)
                  refine goes_ Try.func11 (by kernel_rfl) rfl #[.agg #[.int .i64 t261, .slice Ao12 t262.length co12, .slice Ao13 t265.length co13], .int .i64 t272] (by rfl) rfl rfl (by (try simp only [List.map_toArray, List.map_cons, List.map_nil]); first | done | rfl | (simp only [List.length_drop, List.length_take]; rfl)) ?_
                  with_reducible refine (threshold_Satisfied.calls kj17 t261 _ _ t262 _ _ t265 t272 t282 _ ?side1 ?side2 ?side3 ?side4 A65.out).mono ?_
                  (case side1 => repeat (first | exact (Kd.R_reads' HO_270001.out).2.2 | (with_reducible refine Kd.C_alloc ?_ _) | (with_reducible refine Kd.C_drewN ?_ _) | (with_reducible refine Kd.C_drew ?_)))
                  (case side2 => exact (Kd.R_reads' HO_270001.out).2.1)
                  (case side3 => repeat (first | exact (Kd.R_reads' HO_270002.out).2.2 | (with_reducible refine Kd.C_alloc ?_ _) | (with_reducible refine Kd.C_drewN ?_ _) | (with_reducible refine Kd.C_drew ?_)))
                  (case side4 => exact (Kd.R_reads' HO_270002.out).2.1)
                  rintro e w75 ⟨rfl, hb⟩
                  refine ⟨_, rfl, ?_⟩
                  have n0_ := Aside0.mk (Kd.R_below (by (with_reducible repeat (first | apply Kd.R_alloc | apply Kd.R_drewN | apply Kd.R_drew)); exact HO_270001.out) hb)
                  have n1_ := Aside0.mk (Kd.R_below (by (with_reducible repeat (first | apply Kd.R_alloc | apply Kd.R_drewN | apply Kd.R_drew)); exact HO_270002.out) hb)
                  have n2_ := Aside0.mk (blk_below (g := gb269) (o := .cells #[.int .i64 t261, .slice Ao12 t262.length co12, .slice Ao13 t265.length co13] 27 (0, 0)) (by (with_reducible repeat (first | refine blk_drewN ?_ _ | refine blk_drew ?_ | refine blk_alloc ?_ _)); exact BK269.out) hb)
                  have n3_ := Aside0.mk (IsS43.below (by repeat (first | (with_reducible first | exact HI258.out | apply IsS43.alloc | apply IsS43.drewN | apply IsS43.drew | apply IsS43.set_1 | refine IsS43.far ?_ NB258_269.out _) | exact HI258.out)) hb)
                  have n4_ := Aside0.mk (below_step (by repeat (first | (with_reducible first | exact HB.out | apply below_alloc | apply pw_below_drewN | apply below_drew1 | refine below_set ?_ (IsS43.ge HI258.out) | refine below_set ?_ GE269.out) | exact HB.out)) hb)
                  clear HO_270001
                  clear HO_270002
                  clear BK269
                  clear HI258
                  clear HB
                  have HO_270001 := n0_
                  have HO_270002 := n1_
                  have BK269 := n2_
                  have HI258 := n3_
                  have HB := n4_
                  clear n0_ n1_ n2_ n3_ n4_
                  (try clear hb)
                  (try clear hb2)
                  (try clear hk)
                  (try clear hi)
                  refine hK.out _ _ ⟨(blk_cell BK269.out 0).trans rfl, (blk_cell BK269.out 1).trans rfl, (blk_cell BK269.out 2).trans rfl⟩ (fun hHeld => ?_)
                  clear hK K
                  refine norm_ (a' := ?_) ?_ ?_
                  rotate_left
                  · show Act.put _ (some 49) _ = _
                    simp only [Act.put, List.setIfInBounds_toArray, List.set_cons_zero, List.set_cons_succ, i64_w, i32_w]
                    rfl
                  refine one_ (i := 7) (N := some 54) #[true, true, true, true, true, true, true, true, false, false, false, false, false, false, false, false, false, false, false, false] rfl rfl (one_of HT_.out (by kernel_rfl)) (by decide) (fun K hK => ?_)
                  refine goes_ Try.func11 (by kernel_rfl) rfl #[.agg #[.int .i64 t261, .slice Ao12 t262.length co12, .slice Ao13 t265.length co13], .int .i64 (Go.bits .and .i64 t272 t270)] (by rfl) rfl rfl (by (try simp only [List.map_toArray, List.map_cons, List.map_nil]); first | done | rfl | (simp only [List.length_drop, List.length_take]; rfl)) ?_
                  with_reducible refine (threshold_Satisfied.calls kj17 t261 _ _ t262 _ _ t265 (Go.bits .and .i64 t272 t270) t283 _ ?side1 ?side2 ?side3 ?side4 A66.out).mono ?_
                  (case side1 => repeat (first | exact (Kd.R_reads' HO_270001.out).2.2 | (with_reducible refine Kd.C_alloc ?_ _) | (with_reducible refine Kd.C_drewN ?_ _) | (with_reducible refine Kd.C_drew ?_)))
                  (case side2 => exact (Kd.R_reads' HO_270001.out).2.1)
                  (case side3 => repeat (first | exact (Kd.R_reads' HO_270002.out).2.2 | (with_reducible refine Kd.C_alloc ?_ _) | (with_reducible refine Kd.C_drewN ?_ _) | (with_reducible refine Kd.C_drew ?_)))
                  (case side4 => exact (Kd.R_reads' HO_270002.out).2.1)
                  rintro e w76 ⟨rfl, hb⟩
                  refine ⟨_, rfl, ?_⟩
                  have n0_ := Aside0.mk (Kd.R_below (by (with_reducible repeat (first | apply Kd.R_alloc | apply Kd.R_drewN | apply Kd.R_drew)); exact HO_270001.out) hb)
                  have n1_ := Aside0.mk (Kd.R_below (by (with_reducible repeat (first | apply Kd.R_alloc | apply Kd.R_drewN | apply Kd.R_drew)); exact HO_270002.out) hb)
                  have n2_ := Aside0.mk (blk_below (g := gb269) (o := .cells #[.int .i64 t261, .slice Ao12 t262.length co12, .slice Ao13 t265.length co13] 27 (0, 0)) (by (with_reducible repeat (first | refine blk_drewN ?_ _ | refine blk_drew ?_ | refine blk_alloc ?_ _)); exact BK269.out) hb)
                  have n3_ := Aside0.mk (IsS43.below (by repeat (first | (with_reducible first | exact HI258.out | apply IsS43.alloc | apply IsS43.drewN | apply IsS43.drew | apply IsS43.set_1 | refine IsS43.far ?_ NB258_269.out _) | exact HI258.out)) hb)
                  have n4_ := Aside0.mk (below_step (by repeat (first | (with_reducible first | exact HB.out | apply below_alloc | apply pw_below_drewN | apply below_drew1 | refine below_set ?_ (IsS43.ge HI258.out) | refine below_set ?_ GE269.out) | exact HB.out)) hb)
                  clear HO_270001
                  clear HO_270002
                  clear BK269
                  clear HI258
                  clear HB
                  have HO_270001 := n0_
                  have HO_270002 := n1_
                  have BK269 := n2_
                  have HI258 := n3_
                  have HB := n4_
                  clear n0_ n1_ n2_ n3_ n4_
                  (try clear hb)
                  (try clear hb2)
                  (try clear hk)
                  (try clear hi)
                  refine hK.out _ _ ⟨(blk_cell BK269.out 0).trans rfl, (blk_cell BK269.out 1).trans rfl, (blk_cell BK269.out 2).trans rfl⟩ (fun hHeld => ?_)
                  clear hK K
                  refine norm_ (a' := ?_) ?_ ?_
                  rotate_left
                  · show Act.put _ (some 54) _ = _
                    simp only [Act.put, List.setIfInBounds_toArray, List.set_cons_zero, List.set_cons_succ, i64_w, i32_w]
                    rfl
                  refine pure_ (i := 8) (N := some 55) (v := ?_) (a' := ?_) #[true, true, true, true, true, true, true, true, true, false, false, false, false, false, false, false, false, false, false, false] rfl rfl (any_of HT_.out (by kernel_rfl)) (fun _ _ _ h => h) (Or.inl ⟨by rfl, ?_⟩) ?_ ?_
                  rotate_left
                  · intro w'
                    go_simp
                    with_reducible rfl
                  rotate_left
                  · simp only [Act.put, List.setIfInBounds_toArray, List.set_cons_zero, List.set_cons_succ, i64_w, i32_w]
                    rfl
                  refine pure_ (i := 9) (N := some 56) (v := ?_) (a' := ?_) #[true, true, true, true, true, true, true, true, true, true, false, false, false, false, false, false, false, false, false, false] rfl rfl (any_of HT_.out (by kernel_rfl)) (fun _ _ _ h => h) (Or.inl ⟨by rfl, ?_⟩) ?_ ?_
                  rotate_left
                  · intro w'
                    go_simp
                    with_reducible rfl
                  rotate_left
                  · simp only [Act.put, List.setIfInBounds_toArray, List.set_cons_zero, List.set_cons_succ, i64_w, i32_w]
                    rfl
                  refine pure_ (i := 11) (N := some 58) (v := ?_) (a' := ?_) #[true, true, true, true, true, true, true, true, true, true, false, true, false, false, false, false, false, false, false, false] rfl rfl (any_of HT_.out (by kernel_rfl)) (fun _ _ _ h => h) (Or.inl ⟨by rfl, ?_⟩) ?_ ?_
                  rotate_left
                  · intro w'
                    go_simp
                    with_reducible rfl
                  rotate_left
                  · simp only [Act.put, List.setIfInBounds_toArray, List.set_cons_zero, List.set_cons_succ, i64_w, i32_w]
                    rfl
                  refine pure_ (i := 14) (N := some 61) (v := ?_) (a' := ?_) #[true, true, true, true, true, true, true, true, true, true, false, true, false, false, true, false, false, false, false, false] rfl rfl (any_of HT_.out (by kernel_rfl)) (fun _ _ _ h => h) (Or.inl ⟨by rfl, ?_⟩) ?_ ?_
                  rotate_left
                  · intro w'
                    go_simp
                    with_reducible rfl
                  rotate_left
                  · simp only [Act.put, List.setIfInBounds_toArray, List.set_cons_zero, List.set_cons_succ, i64_w, i32_w]
                    rfl
                  refine pure_ (i := 15) (N := some 62) (v := ?_) (a' := ?_) #[true, true, true, true, true, true, true, true, true, true, false, true, false, false, true, true, false, false, false, false] rfl rfl (any_of HT_.out (by kernel_rfl)) (fun _ _ _ h => h) (Or.inl ⟨by rfl, ?_⟩) ?_ ?_
                  rotate_left
                  · intro w'
                    go_simp
                    with_reducible rfl
                  rotate_left
                  · simp only [Act.put, List.setIfInBounds_toArray, List.set_cons_zero, List.set_cons_succ, i64_w, i32_w]
                    rfl
                  refine pure_ (i := 16) (N := some 63) (v := ?_) (a' := ?_) #[true, true, true, true, true, true, true, true, true, true, false, true, false, false, true, true, true, false, false, false] rfl rfl (any_of HT_.out (by kernel_rfl)) (fun _ _ _ h => h) (Or.inl ⟨by rfl, ?_⟩) ?_ ?_
                  rotate_left
                  · intro w'
                    go_simp
                    with_reducible rfl
                  rotate_left
                  · simp only [Act.put, List.setIfInBounds_toArray, List.set_cons_zero, List.set_cons_succ, i64_w, i32_w]
                    rfl
                  refine take_ (i := 10) (N := some 57) (v := ?_) (a' := ?_) #[true, true, true, true, true, true, true, true, true, true, true, true, false, false, true, true, true, false, false, false] rfl rfl (take_ofW HT_.out HW_.out (by kernel_rfl)) (fun _ _ _ h => h) (Or.inl ⟨by rfl, ?_⟩) hHeld ?_ ?_
                  rotate_left
                  · rintro w' ⟨s0, s1, s2⟩
                    go_simp
                    with_reducible rfl
                  rotate_left
                  · simp only [Act.put, List.setIfInBounds_toArray, List.set_cons_zero, List.set_cons_succ, i64_w, i32_w]
                    rfl
                  refine take_ (i := 13) (N := some 60) (v := ?_) (a' := ?_) #[true, true, true, true, true, true, true, true, true, true, true, true, false, true, true, true, true, false, false, false] rfl rfl (take_ofW HT_.out HW_.out (by kernel_rfl)) (fun _ _ _ h => h) (Or.inl ⟨by rfl, ?_⟩) hHeld ?_ ?_
                  rotate_left
                  · rintro w' ⟨s0, s1, s2⟩
                    go_simp
                    with_reducible rfl
                  rotate_left
                  · simp only [Act.put, List.setIfInBounds_toArray, List.set_cons_zero, List.set_cons_succ, i64_w, i32_w]
                    rfl
                  refine one_ (i := 12) (N := some 59) #[true, true, true, true, true, true, true, true, true, true, true, true, true, true, true, true, true, false, false, false] rfl rfl (one_of HT_.out (by kernel_rfl)) (by decide) (fun K hK => ?_)
                  refine goes_ Try.func12 (by kernel_rfl) rfl #[.agg #[.int .i64 t261, .slice Ao12 t262.length co12, .slice Ao13 t265.length co13], .int .i64 t272] (by rfl) rfl rfl (by (try simp only [List.map_toArray, List.map_cons, List.map_nil]); first | done | rfl | (simp only [List.length_drop, List.length_take]; rfl)) ?_
                  with_reducible refine (threshold_Blocked.calls kj17 t261 _ _ t262 _ _ t265 t272 t284 _ ?side1 ?side2 ?side3 ?side4 A71.out).mono ?_
                  (case side1 => repeat (first | exact (Kd.R_reads' HO_270001.out).2.2 | (with_reducible refine Kd.C_alloc ?_ _) | (with_reducible refine Kd.C_drewN ?_ _) | (with_reducible refine Kd.C_drew ?_)))
                  (case side2 => exact (Kd.R_reads' HO_270001.out).2.1)
                  (case side3 => repeat (first | exact (Kd.R_reads' HO_270002.out).2.2 | (with_reducible refine Kd.C_alloc ?_ _) | (with_reducible refine Kd.C_drewN ?_ _) | (with_reducible refine Kd.C_drew ?_)))
                  (case side4 => exact (Kd.R_reads' HO_270002.out).2.1)
                  rintro e w77 ⟨rfl, hb⟩
                  refine ⟨_, rfl, ?_⟩
                  have n0_ := Aside0.mk (Kd.R_below (by (with_reducible repeat (first | apply Kd.R_alloc | apply Kd.R_drewN | apply Kd.R_drew)); exact HO_270001.out) hb)
                  have n1_ := Aside0.mk (Kd.R_below (by (with_reducible repeat (first | apply Kd.R_alloc | apply Kd.R_drewN | apply Kd.R_drew)); exact HO_270002.out) hb)
                  have n2_ := Aside0.mk (blk_below (g := gb269) (o := .cells #[.int .i64 t261, .slice Ao12 t262.length co12, .slice Ao13 t265.length co13] 27 (0, 0)) (by (with_reducible repeat (first | refine blk_drewN ?_ _ | refine blk_drew ?_ | refine blk_alloc ?_ _)); exact BK269.out) hb)
                  have n3_ := Aside0.mk (IsS43.below (by repeat (first | (with_reducible first | exact HI258.out | apply IsS43.alloc | apply IsS43.drewN | apply IsS43.drew | apply IsS43.set_1 | refine IsS43.far ?_ NB258_269.out _) | exact HI258.out)) hb)
                  have n4_ := Aside0.mk (below_step (by repeat (first | (with_reducible first | exact HB.out | apply below_alloc | apply pw_below_drewN | apply below_drew1 | refine below_set ?_ (IsS43.ge HI258.out) | refine below_set ?_ GE269.out) | exact HB.out)) hb)
                  clear HO_270001
                  clear HO_270002
                  clear BK269
                  clear HI258
                  clear HB
                  have HO_270001 := n0_
                  have HO_270002 := n1_
                  have BK269 := n2_
                  have HI258 := n3_
                  have HB := n4_
                  clear n0_ n1_ n2_ n3_ n4_
                  (try clear hb)
                  (try clear hb2)
                  (try clear hk)
                  (try clear hi)
                  refine hK.out _ _ ⟨(blk_cell BK269.out 0).trans rfl, (blk_cell BK269.out 1).trans rfl, (blk_cell BK269.out 2).trans rfl⟩ (fun hHeld => ?_)
                  clear hK K
                  refine norm_ (a' := ?_) ?_ ?_
                  rotate_left
                  · show Act.put _ (some 59) _ = _
                    simp only [Act.put, List.setIfInBounds_toArray, List.set_cons_zero, List.set_cons_succ, i64_w, i32_w]
                    rfl
                  refine one_ (i := 17) (N := some 64) #[true, true, true, true, true, true, true, true, true, true, true, true, true, true, true, true, true, true, false, false] rfl rfl (one_of HT_.out (by kernel_rfl)) (by decide) (fun K hK => ?_)
                  refine goes_ Try.func12 (by kernel_rfl) rfl #[.agg #[.int .i64 t261, .slice Ao12 t262.length co12, .slice Ao13 t265.length co13], .int .i64 (Go.bits .and .i64 t272 t270)] (by rfl) rfl rfl (by (try simp only [List.map_toArray, List.map_cons, List.map_nil]); first | done | rfl | (simp only [List.length_drop, List.length_take]; rfl)) ?_
                  with_reducible refine (threshold_Blocked.calls kj17 t261 _ _ t262 _ _ t265 (Go.bits .and .i64 t272 t270) t285 _ ?side1 ?side2 ?side3 ?side4 A72.out).mono ?_
                  (case side1 => repeat (first | exact (Kd.R_reads' HO_270001.out).2.2 | (with_reducible refine Kd.C_alloc ?_ _) | (with_reducible refine Kd.C_drewN ?_ _) | (with_reducible refine Kd.C_drew ?_)))
                  (case side2 => exact (Kd.R_reads' HO_270001.out).2.1)
                  (case side3 => repeat (first | exact (Kd.R_reads' HO_270002.out).2.2 | (with_reducible refine Kd.C_alloc ?_ _) | (with_reducible refine Kd.C_drewN ?_ _) | (with_reducible refine Kd.C_drew ?_)))
                  (case side4 => exact (Kd.R_reads' HO_270002.out).2.1)
                  rintro e w78 ⟨rfl, hb⟩
                  refine ⟨_, rfl, ?_⟩
                  have n0_ := Aside0.mk (Kd.R_below (by (with_reducible repeat (first | apply Kd.R_alloc | apply Kd.R_drewN | apply Kd.R_drew)); exact HO_270001.out) hb)
                  have n1_ := Aside0.mk (Kd.R_below (by (with_reducible repeat (first | apply Kd.R_alloc | apply Kd.R_drewN | apply Kd.R_drew)); exact HO_270002.out) hb)
                  have n2_ := Aside0.mk (blk_below (g := gb269) (o := .cells #[.int .i64 t261, .slice Ao12 t262.length co12, .slice Ao13 t265.length co13] 27 (0, 0)) (by (with_reducible repeat (first | refine blk_drewN ?_ _ | refine blk_drew ?_ | refine blk_alloc ?_ _)); exact BK269.out) hb)
                  have n3_ := Aside0.mk (IsS43.below (by repeat (first | (with_reducible first | exact HI258.out | apply IsS43.alloc | apply IsS43.drewN | apply IsS43.drew | apply IsS43.set_1 | refine IsS43.far ?_ NB258_269.out _) | exact HI258.out)) hb)
                  have n4_ := Aside0.mk (below_step (by repeat (first | (with_reducible first | exact HB.out | apply below_alloc | apply pw_below_drewN | apply below_drew1 | refine below_set ?_ (IsS43.ge HI258.out) | refine below_set ?_ GE269.out) | exact HB.out)) hb)
                  clear HO_270001
                  clear HO_270002
                  clear BK269
                  clear HI258
                  clear HB
                  have HO_270001 := n0_
                  have HO_270002 := n1_
                  have BK269 := n2_
                  have HI258 := n3_
                  have HB := n4_
                  clear n0_ n1_ n2_ n3_ n4_
                  (try clear hb)
                  (try clear hb2)
                  (try clear hk)
                  (try clear hi)
                  refine hK.out _ _ ⟨(blk_cell BK269.out 0).trans rfl, (blk_cell BK269.out 1).trans rfl, (blk_cell BK269.out 2).trans rfl⟩ (fun hHeld => ?_)
                  clear hK K
                  refine norm_ (a' := ?_) ?_ ?_
                  rotate_left
                  · show Act.put _ (some 64) _ = _
                    simp only [Act.put, List.setIfInBounds_toArray, List.set_cons_zero, List.set_cons_succ, i64_w, i32_w]
                    rfl
                  refine pure_ (i := 18) (N := some 65) (v := ?_) (a' := ?_) #[true, true, true, true, true, true, true, true, true, true, true, true, true, true, true, true, true, true, true, false] rfl rfl (any_of HT_.out (by kernel_rfl)) (fun _ _ _ h => h) (Or.inl ⟨by rfl, ?_⟩) ?_ ?_
                  rotate_left
                  · intro w'
                    go_simp
                    with_reducible rfl
                  rotate_left
                  · simp only [Act.put, List.setIfInBounds_toArray, List.set_cons_zero, List.set_cons_succ, i64_w, i32_w]
                    rfl
                  refine pure_ (i := 19) (N := some 66) (v := ?_) (a' := ?_) #[true, true, true, true, true, true, true, true, true, true, true, true, true, true, true, true, true, true, true, true] rfl rfl (any_of HT_.out (by kernel_rfl)) (fun _ _ _ h => h) (Or.inl ⟨by rfl, ?_⟩) ?_ ?_
                  rotate_left
                  · intro w'
                    go_simp
                    with_reducible rfl
                  rotate_left
                  · simp only [Act.put, List.setIfInBounds_toArray, List.set_cons_zero, List.set_cons_succ, i64_w, i32_w]
                    rfl
                  refine done_ (done_of HT_.out (by kernel_rfl)) ?_
                  try go_wp2
                  go_ret
                  exact ⟨by first | rfl | (simp [errW_none, errW_some] <;> rfl) | (simp [*, errW_none, errW_some] <;> rfl), by repeat (first | (with_reducible first | exact HB.out | apply below_alloc | apply pw_below_drewN | apply below_drew1 | refine below_set ?_ (IsS43.ge HI258.out) | refine below_set ?_ GE269.out) | exact HB.out)⟩
                · rw [if_neg c73] at H
                  have c73b0 : (t284 != t285) = false := by simpa using c73
                  (try (have c73b1 : decide (t284 = t285) = true := by simpa using c73))
                  (try (have c73b2 : (t284 == t285) = true := by simpa using c73))
                  clear c73
                  have H' := Aside0.mk H
                  clear H
                  try go_wp2
                  have n0_ := Aside0.mk (Kd.R_drew HO_270001.out)
                  have n1_ := Aside0.mk (Kd.R_drew HO_270002.out)
                  have n2_ := Aside0.mk (blk_drew BK269.out)
                  have n3_ := Aside0.mk (IsS43.drew HI258.out)
                  have n4_ := Aside0.mk (below_drew1 HB.out)
                  clear HO_270001
                  clear HO_270002
                  clear BK269
                  clear HI258
                  clear HB
                  have HO_270001 := n0_
                  have HO_270002 := n1_
                  have BK269 := n2_
                  have HI258 := n3_
                  have HB := n4_
                  clear n0_ n1_ n2_ n3_ n4_
                  refine start_ (n := 20) (S := fun w' => w'.cell? ⟨gb269, 0, none⟩ = some (.int .i64 t261) ∧ w'.cell? ⟨gb269, 1, none⟩ = some (.slice Ao12 t262.length co12) ∧ w'.cell? ⟨gb269, 2, none⟩ = some (.slice Ao13 t265.length co13)) (ds := []) #[false, false, false, false, false, false, false, false, false, false, false, false, false, false, false, false, false, false, false, false] (by kernel_rfl) rfl rfl ⟨(blk_cell BK269.out 0).trans rfl, (blk_cell BK269.out 1).trans rfl, (blk_cell BK269.out 2).trans rfl⟩ (fun hHeld => ?_); refine with_tabW trustquorumlaw02_ThresholdGrows.tab11 trustquorumlaw02_ThresholdGrows.bits11 (fun HT_ HW_ => ?_)
                  generalize wc.drew = w79 at HO_270001 HO_270002 BK269 HI258 HB hHeld ⊢
                  refine pure_ (i := 1) (N := some 48) (v := ?_) (a' := ?_) #[false, true, false, false, false, false, false, false, false, false, false, false, false, false, false, false, false, false, false, false] rfl rfl (any_of HT_.out (by kernel_rfl)) (fun _ _ _ h => h) (Or.inl ⟨by rfl, ?_⟩) ?_ ?_
                  rotate_left
                  · intro w'
                    go_simp
                    with_reducible rfl
                  rotate_left
                  · simp only [Act.put, List.setIfInBounds_toArray, List.set_cons_zero, List.set_cons_succ, i64_w, i32_w]
                    rfl
                  refine pure_ (i := 4) (N := some 51) (v := ?_) (a' := ?_) #[false, true, false, false, true, false, false, false, false, false, false, false, false, false, false, false, false, false, false, false] rfl rfl (any_of HT_.out (by kernel_rfl)) (fun _ _ _ h => h) (Or.inl ⟨by rfl, ?_⟩) ?_ ?_
                  rotate_left
                  · intro w'
                    go_simp
                    with_reducible rfl
                  rotate_left
                  · simp only [Act.put, List.setIfInBounds_toArray, List.set_cons_zero, List.set_cons_succ, i64_w, i32_w]
                    rfl
                  refine pure_ (i := 5) (N := some 52) (v := ?_) (a' := ?_) #[false, true, false, false, true, true, false, false, false, false, false, false, false, false, false, false, false, false, false, false] rfl rfl (any_of HT_.out (by kernel_rfl)) (fun _ _ _ h => h) (Or.inl ⟨by rfl, ?_⟩) ?_ ?_
                  rotate_left
                  · intro w'
                    go_simp
                    with_reducible rfl
                  rotate_left
                  · simp only [Act.put, List.setIfInBounds_toArray, List.set_cons_zero, List.set_cons_succ, i64_w, i32_w]
                    rfl
                  refine pure_ (i := 6) (N := some 53) (v := ?_) (a' := ?_) #[false, true, false, false, true, true, true, false, false, false, false, false, false, false, false, false, false, false, false, false] rfl rfl (any_of HT_.out (by kernel_rfl)) (fun _ _ _ h => h) (Or.inl ⟨by rfl, ?_⟩) ?_ ?_
                  rotate_left
                  · intro w'
                    go_simp
                    with_reducible rfl
                  rotate_left
                  · simp only [Act.put, List.setIfInBounds_toArray, List.set_cons_zero, List.set_cons_succ, i64_w, i32_w]
                    rfl
                  refine take_ (i := 0) (N := some 47) (v := ?_) (a' := ?_) #[true, true, false, false, true, true, true, false, false, false, false, false, false, false, false, false, false, false, false, false] rfl rfl (take_ofW HT_.out HW_.out (by kernel_rfl)) (fun _ _ _ h => h) (Or.inl ⟨by rfl, ?_⟩) hHeld ?_ ?_
                  rotate_left
                  · rintro w' ⟨s0, s1, s2⟩
                    go_simp
                    with_reducible rfl
                  rotate_left
                  · simp only [Act.put, List.setIfInBounds_toArray, List.set_cons_zero, List.set_cons_succ, i64_w, i32_w]
                    rfl
                  refine take_ (i := 3) (N := some 50) (v := ?_) (a' := ?_) #[true, true, false, true, true, true, true, false, false, false, false, false, false, false, false, false, false, false, false, false] rfl rfl (take_ofW HT_.out HW_.out (by kernel_rfl)) (fun _ _ _ h => h) (Or.inl ⟨by rfl, ?_⟩) hHeld ?_ ?_
                  rotate_left
                  · rintro w' ⟨s0, s1, s2⟩
                    go_simp
                    with_reducible rfl
                  rotate_left
                  · simp only [Act.put, List.setIfInBounds_toArray, List.set_cons_zero, List.set_cons_succ, i64_w, i32_w]
                    rfl
                  refine one_ (i := 2) (N := some 49) #[true, true, true, true, true, true, true, false, false, false, false, false, false, false, false, false, false, false, false, false] rfl rfl (one_of HT_.out (by kernel_rfl)) (by decide) (fun K hK => ?_)
                  refine goes_ Try.func11 (by kernel_rfl) rfl #[.agg #[.int .i64 t261, .slice Ao12 t262.length co12, .slice Ao13 t265.length co13], .int .i64 t272] (by rfl) rfl rfl (by (try simp only [List.map_toArray, List.map_cons, List.map_nil]); first | done | rfl | (simp only [List.length_drop, List.length_take]; rfl)) ?_
                  with_reducible refine (threshold_Satisfied.calls kj17 t261 _ _ t262 _ _ t265 t272 t282 _ ?side1 ?side2 ?side3 ?side4 A65.out).mono ?_
                  (case side1 => repeat (first | exact (Kd.R_reads' HO_270001.out).2.2 | (with_reducible refine Kd.C_alloc ?_ _) | (with_reducible refine Kd.C_drewN ?_ _) | (with_reducible refine Kd.C_drew ?_)))
                  (case side2 => exact (Kd.R_reads' HO_270001.out).2.1)
                  (case side3 => repeat (first | exact (Kd.R_reads' HO_270002.out).2.2 | (with_reducible refine Kd.C_alloc ?_ _) | (with_reducible refine Kd.C_drewN ?_ _) | (with_reducible refine Kd.C_drew ?_)))
                  (case side4 => exact (Kd.R_reads' HO_270002.out).2.1)
                  rintro e w80 ⟨rfl, hb⟩
                  refine ⟨_, rfl, ?_⟩
                  have n0_ := Aside0.mk (Kd.R_below (by (with_reducible repeat (first | apply Kd.R_alloc | apply Kd.R_drewN | apply Kd.R_drew)); exact HO_270001.out) hb)
                  have n1_ := Aside0.mk (Kd.R_below (by (with_reducible repeat (first | apply Kd.R_alloc | apply Kd.R_drewN | apply Kd.R_drew)); exact HO_270002.out) hb)
                  have n2_ := Aside0.mk (blk_below (g := gb269) (o := .cells #[.int .i64 t261, .slice Ao12 t262.length co12, .slice Ao13 t265.length co13] 27 (0, 0)) (by (with_reducible repeat (first | refine blk_drewN ?_ _ | refine blk_drew ?_ | refine blk_alloc ?_ _)); exact BK269.out) hb)
                  have n3_ := Aside0.mk (IsS43.below (by repeat (first | (with_reducible first | exact HI258.out | apply IsS43.alloc | apply IsS43.drewN | apply IsS43.drew | apply IsS43.set_1 | refine IsS43.far ?_ NB258_269.out _) | exact HI258.out)) hb)
                  have n4_ := Aside0.mk (below_step (by repeat (first | (with_reducible first | exact HB.out | apply below_alloc | apply pw_below_drewN | apply below_drew1 | refine below_set ?_ (IsS43.ge HI258.out) | refine below_set ?_ GE269.out) | exact HB.out)) hb)
                  clear HO_270001
                  clear HO_270002
                  clear BK269
                  clear HI258
                  clear HB
                  have HO_270001 := n0_
                  have HO_270002 := n1_
                  have BK269 := n2_
                  have HI258 := n3_
                  have HB := n4_
                  clear n0_ n1_ n2_ n3_ n4_
                  (try clear hb)
                  (try clear hb2)
                  (try clear hk)
                  (try clear hi)
                  refine hK.out _ _ ⟨(blk_cell BK269.out 0).trans rfl, (blk_cell BK269.out 1).trans rfl, (blk_cell BK269.out 2).trans rfl⟩ (fun hHeld => ?_)
                  clear hK K
                  refine norm_ (a' := ?_) ?_ ?_
                  rotate_left
                  · show Act.put _ (some 49) _ = _
                    simp only [Act.put, List.setIfInBounds_toArray, List.set_cons_zero, List.set_cons_succ, i64_w, i32_w]
                    rfl
                  refine one_ (i := 7) (N := some 54) #[true, true, true, true, true, true, true, true, false, false, false, false, false, false, false, false, false, false, false, false] rfl rfl (one_of HT_.out (by kernel_rfl)) (by decide) (fun K hK => ?_)
                  refine goes_ Try.func11 (by kernel_rfl) rfl #[.agg #[.int .i64 t261, .slice Ao12 t262.length co12, .slice Ao13 t265.length co13], .int .i64 (Go.bits .and .i64 t272 t270)] (by rfl) rfl rfl (by (try simp only [List.map_toArray, List.map_cons, List.map_nil]); first | done | rfl | (simp only [List.length_drop, List.length_take]; rfl)) ?_
                  with_reducible refine (threshold_Satisfied.calls kj17 t261 _ _ t262 _ _ t265 (Go.bits .and .i64 t272 t270) t283 _ ?side1 ?side2 ?side3 ?side4 A66.out).mono ?_
                  (case side1 => repeat (first | exact (Kd.R_reads' HO_270001.out).2.2 | (with_reducible refine Kd.C_alloc ?_ _) | (with_reducible refine Kd.C_drewN ?_ _) | (with_reducible refine Kd.C_drew ?_)))
                  (case side2 => exact (Kd.R_reads' HO_270001.out).2.1)
                  (case side3 => repeat (first | exact (Kd.R_reads' HO_270002.out).2.2 | (with_reducible refine Kd.C_alloc ?_ _) | (with_reducible refine Kd.C_drewN ?_ _) | (with_reducible refine Kd.C_drew ?_)))
                  (case side4 => exact (Kd.R_reads' HO_270002.out).2.1)
                  rintro e w81 ⟨rfl, hb⟩
                  refine ⟨_, rfl, ?_⟩
                  have n0_ := Aside0.mk (Kd.R_below (by (with_reducible repeat (first | apply Kd.R_alloc | apply Kd.R_drewN | apply Kd.R_drew)); exact HO_270001.out) hb)
                  have n1_ := Aside0.mk (Kd.R_below (by (with_reducible repeat (first | apply Kd.R_alloc | apply Kd.R_drewN | apply Kd.R_drew)); exact HO_270002.out) hb)
                  have n2_ := Aside0.mk (blk_below (g := gb269) (o := .cells #[.int .i64 t261, .slice Ao12 t262.length co12, .slice Ao13 t265.length co13] 27 (0, 0)) (by (with_reducible repeat (first | refine blk_drewN ?_ _ | refine blk_drew ?_ | refine blk_alloc ?_ _)); exact BK269.out) hb)
                  have n3_ := Aside0.mk (IsS43.below (by repeat (first | (with_reducible first | exact HI258.out | apply IsS43.alloc | apply IsS43.drewN | apply IsS43.drew | apply IsS43.set_1 | refine IsS43.far ?_ NB258_269.out _) | exact HI258.out)) hb)
                  have n4_ := Aside0.mk (below_step (by repeat (first | (with_reducible first | exact HB.out | apply below_alloc | apply pw_below_drewN | apply below_drew1 | refine below_set ?_ (IsS43.ge HI258.out) | refine below_set ?_ GE269.out) | exact HB.out)) hb)
                  clear HO_270001
                  clear HO_270002
                  clear BK269
                  clear HI258
                  clear HB
                  have HO_270001 := n0_
                  have HO_270002 := n1_
                  have BK269 := n2_
                  have HI258 := n3_
                  have HB := n4_
                  clear n0_ n1_ n2_ n3_ n4_
                  (try clear hb)
                  (try clear hb2)
                  (try clear hk)
                  (try clear hi)
                  refine hK.out _ _ ⟨(blk_cell BK269.out 0).trans rfl, (blk_cell BK269.out 1).trans rfl, (blk_cell BK269.out 2).trans rfl⟩ (fun hHeld => ?_)
                  clear hK K
                  refine norm_ (a' := ?_) ?_ ?_
                  rotate_left
                  · show Act.put _ (some 54) _ = _
                    simp only [Act.put, List.setIfInBounds_toArray, List.set_cons_zero, List.set_cons_succ, i64_w, i32_w]
                    rfl
                  refine pure_ (i := 8) (N := some 55) (v := ?_) (a' := ?_) #[true, true, true, true, true, true, true, true, true, false, false, false, false, false, false, false, false, false, false, false] rfl rfl (any_of HT_.out (by kernel_rfl)) (fun _ _ _ h => h) (Or.inl ⟨by rfl, ?_⟩) ?_ ?_
                  rotate_left
                  · intro w'
                    go_simp
                    with_reducible rfl
                  rotate_left
                  · simp only [Act.put, List.setIfInBounds_toArray, List.set_cons_zero, List.set_cons_succ, i64_w, i32_w]
                    rfl
                  refine pure_ (i := 9) (N := some 56) (v := ?_) (a' := ?_) #[true, true, true, true, true, true, true, true, true, true, false, false, false, false, false, false, false, false, false, false] rfl rfl (any_of HT_.out (by kernel_rfl)) (fun _ _ _ h => h) (Or.inl ⟨by rfl, ?_⟩) ?_ ?_
                  rotate_left
                  · intro w'
                    go_simp
                    with_reducible rfl
                  rotate_left
                  · simp only [Act.put, List.setIfInBounds_toArray, List.set_cons_zero, List.set_cons_succ, i64_w, i32_w]
                    rfl
                  refine pure_ (i := 11) (N := some 58) (v := ?_) (a' := ?_) #[true, true, true, true, true, true, true, true, true, true, false, true, false, false, false, false, false, false, false, false] rfl rfl (any_of HT_.out (by kernel_rfl)) (fun _ _ _ h => h) (Or.inl ⟨by rfl, ?_⟩) ?_ ?_
                  rotate_left
                  · intro w'
                    go_simp
                    with_reducible rfl
                  rotate_left
                  · simp only [Act.put, List.setIfInBounds_toArray, List.set_cons_zero, List.set_cons_succ, i64_w, i32_w]
                    rfl
                  refine pure_ (i := 14) (N := some 61) (v := ?_) (a' := ?_) #[true, true, true, true, true, true, true, true, true, true, false, true, false, false, true, false, false, false, false, false] rfl rfl (any_of HT_.out (by kernel_rfl)) (fun _ _ _ h => h) (Or.inl ⟨by rfl, ?_⟩) ?_ ?_
                  rotate_left
                  · intro w'
                    go_simp
                    with_reducible rfl
                  rotate_left
                  · simp only [Act.put, List.setIfInBounds_toArray, List.set_cons_zero, List.set_cons_succ, i64_w, i32_w]
                    rfl
                  refine pure_ (i := 15) (N := some 62) (v := ?_) (a' := ?_) #[true, true, true, true, true, true, true, true, true, true, false, true, false, false, true, true, false, false, false, false] rfl rfl (any_of HT_.out (by kernel_rfl)) (fun _ _ _ h => h) (Or.inl ⟨by rfl, ?_⟩) ?_ ?_
                  rotate_left
                  · intro w'
                    go_simp
                    with_reducible rfl
                  rotate_left
                  · simp only [Act.put, List.setIfInBounds_toArray, List.set_cons_zero, List.set_cons_succ, i64_w, i32_w]
                    rfl
                  refine pure_ (i := 16) (N := some 63) (v := ?_) (a' := ?_) #[true, true, true, true, true, true, true, true, true, true, false, true, false, false, true, true, true, false, false, false] rfl rfl (any_of HT_.out (by kernel_rfl)) (fun _ _ _ h => h) (Or.inl ⟨by rfl, ?_⟩) ?_ ?_
                  rotate_left
                  · intro w'
                    go_simp
                    with_reducible rfl
                  rotate_left
                  · simp only [Act.put, List.setIfInBounds_toArray, List.set_cons_zero, List.set_cons_succ, i64_w, i32_w]
                    rfl
                  refine take_ (i := 10) (N := some 57) (v := ?_) (a' := ?_) #[true, true, true, true, true, true, true, true, true, true, true, true, false, false, true, true, true, false, false, false] rfl rfl (take_ofW HT_.out HW_.out (by kernel_rfl)) (fun _ _ _ h => h) (Or.inl ⟨by rfl, ?_⟩) hHeld ?_ ?_
                  rotate_left
                  · rintro w' ⟨s0, s1, s2⟩
                    go_simp
                    with_reducible rfl
                  rotate_left
                  · simp only [Act.put, List.setIfInBounds_toArray, List.set_cons_zero, List.set_cons_succ, i64_w, i32_w]
                    rfl
                  refine take_ (i := 13) (N := some 60) (v := ?_) (a' := ?_) #[true, true, true, true, true, true, true, true, true, true, true, true, false, true, true, true, true, false, false, false] rfl rfl (take_ofW HT_.out HW_.out (by kernel_rfl)) (fun _ _ _ h => h) (Or.inl ⟨by rfl, ?_⟩) hHeld ?_ ?_
                  rotate_left
                  · rintro w' ⟨s0, s1, s2⟩
                    go_simp
                    with_reducible rfl
                  rotate_left
                  · simp only [Act.put, List.setIfInBounds_toArray, List.set_cons_zero, List.set_cons_succ, i64_w, i32_w]
                    rfl
                  refine one_ (i := 12) (N := some 59) #[true, true, true, true, true, true, true, true, true, true, true, true, true, true, true, true, true, false, false, false] rfl rfl (one_of HT_.out (by kernel_rfl)) (by decide) (fun K hK => ?_)
                  refine goes_ Try.func12 (by kernel_rfl) rfl #[.agg #[.int .i64 t261, .slice Ao12 t262.length co12, .slice Ao13 t265.length co13], .int .i64 t272] (by rfl) rfl rfl (by (try simp only [List.map_toArray, List.map_cons, List.map_nil]); first | done | rfl | (simp only [List.length_drop, List.length_take]; rfl)) ?_
                  with_reducible refine (threshold_Blocked.calls kj17 t261 _ _ t262 _ _ t265 t272 t284 _ ?side1 ?side2 ?side3 ?side4 A71.out).mono ?_
                  (case side1 => repeat (first | exact (Kd.R_reads' HO_270001.out).2.2 | (with_reducible refine Kd.C_alloc ?_ _) | (with_reducible refine Kd.C_drewN ?_ _) | (with_reducible refine Kd.C_drew ?_)))
                  (case side2 => exact (Kd.R_reads' HO_270001.out).2.1)
                  (case side3 => repeat (first | exact (Kd.R_reads' HO_270002.out).2.2 | (with_reducible refine Kd.C_alloc ?_ _) | (with_reducible refine Kd.C_drewN ?_ _) | (with_reducible refine Kd.C_drew ?_)))
                  (case side4 => exact (Kd.R_reads' HO_270002.out).2.1)
                  rintro e w82 ⟨rfl, hb⟩
                  refine ⟨_, rfl, ?_⟩
                  have n0_ := Aside0.mk (Kd.R_below (by (with_reducible repeat (first | apply Kd.R_alloc | apply Kd.R_drewN | apply Kd.R_drew)); exact HO_270001.out) hb)
                  have n1_ := Aside0.mk (Kd.R_below (by (with_reducible repeat (first | apply Kd.R_alloc | apply Kd.R_drewN | apply Kd.R_drew)); exact HO_270002.out) hb)
                  have n2_ := Aside0.mk (blk_below (g := gb269) (o := .cells #[.int .i64 t261, .slice Ao12 t262.length co12, .slice Ao13 t265.length co13] 27 (0, 0)) (by (with_reducible repeat (first | refine blk_drewN ?_ _ | refine blk_drew ?_ | refine blk_alloc ?_ _)); exact BK269.out) hb)
                  have n3_ := Aside0.mk (IsS43.below (by repeat (first | (with_reducible first | exact HI258.out | apply IsS43.alloc | apply IsS43.drewN | apply IsS43.drew | apply IsS43.set_1 | refine IsS43.far ?_ NB258_269.out _) | exact HI258.out)) hb)
                  have n4_ := Aside0.mk (below_step (by repeat (first | (with_reducible first | exact HB.out | apply below_alloc | apply pw_below_drewN | apply below_drew1 | refine below_set ?_ (IsS43.ge HI258.out) | refine below_set ?_ GE269.out) | exact HB.out)) hb)
                  clear HO_270001
                  clear HO_270002
                  clear BK269
                  clear HI258
                  clear HB
                  have HO_270001 := n0_
                  have HO_270002 := n1_
                  have BK269 := n2_
                  have HI258 := n3_
                  have HB := n4_
                  clear n0_ n1_ n2_ n3_ n4_
                  (try clear hb)
                  (try clear hb2)
                  (try clear hk)
                  (try clear hi)
                  refine hK.out _ _ ⟨(blk_cell BK269.out 0).trans rfl, (blk_cell BK269.out 1).trans rfl, (blk_cell BK269.out 2).trans rfl⟩ (fun hHeld => ?_)
                  clear hK K
                  refine norm_ (a' := ?_) ?_ ?_
                  rotate_left
                  · show Act.put _ (some 59) _ = _
                    simp only [Act.put, List.setIfInBounds_toArray, List.set_cons_zero, List.set_cons_succ, i64_w, i32_w]
                    rfl
                  refine one_ (i := 17) (N := some 64) #[true, true, true, true, true, true, true, true, true, true, true, true, true, true, true, true, true, true, false, false] rfl rfl (one_of HT_.out (by kernel_rfl)) (by decide) (fun K hK => ?_)
                  refine goes_ Try.func12 (by kernel_rfl) rfl #[.agg #[.int .i64 t261, .slice Ao12 t262.length co12, .slice Ao13 t265.length co13], .int .i64 (Go.bits .and .i64 t272 t270)] (by rfl) rfl rfl (by (try simp only [List.map_toArray, List.map_cons, List.map_nil]); first | done | rfl | (simp only [List.length_drop, List.length_take]; rfl)) ?_
                  with_reducible refine (threshold_Blocked.calls kj17 t261 _ _ t262 _ _ t265 (Go.bits .and .i64 t272 t270) t285 _ ?side1 ?side2 ?side3 ?side4 A72.out).mono ?_
                  (case side1 => repeat (first | exact (Kd.R_reads' HO_270001.out).2.2 | (with_reducible refine Kd.C_alloc ?_ _) | (with_reducible refine Kd.C_drewN ?_ _) | (with_reducible refine Kd.C_drew ?_)))
                  (case side2 => exact (Kd.R_reads' HO_270001.out).2.1)
                  (case side3 => repeat (first | exact (Kd.R_reads' HO_270002.out).2.2 | (with_reducible refine Kd.C_alloc ?_ _) | (with_reducible refine Kd.C_drewN ?_ _) | (with_reducible refine Kd.C_drew ?_)))
                  (case side4 => exact (Kd.R_reads' HO_270002.out).2.1)
                  rintro e w83 ⟨rfl, hb⟩
                  refine ⟨_, rfl, ?_⟩
                  have n0_ := Aside0.mk (Kd.R_below (by (with_reducible repeat (first | apply Kd.R_alloc | apply Kd.R_drewN | apply Kd.R_drew)); exact HO_270001.out) hb)
                  have n1_ := Aside0.mk (Kd.R_below (by (with_reducible repeat (first | apply Kd.R_alloc | apply Kd.R_drewN | apply Kd.R_drew)); exact HO_270002.out) hb)
                  have n2_ := Aside0.mk (blk_below (g := gb269) (o := .cells #[.int .i64 t261, .slice Ao12 t262.length co12, .slice Ao13 t265.length co13] 27 (0, 0)) (by (with_reducible repeat (first | refine blk_drewN ?_ _ | refine blk_drew ?_ | refine blk_alloc ?_ _)); exact BK269.out) hb)
                  have n3_ := Aside0.mk (IsS43.below (by repeat (first | (with_reducible first | exact HI258.out | apply IsS43.alloc | apply IsS43.drewN | apply IsS43.drew | apply IsS43.set_1 | refine IsS43.far ?_ NB258_269.out _) | exact HI258.out)) hb)
                  have n4_ := Aside0.mk (below_step (by repeat (first | (with_reducible first | exact HB.out | apply below_alloc | apply pw_below_drewN | apply below_drew1 | refine below_set ?_ (IsS43.ge HI258.out) | refine below_set ?_ GE269.out) | exact HB.out)) hb)
                  clear HO_270001
                  clear HO_270002
                  clear BK269
                  clear HI258
                  clear HB
                  have HO_270001 := n0_
                  have HO_270002 := n1_
                  have BK269 := n2_
                  have HI258 := n3_
                  have HB := n4_
                  clear n0_ n1_ n2_ n3_ n4_
                  (try clear hb)
                  (try clear hb2)
                  (try clear hk)
                  (try clear hi)
                  refine hK.out _ _ ⟨(blk_cell BK269.out 0).trans rfl, (blk_cell BK269.out 1).trans rfl, (blk_cell BK269.out 2).trans rfl⟩ (fun hHeld => ?_)
                  clear hK K
                  refine norm_ (a' := ?_) ?_ ?_
                  rotate_left
                  · show Act.put _ (some 64) _ = _
                    simp only [Act.put, List.setIfInBounds_toArray, List.set_cons_zero, List.set_cons_succ, i64_w, i32_w]
                    rfl
                  refine pure_ (i := 18) (N := some 65) (v := ?_) (a' := ?_) #[true, true, true, true, true, true, true, true, true, true, true, true, true, true, true, true, true, true, true, false] rfl rfl (any_of HT_.out (by kernel_rfl)) (fun _ _ _ h => h) (Or.inl ⟨by rfl, ?_⟩) ?_ ?_
                  rotate_left
                  · intro w'
                    go_simp
                    with_reducible rfl
                  rotate_left
                  · simp only [Act.put, List.setIfInBounds_toArray, List.set_cons_zero, List.set_cons_succ, i64_w, i32_w]
                    rfl
                  refine pure_ (i := 19) (N := some 66) (v := ?_) (a' := ?_) #[true, true, true, true, true, true, true, true, true, true, true, true, true, true, true, true, true, true, true, true] rfl rfl (any_of HT_.out (by kernel_rfl)) (fun _ _ _ h => h) (Or.inl ⟨by rfl, ?_⟩) ?_ ?_
                  rotate_left
                  · intro w'
                    go_simp
                    with_reducible rfl
                  rotate_left
                  · simp only [Act.put, List.setIfInBounds_toArray, List.set_cons_zero, List.set_cons_succ, i64_w, i32_w]
                    rfl
                  refine done_ (done_of HT_.out (by kernel_rfl)) ?_
                  try go_wp2
                  go_roundg kj17
                  case measure => have := HK1.out; have := HJ17.out; omega
                  case rel => exact ⟨(wrap64 (x6_1 + 1)), (t275), (by first | rfl | (simp; done) | (simp [*]; done)), H', ⟨by have := HK1.out; have := HJ17.out; omega⟩, ⟨by (with_reducible repeat (first | apply Kd.R_alloc | apply Kd.R_drewN | apply Kd.R_drew)); exact HO_270001.out⟩, ⟨by (with_reducible repeat (first | apply Kd.R_alloc | apply Kd.R_drewN | apply Kd.R_drew)); exact HO_270002.out⟩, ⟨by (with_reducible repeat (first | refine blk_drewN ?_ _ | refine blk_drew ?_ | refine blk_alloc ?_ _)); exact BK269.out⟩, ⟨by repeat (first | (with_reducible first | exact HI258.out | apply IsS43.alloc | apply IsS43.drewN | apply IsS43.drew | apply IsS43.set_1 | refine IsS43.far ?_ NB258_269.out _) | exact HI258.out)⟩, ⟨by repeat (first | (with_reducible first | exact HB.out | apply below_alloc | apply pw_below_drewN | apply below_drew1 | refine below_set ?_ (IsS43.ge HI258.out) | refine below_set ?_ GE269.out) | exact HB.out)⟩⟩
      · rw [if_neg c15] at H
        have c15b0 : decide (x6_1 < 6) = false := decide_eq_false c15
        clear c15
        replace H := Option.bind_eq_some_iff.mp H
        obtain ⟨t271, A840, H⟩ := H
        replace H : (some t271) = some r := H
        have A84 := Aside0.mk A840
        clear A840
        obtain rfl := Option.some.inj H
        go_wp2_with (first | ((with_reducible refine gate_callee (f := 14) rfl ?_); refine goesL_ (some 67) rfl rfl Try.func14 (by kernel_rfl) rfl #[] rfl (by (try simp only [List.map_toArray, List.map_cons, List.map_nil]); first | done | rfl | (simp only [List.length_drop, List.length_take]; rfl)) ?_; (with_reducible refine (trustquorumlaw02_awake.calls k1  t271 _ A84.out).mono ?_); rintro e w85 ⟨rfl, hb⟩; refine ⟨_, rfl, ?_⟩; have n0_ := Aside0.mk (Kd.R_below (by (with_reducible repeat (first | apply Kd.R_alloc | apply Kd.R_drewN | apply Kd.R_drew)); exact HO_270001.out) hb); have n1_ := Aside0.mk (Kd.R_below (by (with_reducible repeat (first | apply Kd.R_alloc | apply Kd.R_drewN | apply Kd.R_drew)); exact HO_270002.out) hb); have n2_ := Aside0.mk (blk_below (g := gb269) (o := .cells #[.int .i64 t261, .slice Ao12 t262.length co12, .slice Ao13 t265.length co13] 27 (0, 0)) (by (with_reducible repeat (first | refine blk_drewN ?_ _ | refine blk_drew ?_ | refine blk_alloc ?_ _)); exact BK269.out) hb); have n3_ := Aside0.mk (IsS43.below (by repeat (first | (with_reducible first | exact HI258.out | apply IsS43.alloc | apply IsS43.drewN | apply IsS43.drew | apply IsS43.set_1 | refine IsS43.far ?_ NB258_269.out _) | exact HI258.out)) hb); have n4_ := Aside0.mk (below_step (by repeat (first | (with_reducible first | exact HB.out | apply below_alloc | apply pw_below_drewN | apply below_drew1 | refine below_set ?_ (IsS43.ge HI258.out) | refine below_set ?_ GE269.out) | exact HB.out)) hb); clear HO_270001; clear HO_270002; clear BK269; clear HI258; clear HB; have HO_270001 := n0_; have HO_270002 := n1_; have BK269 := n2_; have HI258 := n3_; have HB := n4_; clear n0_ n1_ n2_ n3_ n4_; (try clear hb); (try clear hb2); (try clear hk); (try clear hi)))
        go_ret
        exact ⟨by first | rfl | (simp [errW_none, errW_some] <;> rfl) | (simp [*, errW_none, errW_some] <;> rfl), by repeat (first | (with_reducible first | exact HB.out | apply below_alloc | apply pw_below_drewN | apply below_drew1 | refine below_set ?_ (IsS43.ge HI258.out) | refine below_set ?_ GE269.out) | exact HB.out)⟩

/-- THE ONE PURE STATEMENT of trustquorumlaw02_ThresholdGrows: yours. -/
def trustquorumlaw02_ThresholdGrows.Pure : Prop := ∀ (l0 : List Int), l0.length ≤ maxLen → l0.length * 8 ≤ 140737488351232 → (∀ x ∈ l0, (Lit.int .i64 x).wf = true) → ∃ k, trustquorumlaw02_ThresholdGrows.f k l0 = some true
theorem trustquorumlaw02_ThresholdGrows.walk (P : trustquorumlaw02_ThresholdGrows.Pure) (a0 : Option Addr) (len0 cap0 : Nat) (z0 : List Int) (w : World) (w0 : (a0 = none ∧ len0 = 0 ∧ cap0 = 0 ∧ z0 = []) ∨ ∃ x, a0 = some x ∧ len0 ≤ cap0 ∧ cap0 ≤ maxLen ∧ z0.length = cap0 ∧ (∀ i, i < z0.length → w.cell? (x.add i) = some (.int .i64 (z0.getD i 0))) ∧ ∀ n ∈ z0, (Lit.int .i64 n).wf = true) (y0 : len0 * 8 ≤ 140737488351232) :
    Calls Try.prog 4 #[.slice a0 len0 cap0] w fun e w' => e = .returned (.bool true) ∧ Below w.heap.size w w' := by
  obtain ⟨l0, rfl, hr0, hm0, hw0, hc0⟩ := ReadsInt.ofRowC w0
  obtain ⟨k, h⟩ := P l0 hm0 y0 hw0
  refine (trustquorumlaw02_ThresholdGrows.calls k _ _ l0 true w (Kd.C_of_reads (d := (0 : Int)) (h1 := fun _ => rfl) hr0) hc0 h).mono ?_
  rintro e w' ⟨rfl, hd⟩
  exact ⟨rfl, hd⟩

end Go.Proofs.Yteljoemeogeidaa.QThresholdGrows
