/- Lean functions that answer as the Go functions do which the law reaches, and proofs that the Go code comes to exactly these answers. Conditions: those that each theorem names. -/
import Derived.Test.YteljoemeogeidaaQThresholdDualx0
import Derived.Test.YteljoemeogeidaaQThresholdDualx1
import Derived.Test.YteljoemeogeidaaQThresholdDualx2
import Derived.Test.YteljoemeogeidaaQThresholdDualx4
import Derived.Test.YteljoemeogeidaaQThresholdDualx5
import Derived.Test.YteljoemeogeidaaQThresholdDualx6
import Derived.Test.YteljoemeogeidaaQThresholdDualx7
import Derived.Test.YteljoemeogeidaaQThresholdDualx8
namespace Go.Proofs.Yteljoemeogeidaa.QThresholdDual
open Go.RowKit Go.Proofs.YteljoemeogeidaaW.PrintWords Go.Proofs.YteljoemeogeidaaW.PrintLast Go.Proofs.YteljoemeogeidaaW.PrintMore
attribute [local go_sem] max2_int min2_int max_two min_two max_three min_three max_four min_four   -- for this text's walks alone
set_option linter.unusedVariables false
set_option linter.unusedSimpArgs false

/-! ### trustquorumlaw02_ThresholdDual: function 6 -/
def trustquorumlaw02_ThresholdDual.l0 : Nat → Int → List Int → Int → Int → List Int → List (S27) → Int → List Int → List (S27) → Option (Bool)
  | 0, _, _, _, _, _, _, _, _, _ => none
  | k + 1, x6, x289000, x289001, x300000, x300001, x300002, x308000, x308001, x308002 => if x6 < 1024 then ((threshold_Blocked.f k x300000 x300001 x300002 x6).bind fun t308 => ((threshold_Satisfied.f k x308000 x308001 x308002 x6).bind fun t309 => (if (t308 != t309) = true then (some false) else ((threshold_Satisfied.f k x300000 x300001 x300002 x6).bind fun t310 => ((threshold_Blocked.f k x308000 x308001 x308002 x6).bind fun t311 => (if (t310 != t311) = true then (some false) else ((trustquorummake_Tape_Range.f x289000 x289001 1 3).bind fun bt312 => (trustquorumlaw02_ThresholdDual.l0 k (wrap64 (x6 + bt312.1)) x289000 bt312.2 x300000 x300001 x300002 x308000 x308001 x308002)))))))) else ((threshold_Valid.f k x308000 x308001 x308002).bind fun t314 => (if t314 = 0 then ((threshold_Dual.f k x308000 x308001 x308002).bind fun bt315 => ((threshold_Same.f k bt315.1 bt315.2.1 bt315.2.2 x300000 x300001 x300002).bind fun t322 => (if t322 = true then ((trustquorumlaw02_awake.f k).bind fun t323 => (some t323)) else (some false)))) else (some false)))
def trustquorumlaw02_ThresholdDual.f (k : Nat) (l0 : List Int) : Option (Bool) := (trustquorummake_New.f l0).bind fun bt286 => ((trustquorummake_Tape_Range.f bt286.1 bt286.2 1 10).bind fun bt289 => ((trustquorummake_Trust.f k bt286.1 bt289.2 bt289.1 3).bind fun bt291 => ((threshold_Dual.f k bt291.1 bt291.2.1 bt291.2.2.1).bind fun bt300 => (trustquorumlaw02_ThresholdDual.l0 k 0 bt286.1 bt291.2.2.2 bt291.1 bt291.2.1 bt291.2.2.1 bt300.1 bt300.2.1 bt300.2.2))))
theorem trustquorumlaw02_ThresholdDual.mono_l : ∀ k, (∀ y0 y1 y2 y3 y4 y5 y6 y7 y8, LeO (trustquorumlaw02_ThresholdDual.l0 k y0 y1 y2 y3 y4 y5 y6 y7 y8) (trustquorumlaw02_ThresholdDual.l0 (k + 1) y0 y1 y2 y3 y4 y5 y6 y7 y8))
  | 0 => fun _ _ _ _ _ _ _ _ _ r h => by simp [trustquorumlaw02_ThresholdDual.l0] at h
  | k + 1 => by
    have ih0 := trustquorumlaw02_ThresholdDual.mono_l k
    · intro y0 y1 y2 y3 y4 y5 y6 y7 y8
      unfold trustquorumlaw02_ThresholdDual.l0
      repeat' first
      | (with_reducible exact ih0 _ _ _ _ _ _ _ _ _)
      | (with_reducible exact threshold_Blocked.mono _ _ _ _ _)
      | (with_reducible exact threshold_Dual.mono _ _ _ _)
      | (with_reducible exact threshold_Same.mono _ _ _ _ _ _ _)
      | (with_reducible exact threshold_Satisfied.mono _ _ _ _ _)
      | (with_reducible exact threshold_Valid.mono _ _ _ _)
      | (with_reducible exact trustquorumlaw02_awake.mono _)
      | (with_reducible exact trustquorummake_Trust.mono _ _ _ _ _)
      | (with_reducible exact LeO.refl _)
      | (with_reducible exact LeO.none _)
      | (with_reducible refine LeO.ite ?_ ?_)
      | (with_reducible refine LeO.bind ?_ (fun _ => ?_))
      | exact ih0 _ _ _ _ _ _ _ _ _
      | exact threshold_Blocked.mono _ _ _ _ _
      | exact threshold_Dual.mono _ _ _ _
      | exact threshold_Same.mono _ _ _ _ _ _ _
      | exact threshold_Satisfied.mono _ _ _ _ _
      | exact threshold_Valid.mono _ _ _ _
      | exact trustquorumlaw02_awake.mono _
      | exact trustquorummake_Trust.mono _ _ _ _ _
      | exact LeO.none _
      | refine LeO.ite ?_ ?_
      | refine LeO.bind ?_ (fun _ => ?_)
theorem trustquorumlaw02_ThresholdDual.mono : ∀ a0 k, LeO (trustquorumlaw02_ThresholdDual.f k a0) (trustquorumlaw02_ThresholdDual.f (k + 1) a0) := by
  intro a0 k
  have ih0 := trustquorumlaw02_ThresholdDual.mono_l k
  unfold trustquorumlaw02_ThresholdDual.f
  repeat' first
      | (with_reducible exact ih0 _ _ _ _ _ _ _ _ _)
      | (with_reducible exact threshold_Blocked.mono _ _ _ _ _)
      | (with_reducible exact threshold_Dual.mono _ _ _ _)
      | (with_reducible exact threshold_Same.mono _ _ _ _ _ _ _)
      | (with_reducible exact threshold_Satisfied.mono _ _ _ _ _)
      | (with_reducible exact threshold_Valid.mono _ _ _ _)
      | (with_reducible exact trustquorumlaw02_awake.mono _)
      | (with_reducible exact trustquorummake_Trust.mono _ _ _ _ _)
      | (with_reducible exact LeO.refl _)
      | (with_reducible exact LeO.none _)
      | (with_reducible refine LeO.ite ?_ ?_)
      | (with_reducible refine LeO.bind ?_ (fun _ => ?_))
      | exact ih0 _ _ _ _ _ _ _ _ _
      | exact threshold_Blocked.mono _ _ _ _ _
      | exact threshold_Dual.mono _ _ _ _
      | exact threshold_Same.mono _ _ _ _ _ _ _
      | exact threshold_Satisfied.mono _ _ _ _ _
      | exact threshold_Valid.mono _ _ _ _
      | exact trustquorumlaw02_awake.mono _
      | exact trustquorummake_Trust.mono _ _ _ _ _
      | exact LeO.none _
      | refine LeO.ite ?_ ?_
      | refine LeO.bind ?_ (fun _ => ?_)
def trustquorumlaw02_ThresholdDual.T7 : Bool × List (List Nat × List Nat) := (true, [([], []), ([], []), ([0, 1], [0, 1]), ([], []), ([], []), ([3, 4, 2], [3, 4]), ([2, 5], [2, 5]), ([6, 5], [6]), ([7], [7]), ([7], [7]), ([8, 9, 7, 7], [7, 8, 9]), ([7], [7]), ([7], [7]), ([11, 12, 10, 7], [7, 11, 12]), ([10, 13, 7], [7, 10, 13]), ([7, 14], [7, 14])])
def trustquorumlaw02_ThresholdDual.B7 : List Nat := [0, 0, 3, 0, 0, 31, 63, 127, 255, 255, 1023, 255, 255, 8191, 16383, 32767]
theorem trustquorumlaw02_ThresholdDual.tab7 : rtab .any (opsOf Try.f6 7) = trustquorumlaw02_ThresholdDual.T7 := by kernel_rfl
theorem trustquorumlaw02_ThresholdDual.bits7 : waitsOk trustquorumlaw02_ThresholdDual.T7.2 trustquorumlaw02_ThresholdDual.B7 = true := by kernel_rfl
def trustquorumlaw02_ThresholdDual.T9 : Bool × List (List Nat × List Nat) := (true, [([], []), ([0], [0]), ([1], [1]), ([2, 1], [2]), ([3], [3]), ([4, 3, 3], [3, 4]), ([3], [3]), ([5, 6, 5, 3], [3, 5, 6]), ([3, 7], [3, 7]), ([8, 7], [8]), ([9, 9], [9]), ([9, 10], [9, 10]), ([11, 10, 0, 1, 2, 3, 4, 5, 6, 7, 8, 9, 10, 11], [11])])
def trustquorumlaw02_ThresholdDual.B9 : List Nat := [0, 1, 3, 7, 15, 31, 15, 127, 255, 511, 1023, 2047, 4095]
theorem trustquorumlaw02_ThresholdDual.tab9 : rtab .any (opsOf Try.f6 9) = trustquorumlaw02_ThresholdDual.T9 := by kernel_rfl
theorem trustquorumlaw02_ThresholdDual.bits9 : waitsOk trustquorumlaw02_ThresholdDual.T9.2 trustquorumlaw02_ThresholdDual.B9 = true := by kernel_rfl
set_option maxHeartbeats 8000000 in
set_option maxRecDepth 100000 in
theorem trustquorumlaw02_ThresholdDual.calls (k : Nat) (A0 : Option Addr) (c0 : Nat) (l0 : List Int) (r : Bool) (w : World) (hr0 : Kd.C (Kd.int .i64) w A0 l0.length l0) (hc0 : l0.length ≤ c0) (HRT : Aside0 (r = true)) (h : trustquorumlaw02_ThresholdDual.f k l0 = some r) :
    Calls Try.prog 6 #[.slice A0 l0.length c0] w fun e w' => e = .returned (.bool r) ∧ Below w.heap.size w w' := by
  have hu27 := Try.underlying27
  have HR0 := Aside0.mk hr0
  have HC0 := Aside0.mk hc0
  clear hr0 hc0
  have HB := Aside0.mk (Below.refl w.heap.size w)
  have H : ((trustquorummake_New.f l0).bind fun bt286 => ((trustquorummake_Tape_Range.f bt286.1 bt286.2 1 10).bind fun bt289 => ((trustquorummake_Trust.f k bt286.1 bt289.2 bt289.1 3).bind fun bt291 => ((threshold_Dual.f k bt291.1 bt291.2.1 bt291.2.2.1).bind fun bt300 => (trustquorumlaw02_ThresholdDual.l0 k 0 bt286.1 bt291.2.2.2 bt291.1 bt291.2.1 bt291.2.2.1 bt300.1 bt300.2.1 bt300.2.2))))) = some r := h
  clear h
  replace H := Option.bind_eq_some_iff.mp H
  obtain ⟨⟨t286, t287⟩, A20, H⟩ := H
  replace H : ((trustquorummake_Tape_Range.f t286 t287 1 10).bind fun bt289 => ((trustquorummake_Trust.f k t286 bt289.2 bt289.1 3).bind fun bt291 => ((threshold_Dual.f k bt291.1 bt291.2.1 bt291.2.2.1).bind fun bt300 => (trustquorumlaw02_ThresholdDual.l0 k 0 t286 bt291.2.2.2 bt291.1 bt291.2.1 bt291.2.2.1 bt300.1 bt300.2.1 bt300.2.2)))) = some r := H
  have A2 := Aside0.mk A20
  clear A20
  replace H := Option.bind_eq_some_iff.mp H
  obtain ⟨⟨t289, t290⟩, A30, H⟩ := H
  replace H : ((trustquorummake_Trust.f k t286 t290 t289 3).bind fun bt291 => ((threshold_Dual.f k bt291.1 bt291.2.1 bt291.2.2.1).bind fun bt300 => (trustquorumlaw02_ThresholdDual.l0 k 0 t286 bt291.2.2.2 bt291.1 bt291.2.1 bt291.2.2.1 bt300.1 bt300.2.1 bt300.2.2))) = some r := H
  have A3 := Aside0.mk A30
  clear A30
  replace H := Option.bind_eq_some_iff.mp H
  obtain ⟨⟨t291, t292, t295, t298⟩, A40, H⟩ := H
  replace H : ((threshold_Dual.f k t291 t292 t295).bind fun bt300 => (trustquorumlaw02_ThresholdDual.l0 k 0 t286 t298 t291 t292 t295 bt300.1 bt300.2.1 bt300.2.2)) = some r := H
  have A4 := Aside0.mk A40
  clear A40
  replace H := Option.bind_eq_some_iff.mp H
  obtain ⟨⟨t300, t301, t304⟩, A50, H⟩ := H
  replace H : (trustquorumlaw02_ThresholdDual.l0 k 0 t286 t298 t291 t292 t295 t300 t301 t304) = some r := H
  have A5 := Aside0.mk A50
  clear A50
  have H' := Aside0.mk H
  clear H
  go_enter Try.func6, Try.ntmps6
  go_wp2_with (first | ((with_reducible refine gate_callee (f := 8) rfl ?_); refine goesL_ (some 8) rfl rfl Try.func8 (by kernel_rfl) rfl #[.slice A0 l0.length c0] rfl (by (try simp only [List.map_toArray, List.map_cons, List.map_nil]); first | done | rfl | (simp only [List.length_drop, List.length_take]; rfl)) ?_; (with_reducible refine (trustquorummake_New.calls _ _ l0 t286 t287 w _ ?side1 ?side2 ?side3 A2.out).mono ?_); (case side1 => repeat (first | (with_reducible first | exact HB.out | apply below_alloc | apply pw_below_drewN | apply below_drew1) | exact HB.out)); (case side2 => exact HR0.out); (case side3 => exact HC0.out); rintro e w6 ⟨g288, rfl, hi, hb, hb2⟩; refine ⟨_, rfl, ?_⟩; have n0_ := Aside0.mk (hb); have n1_ := Aside0.mk (hi); clear HB; have HB := n0_; have HI288 := n1_; clear n0_ n1_; (try clear hb); (try clear hb2); (try clear hk); (try clear hi)) | ((with_reducible refine gate_callee (f := 10) rfl ?_); refine goesL_ (some 11) rfl rfl Try.func10 (by kernel_rfl) rfl #[.pointer (some ⟨g288, 0, none⟩), .int .i64 1, .int .i64 10] rfl (by (try simp only [List.map_toArray, List.map_cons, List.map_nil]); first | done | rfl | (simp only [List.length_drop, List.length_take]; rfl)) ?_; (with_reducible refine (trustquorummake_Tape_Range.calls g288 t286 t287 1 10 t289 t290 w _ ?side1 ?side2 A3.out).mono ?_); (case side1 => repeat (first | (with_reducible first | exact HI288.out | apply IsS43.alloc | apply IsS43.drewN | apply IsS43.drew | apply IsS43.set_1) | exact HI288.out)); (case side2 => repeat (first | (with_reducible first | exact HB.out | apply below_alloc | apply pw_below_drewN | apply below_drew1 | refine below_set ?_ (IsS43.ge HI288.out)) | exact HB.out)); rintro e w7 ⟨rfl, hi, hb, hk⟩; refine ⟨_, rfl, ?_⟩; have n0_ := Aside0.mk (hb); have n1_ := Aside0.mk (hi); clear HB; clear HI288; have HB := n0_; have HI288 := n1_; clear n0_ n1_; (try clear hb); (try clear hb2); (try clear hk); (try clear hi)) | ((with_reducible refine gate_callee (f := 9) rfl ?_); refine goesL_ (some 12) rfl rfl Try.func9 (by kernel_rfl) rfl #[.pointer (some ⟨g288, 0, none⟩), .int .i64 t289, .int .i64 3] rfl (by (try simp only [List.map_toArray, List.map_cons, List.map_nil]); first | done | rfl | (simp only [List.length_drop, List.length_take]; rfl)) ?_; (with_reducible refine (trustquorummake_Trust.calls k g288 t286 t290 t289 3 t291 t292 t295 t298 w _ ?side1 ?side2 A4.out).mono ?_); (case side1 => repeat (first | (with_reducible first | exact HI288.out | apply IsS43.alloc | apply IsS43.drewN | apply IsS43.drew | apply IsS43.set_1) | exact HI288.out)); (case side2 => repeat (first | (with_reducible first | exact HB.out | apply below_alloc | apply pw_below_drewN | apply below_drew1 | refine below_set ?_ (IsS43.ge HI288.out)) | exact HB.out)); rintro e w8 ⟨v293, v296, rfl, ho0, ho1, hi, hb, hk⟩; refine ⟨_, rfl, ?_⟩; have n0_ := Aside0.mk (Kd.R_lower ho0 (below_size (by repeat (first | (with_reducible first | exact HB.out | apply below_alloc | apply pw_below_drewN | apply below_drew1 | refine below_set ?_ (IsS43.ge HI288.out)) | exact HB.out)))); have n1_ := Aside0.mk (Kd.R_lower ho1 (below_size (by repeat (first | (with_reducible first | exact HB.out | apply below_alloc | apply pw_below_drewN | apply below_drew1 | refine below_set ?_ (IsS43.ge HI288.out)) | exact HB.out)))); have n2_ := Aside0.mk (hb); have n3_ := Aside0.mk (hi); clear HB; clear HI288; have HO294 := n0_; have HO297 := n1_; have HB := n2_; have HI288 := n3_; clear n0_ n1_ n2_ n3_; (try clear hb); (try clear hb2); (try clear hk); (try clear hi); (try clear ho0); (try clear ho1)) | ((with_reducible refine gate_dst (N := 4) rfl ?_); refine box_event ?hg (N := 4) ?hd (cs := #[.int .i64 0, .slice none 0 0, .slice none 0 0]) (t := 27) ?hr ?_; (case hd => rfl); (case hg => rfl); (case hr => first | (go_simp; done) | (go_simp; rfl)); intro gb299 hg w9 hbox hb; have n0_ := Aside0.mk (Kd.R_below (by (with_reducible repeat (first | apply Kd.R_alloc | apply Kd.R_drewN | apply Kd.R_drew)); exact HO294.out) hb); have n1_ := Aside0.mk (Kd.R_below (Kd.R_elderB (by (with_reducible repeat (first | apply Kd.R_alloc | apply Kd.R_drewN | apply Kd.R_drew)); exact HO297.out) gb299 (Nat.le_of_eq hg.symm)) hb); have n2_ := Aside0.mk (IsS43.below (by repeat (first | (with_reducible first | exact HI288.out | apply IsS43.alloc | apply IsS43.drewN | apply IsS43.drew | apply IsS43.set_1) | exact HI288.out)) hb); have n3_ := Aside0.mk (below_step (by repeat (first | (with_reducible first | exact HB.out | apply below_alloc | apply pw_below_drewN | apply below_drew1 | refine below_set ?_ (IsS43.ge HI288.out)) | exact HB.out)) hb); have n4_ := Aside0.mk (hbox); have n5_ := Aside0.mk ((by rw [hg]; exact (below_size (by repeat (first | (with_reducible first | exact HB.out | apply below_alloc | apply pw_below_drewN | apply below_drew1 | refine below_set ?_ (IsS43.ge HI288.out)) | exact HB.out))) : w.heap.size ≤ gb299)); have n6_ := Aside0.mk ((by rw [hg]; exact (below_size (by repeat (first | (with_reducible first | exact HB.out | apply below_alloc | apply pw_below_drewN | apply below_drew1 | refine below_set ?_ (IsS43.ge HI288.out)) | exact HB.out))) : w.heap.size ≤ gb299)); have n7_ := Aside0.mk ((by rw [hg]; exact Nat.ne_of_lt (IsS43.lt (show IsS43 w _ g288 t286 t298 from by repeat (first | (with_reducible first | exact HI288.out | apply IsS43.alloc | apply IsS43.drewN | apply IsS43.drew | apply IsS43.set_1) | exact HI288.out))) : g288 ≠ gb299)); have n8_ := Aside0.mk ((by rw [hg]; exact Nat.ne_of_gt (IsS43.lt (show IsS43 w _ g288 t286 t298 from by repeat (first | (with_reducible first | exact HI288.out | apply IsS43.alloc | apply IsS43.drewN | apply IsS43.drew | apply IsS43.set_1) | exact HI288.out))) : gb299 ≠ g288)); clear HO294; clear HO297; clear HI288; clear HB; have HO294 := n0_; have HO297 := n1_; have HI288 := n2_; have HB := n3_; have BK299 := n4_; have GW299 := n5_; have GE299 := n6_; have NB288_299 := n7_; have NB299_288 := n8_; clear n0_ n1_ n2_ n3_ n4_ n5_ n6_ n7_ n8_; clear hb hbox hg; have hnb10 := NB299_288.out; have hnc10 := NB288_299.out; have hcz11_0 : w9.cell? ⟨gb299, 0, none⟩ = some (.int .i64 0) := (blk_cell BK299.out 0).trans rfl; have hcz11_1 : w9.cell? ⟨gb299, 1, none⟩ = some (.slice none 0 0) := (blk_cell BK299.out 1).trans rfl; have hcz11_2 : w9.cell? ⟨gb299, 2, none⟩ = some (.slice none 0 0) := (blk_cell BK299.out 2).trans rfl; have hfz11_0 := blk_frozen BK299.out 0; have hfz11_1 := blk_frozen BK299.out 1; have hfz11_2 := blk_frozen BK299.out 2; obtain ⟨Ao12, co12, eo12⟩ := Kd.R_slice HO294.out; subst eo12; obtain ⟨Ao13, co13, eo13⟩ := Kd.R_slice HO297.out; subst eo13) | ((with_reducible refine gate_callee (f := 20) rfl ?_); refine goesL_ (some 14) rfl rfl Try.func20 (by kernel_rfl) rfl #[.agg #[.int .i64 t291, .slice Ao12 t292.length co12, .slice Ao13 t295.length co13]] rfl (by (try simp only [List.map_toArray, List.map_cons, List.map_nil]); first | done | rfl | (simp only [List.length_drop, List.length_take]; rfl)) ?_; (with_reducible refine (threshold_Dual.calls k t291 _ _ t292 _ _ t295 t300 t301 t304 _ ?side1 ?side2 ?side3 ?side4 A5.out).mono ?_); (case side1 => refine (Kd.R_reads' (e := 3) (base := w.heap.size) (ok := fun k_ => True) (n := t292.length) (c := co12) ?_).2.2; exact (by (with_reducible repeat (first | apply Kd.R_alloc | apply Kd.R_drewN | apply Kd.R_drew)); exact (Kd.R_mono (Kd.R_far (p := ⟨gb299, 2, none⟩) (Kd.R_far (p := ⟨gb299, 1, none⟩) (Kd.R_far (p := ⟨gb299, 0, none⟩) (Kd.R_types HO294.out BK299.out (by decide)) (fun _ hk => hk.2) (.int .i64 t291)) (fun _ hk => hk.2) (.slice Ao12 t292.length co12)) (fun _ hk => hk.2) (.slice Ao13 t295.length co13)) (fun _ h_ => h_.1)))); (case side2 => exact (Kd.R_reads' HO294.out).2.1); (case side3 => refine (Kd.R_reads' (e := 27) (base := w.heap.size) (ok := fun k_ => (some k_ ≠ (.slice Ao12 t292.length co12 : Value).ownBlock ∧ k_ ≠ gb299)) (n := t295.length) (c := co13) ?_).2.2; exact (by (with_reducible repeat (first | apply Kd.R_alloc | apply Kd.R_drewN | apply Kd.R_drew)); exact (Kd.R_mono (Kd.R_far (p := ⟨gb299, 2, none⟩) (Kd.R_far (p := ⟨gb299, 1, none⟩) (Kd.R_far (p := ⟨gb299, 0, none⟩) (Kd.R_mono HO297.out (fun k_ hk => (⟨hk, hk.2⟩ : _ ∧ k_ ≠ gb299))) (fun _ hk => hk.2) (.int .i64 t291)) (fun _ hk => hk.2) (.slice Ao12 t292.length co12)) (fun _ hk => hk.2) (.slice Ao13 t295.length co13)) (fun _ h_ => h_.1)))); (case side4 => exact (Kd.R_reads' HO297.out).2.1); rintro e w14 ⟨v302, v305, rfl, ho0, ho1, hb⟩; refine ⟨_, rfl, ?_⟩; have n0_ := Aside0.mk (Kd.R_elder' (by (with_reducible repeat (first | apply Kd.R_alloc | apply Kd.R_drewN | apply Kd.R_drew)); exact (Kd.R_mono (Kd.R_far (p := ⟨gb299, 2, none⟩) (Kd.R_far (p := ⟨gb299, 1, none⟩) (Kd.R_far (p := ⟨gb299, 0, none⟩) (Kd.R_types HO294.out BK299.out (by decide)) (fun _ hk => hk.2) (.int .i64 t291)) (fun _ hk => hk.2) (.slice Ao12 t292.length co12)) (fun _ hk => hk.2) (.slice Ao13 t295.length co13)) (fun _ h_ => h_.1))) (Kd.R_base ho0) hb); have n1_ := Aside0.mk (Kd.R_mono (Kd.R_told (Kd.R_told (Kd.R_old (by (with_reducible repeat (first | apply Kd.R_alloc | apply Kd.R_drewN | apply Kd.R_drew)); exact (Kd.R_mono (Kd.R_far (p := ⟨gb299, 2, none⟩) (Kd.R_far (p := ⟨gb299, 1, none⟩) (Kd.R_far (p := ⟨gb299, 0, none⟩) (Kd.R_mono HO297.out (fun k_ hk => (⟨hk, hk.2⟩ : _ ∧ k_ ≠ gb299))) (fun _ hk => hk.2) (.int .i64 t291)) (fun _ hk => hk.2) (.slice Ao12 t292.length co12)) (fun _ hk => hk.2) (.slice Ao13 t295.length co13)) (fun _ h_ => h_.1))) hb) (Kd.R_base ho0)) (Kd.R_base ho1)) (fun _ h_ => h_.1)); have n2_ := Aside0.mk (Kd.R_lower (Kd.R_new' ho0 (Kd.R_lt (by (with_reducible repeat (first | apply Kd.R_alloc | apply Kd.R_drewN | apply Kd.R_drew)); exact (Kd.R_mono (Kd.R_far (p := ⟨gb299, 2, none⟩) (Kd.R_far (p := ⟨gb299, 1, none⟩) (Kd.R_far (p := ⟨gb299, 0, none⟩) (Kd.R_types HO294.out BK299.out (by decide)) (fun _ hk => hk.2) (.int .i64 t291)) (fun _ hk => hk.2) (.slice Ao12 t292.length co12)) (fun _ hk => hk.2) (.slice Ao13 t295.length co13)) (fun _ h_ => h_.1))))) (below_size (by repeat (first | (with_reducible first | exact HB.out | apply below_alloc | apply pw_below_drewN | apply below_drew1 | refine below_set ?_ (IsS43.ge HI288.out) | refine below_set ?_ GE299.out) | exact HB.out)))); have n3_ := Aside0.mk (Kd.R_lower (Kd.R_newB (Kd.R_new' (Kd.R_new' ho1 (Kd.R_lt (by (with_reducible repeat (first | apply Kd.R_alloc | apply Kd.R_drewN | apply Kd.R_drew)); exact (Kd.R_mono (Kd.R_far (p := ⟨gb299, 2, none⟩) (Kd.R_far (p := ⟨gb299, 1, none⟩) (Kd.R_far (p := ⟨gb299, 0, none⟩) (Kd.R_types HO294.out BK299.out (by decide)) (fun _ hk => hk.2) (.int .i64 t291)) (fun _ hk => hk.2) (.slice Ao12 t292.length co12)) (fun _ hk => hk.2) (.slice Ao13 t295.length co13)) (fun _ h_ => h_.1))))) (Kd.R_lt (by (with_reducible repeat (first | apply Kd.R_alloc | apply Kd.R_drewN | apply Kd.R_drew)); exact (Kd.R_mono (Kd.R_far (p := ⟨gb299, 2, none⟩) (Kd.R_far (p := ⟨gb299, 1, none⟩) (Kd.R_far (p := ⟨gb299, 0, none⟩) (Kd.R_mono HO297.out (fun k_ hk => (⟨hk, hk.2⟩ : _ ∧ k_ ≠ gb299))) (fun _ hk => hk.2) (.int .i64 t291)) (fun _ hk => hk.2) (.slice Ao12 t292.length co12)) (fun _ hk => hk.2) (.slice Ao13 t295.length co13)) (fun _ h_ => h_.1))))) (g := gb299) (o := .cells #[.int .i64 t291, .slice Ao12 t292.length co12, .slice Ao13 t295.length co13] 27 (0, 0)) (by (with_reducible repeat (first | refine blk_drewN ?_ _ | refine blk_drew ?_ | refine blk_alloc ?_ _)); refine blk_put (cs := #[.int .i64 t291, .slice Ao12 t292.length co12, .slice none 0 0]) ?_ 2 _ rfl; (with_reducible repeat (first | refine blk_drewN ?_ _ | refine blk_drew ?_ | refine blk_alloc ?_ _)); refine blk_put (cs := #[.int .i64 t291, .slice none 0 0, .slice none 0 0]) ?_ 1 _ rfl; (with_reducible repeat (first | refine blk_drewN ?_ _ | refine blk_drew ?_ | refine blk_alloc ?_ _)); refine blk_put (cs := #[.int .i64 0, .slice none 0 0, .slice none 0 0]) ?_ 0 _ rfl; (with_reducible repeat (first | refine blk_drewN ?_ _ | refine blk_drew ?_ | refine blk_alloc ?_ _)); exact BK299.out)) (below_size (by repeat (first | (with_reducible first | exact HB.out | apply below_alloc | apply pw_below_drewN | apply below_drew1 | refine below_set ?_ (IsS43.ge HI288.out) | refine below_set ?_ GE299.out) | exact HB.out)))); have n4_ := Aside0.mk (IsS43.below (show IsS43 w (((w9.setCell ⟨gb299, 0, none⟩ (.int .i64 t291)).setCell ⟨gb299, 1, none⟩ (.slice Ao12 t292.length co12)).setCell ⟨gb299, 2, none⟩ (.slice Ao13 t295.length co13)) g288 t286 t298 from by repeat (first | (with_reducible first | exact HI288.out | apply IsS43.alloc | apply IsS43.drewN | apply IsS43.drew | apply IsS43.set_1 | refine IsS43.far ?_ NB288_299.out _) | exact HI288.out)) hb); have n5_ := Aside0.mk (blk_below (g := gb299) (o := .cells #[.int .i64 t291, .slice Ao12 t292.length co12, .slice Ao13 t295.length co13] 27 (0, 0)) (by (with_reducible repeat (first | refine blk_drewN ?_ _ | refine blk_drew ?_ | refine blk_alloc ?_ _)); refine blk_put (cs := #[.int .i64 t291, .slice Ao12 t292.length co12, .slice none 0 0]) ?_ 2 _ rfl; (with_reducible repeat (first | refine blk_drewN ?_ _ | refine blk_drew ?_ | refine blk_alloc ?_ _)); refine blk_put (cs := #[.int .i64 t291, .slice none 0 0, .slice none 0 0]) ?_ 1 _ rfl; (with_reducible repeat (first | refine blk_drewN ?_ _ | refine blk_drew ?_ | refine blk_alloc ?_ _)); refine blk_put (cs := #[.int .i64 0, .slice none 0 0, .slice none 0 0]) ?_ 0 _ rfl; (with_reducible repeat (first | refine blk_drewN ?_ _ | refine blk_drew ?_ | refine blk_alloc ?_ _)); exact BK299.out) hb); have n6_ := Aside0.mk (below_step (by repeat (first | (with_reducible first | exact HB.out | apply below_alloc | apply pw_below_drewN | apply below_drew1 | refine below_set ?_ (IsS43.ge HI288.out) | refine below_set ?_ GE299.out) | exact HB.out)) hb); clear HO294; clear HO297; clear HI288; clear BK299; clear HB; have HO294 := n0_; have HO297 := n1_; have HO303 := n2_; have HO306 := n3_; have HI288 := n4_; have BK299 := n5_; have HB := n6_; clear n0_ n1_ n2_ n3_ n4_ n5_ n6_; (try clear hb); (try clear hb2); (try clear hk); (try clear hi); (try clear ho0); (try clear ho1)) | ((with_reducible refine gate_dst (N := 5) rfl ?_); refine box_event ?hg (N := 5) ?hd (cs := #[.int .i64 0, .slice none 0 0, .slice none 0 0]) (t := 27) ?hr ?_; (case hd => rfl); (case hg => rfl); (case hr => first | (go_simp; done) | (go_simp; rfl)); intro gb307 hg w15 hbox hb; have n0_ := Aside0.mk (Kd.R_below (by (with_reducible repeat (first | apply Kd.R_alloc | apply Kd.R_drewN | apply Kd.R_drew)); exact HO294.out) hb); have n1_ := Aside0.mk (Kd.R_below (Kd.R_elderB (by (with_reducible repeat (first | apply Kd.R_alloc | apply Kd.R_drewN | apply Kd.R_drew)); exact HO297.out) gb307 (Nat.le_of_eq hg.symm)) hb); have n2_ := Aside0.mk (Kd.R_below (by (with_reducible repeat (first | apply Kd.R_alloc | apply Kd.R_drewN | apply Kd.R_drew)); exact HO303.out) hb); have n3_ := Aside0.mk (Kd.R_below (Kd.R_elderB (by (with_reducible repeat (first | apply Kd.R_alloc | apply Kd.R_drewN | apply Kd.R_drew)); exact HO306.out) gb307 (Nat.le_of_eq hg.symm)) hb); have n4_ := Aside0.mk (IsS43.below (by repeat (first | (with_reducible first | exact HI288.out | apply IsS43.alloc | apply IsS43.drewN | apply IsS43.drew | apply IsS43.set_1 | refine IsS43.far ?_ NB288_299.out _) | exact HI288.out)) hb); have n5_ := Aside0.mk (blk_below (g := gb299) (o := .cells #[.int .i64 t291, .slice Ao12 t292.length co12, .slice Ao13 t295.length co13] 27 (0, 0)) (by (with_reducible repeat (first | refine blk_drewN ?_ _ | refine blk_drew ?_ | refine blk_alloc ?_ _)); exact BK299.out) hb); have n6_ := Aside0.mk (below_step (by repeat (first | (with_reducible first | exact HB.out | apply below_alloc | apply pw_below_drewN | apply below_drew1 | refine below_set ?_ (IsS43.ge HI288.out) | refine below_set ?_ GE299.out) | exact HB.out)) hb); have n7_ := Aside0.mk (hbox); have n8_ := Aside0.mk ((by rw [hg]; exact (below_size (by repeat (first | (with_reducible first | exact HB.out | apply below_alloc | apply pw_below_drewN | apply below_drew1 | refine below_set ?_ (IsS43.ge HI288.out) | refine below_set ?_ GE299.out) | exact HB.out))) : w.heap.size ≤ gb307)); have n9_ := Aside0.mk ((by rw [hg]; exact (below_size (by repeat (first | (with_reducible first | exact HB.out | apply below_alloc | apply pw_below_drewN | apply below_drew1 | refine below_set ?_ (IsS43.ge HI288.out) | refine below_set ?_ GE299.out) | exact HB.out))) : w.heap.size ≤ gb307)); have n10_ := Aside0.mk ((by rw [hg]; exact Nat.ne_of_lt (blk_lt (g := gb299) (o := .cells #[.int .i64 t291, .slice Ao12 t292.length co12, .slice Ao13 t295.length co13] 27 (0, 0)) (by (with_reducible repeat (first | refine blk_drewN ?_ _ | refine blk_drew ?_ | refine blk_alloc ?_ _)); exact BK299.out)) : gb299 ≠ gb307)); have n11_ := Aside0.mk ((by rw [hg]; exact Nat.ne_of_gt (blk_lt (g := gb299) (o := .cells #[.int .i64 t291, .slice Ao12 t292.length co12, .slice Ao13 t295.length co13] 27 (0, 0)) (by (with_reducible repeat (first | refine blk_drewN ?_ _ | refine blk_drew ?_ | refine blk_alloc ?_ _)); exact BK299.out)) : gb307 ≠ gb299)); have n12_ := Aside0.mk ((by rw [hg]; exact Nat.ne_of_lt (IsS43.lt (show IsS43 w _ g288 t286 t298 from by repeat (first | (with_reducible first | exact HI288.out | apply IsS43.alloc | apply IsS43.drewN | apply IsS43.drew | apply IsS43.set_1 | refine IsS43.far ?_ NB288_299.out _) | exact HI288.out))) : g288 ≠ gb307)); have n13_ := Aside0.mk ((by rw [hg]; exact Nat.ne_of_gt (IsS43.lt (show IsS43 w _ g288 t286 t298 from by repeat (first | (with_reducible first | exact HI288.out | apply IsS43.alloc | apply IsS43.drewN | apply IsS43.drew | apply IsS43.set_1 | refine IsS43.far ?_ NB288_299.out _) | exact HI288.out))) : gb307 ≠ g288)); clear HO294; clear HO297; clear HO303; clear HO306; clear HI288; clear BK299; clear HB; have HO294 := n0_; have HO297 := n1_; have HO303 := n2_; have HO306 := n3_; have HI288 := n4_; have BK299 := n5_; have HB := n6_; have BK307 := n7_; have GW307 := n8_; have GE307 := n9_; have NB299_307 := n10_; have NB307_299 := n11_; have NB288_307 := n12_; have NB307_288 := n13_; clear n0_ n1_ n2_ n3_ n4_ n5_ n6_ n7_ n8_ n9_ n10_ n11_ n12_ n13_; clear hb hbox hg; have hnb16 := NB307_299.out; have hnc16 := NB299_307.out; have hnb17 := NB307_288.out; have hnc17 := NB288_307.out; have hcz18_0 : w15.cell? ⟨gb307, 0, none⟩ = some (.int .i64 0) := (blk_cell BK307.out 0).trans rfl; have hcz18_1 : w15.cell? ⟨gb307, 1, none⟩ = some (.slice none 0 0) := (blk_cell BK307.out 1).trans rfl; have hcz18_2 : w15.cell? ⟨gb307, 2, none⟩ = some (.slice none 0 0) := (blk_cell BK307.out 2).trans rfl; have hfz18_0 := blk_frozen BK307.out 0; have hfz18_1 := blk_frozen BK307.out 1; have hfz18_2 := blk_frozen BK307.out 2; obtain ⟨Ao19, co19, eo19⟩ := Kd.R_slice HO303.out; subst eo19; obtain ⟨Ao20, co20, eo20⟩ := Kd.R_slice HO306.out; subst eo20))
  go_loopg [6] k (fun kq v6 w' => ∃ (x6_1 : Int) (x289001_1 : Int), v6 = .int .i64 x6_1 ∧ Aside0 (trustquorumlaw02_ThresholdDual.l0 kq x6_1 t286 x289001_1 t291 t292 t295 t300 t301 t304 = some r) ∧ Aside0 (kq ≤ k) ∧ Aside0 (Kd.R (Kd.int .i64) 3 w' w.heap.size (fun k_ => some k_ ≠ ((.slice Ao19 t301.length co19) : Value).ownBlock) (.slice Ao12 t292.length co12) t292) ∧ Aside0 (Kd.R k27 27 w' w.heap.size (fun k_ => some k_ ≠ ((.slice Ao12 t292.length co12) : Value).ownBlock ∧ some k_ ≠ ((.slice Ao19 t301.length co19) : Value).ownBlock ∧ some k_ ≠ ((.slice Ao20 t304.length co20) : Value).ownBlock ∧ k_ ≠ gb299 ∧ k_ ≠ gb307) (.slice Ao13 t295.length co13) t295) ∧ Aside0 (Kd.R (Kd.int .i64) 3 w' w.heap.size (fun k_ => some k_ ≠ ((.slice Ao12 t292.length co12) : Value).ownBlock) (.slice Ao19 t301.length co19) t301) ∧ Aside0 (Kd.R k27 27 w' w.heap.size (fun k_ => some k_ ≠ ((.slice Ao12 t292.length co12) : Value).ownBlock ∧ some k_ ≠ ((.slice Ao13 t295.length co13) : Value).ownBlock ∧ some k_ ≠ ((.slice Ao19 t301.length co19) : Value).ownBlock ∧ k_ ≠ gb299 ∧ k_ ≠ gb307) (.slice Ao20 t304.length co20) t304) ∧ Aside0 (w'.heap[gb299]? = some (.cells #[.int .i64 t291, (.slice Ao12 t292.length co12), (.slice Ao13 t295.length co13)] 27 (0, 0))) ∧ Aside0 (w'.heap[gb307]? = some (.cells #[.int .i64 t300, (.slice Ao19 t301.length co19), (.slice Ao20 t304.length co20)] 27 (0, 0))) ∧ Aside0 (IsS43 w w' g288 t286 x289001_1) ∧ Aside0 (Below w.heap.size w w'))
  case atStart => exact ⟨(0), (t298), (by first | rfl | (simp; done) | (simp [*]; done) | (refine congrArg (Value.int .i64) ?_; unfold wrap64; omega)), H', ⟨Nat.le_refl _⟩, ⟨by (with_reducible repeat (first | apply Kd.R_alloc | apply Kd.R_drewN | apply Kd.R_drew)); exact Kd.R_mono (Kd.R_far (p := ⟨gb307, 2, none⟩) (Kd.R_far (p := ⟨gb307, 1, none⟩) (Kd.R_far (p := ⟨gb307, 0, none⟩) (Kd.R_types HO294.out BK307.out (by decide)) (fun _ hk => hk.2) (.int .i64 t300)) (fun _ hk => hk.2) (.slice Ao19 t301.length co19)) (fun _ hk => hk.2) (.slice Ao20 t304.length co20)) (fun _ hk => hk.1.2)⟩, ⟨by (with_reducible repeat (first | apply Kd.R_alloc | apply Kd.R_drewN | apply Kd.R_drew)); exact Kd.R_mono (Kd.R_far (p := ⟨gb307, 2, none⟩) (Kd.R_far (p := ⟨gb307, 1, none⟩) (Kd.R_far (p := ⟨gb307, 0, none⟩) (Kd.R_mono HO297.out (fun k_ hk => (⟨hk, hk.2⟩ : _ ∧ k_ ≠ gb307))) (fun _ hk => hk.2) (.int .i64 t300)) (fun _ hk => hk.2) (.slice Ao19 t301.length co19)) (fun _ hk => hk.2) (.slice Ao20 t304.length co20)) (fun _ hk => ⟨hk.1.1.1.1.1, ⟨hk.1.1.1.2, ⟨hk.1.1.2, ⟨hk.1.1.1.1.2, hk.1.2⟩⟩⟩⟩)⟩, ⟨by (with_reducible repeat (first | apply Kd.R_alloc | apply Kd.R_drewN | apply Kd.R_drew)); exact Kd.R_mono (Kd.R_far (p := ⟨gb307, 2, none⟩) (Kd.R_far (p := ⟨gb307, 1, none⟩) (Kd.R_far (p := ⟨gb307, 0, none⟩) (Kd.R_types HO303.out BK307.out (by decide)) (fun _ hk => hk.2) (.int .i64 t300)) (fun _ hk => hk.2) (.slice Ao19 t301.length co19)) (fun _ hk => hk.2) (.slice Ao20 t304.length co20)) (fun _ hk => hk.1.2)⟩, ⟨by (with_reducible repeat (first | apply Kd.R_alloc | apply Kd.R_drewN | apply Kd.R_drew)); exact Kd.R_mono (Kd.R_far (p := ⟨gb307, 2, none⟩) (Kd.R_far (p := ⟨gb307, 1, none⟩) (Kd.R_far (p := ⟨gb307, 0, none⟩) (Kd.R_mono HO306.out (fun k_ hk => (⟨hk, hk.2⟩ : _ ∧ k_ ≠ gb307))) (fun _ hk => hk.2) (.int .i64 t300)) (fun _ hk => hk.2) (.slice Ao19 t301.length co19)) (fun _ hk => hk.2) (.slice Ao20 t304.length co20)) (fun _ hk => ⟨hk.1.1.1.1.2, ⟨hk.1.1.1.2, ⟨hk.1.1.1.1.1, ⟨hk.1.1.2, hk.1.2⟩⟩⟩⟩)⟩, ⟨by (with_reducible repeat (first | refine blk_drewN ?_ _ | refine blk_drew ?_ | refine blk_alloc ?_ _)); refine blk_far ?_ NB299_307.out _; (with_reducible repeat (first | refine blk_drewN ?_ _ | refine blk_drew ?_ | refine blk_alloc ?_ _)); refine blk_far ?_ NB299_307.out _; (with_reducible repeat (first | refine blk_drewN ?_ _ | refine blk_drew ?_ | refine blk_alloc ?_ _)); refine blk_far ?_ NB299_307.out _; (with_reducible repeat (first | refine blk_drewN ?_ _ | refine blk_drew ?_ | refine blk_alloc ?_ _)); exact BK299.out⟩, ⟨by (with_reducible repeat (first | refine blk_drewN ?_ _ | refine blk_drew ?_ | refine blk_alloc ?_ _)); refine blk_put (cs := #[.int .i64 t300, .slice Ao19 t301.length co19, .slice none 0 0]) ?_ 2 _ rfl; (with_reducible repeat (first | refine blk_drewN ?_ _ | refine blk_drew ?_ | refine blk_alloc ?_ _)); refine blk_put (cs := #[.int .i64 t300, .slice none 0 0, .slice none 0 0]) ?_ 1 _ rfl; (with_reducible repeat (first | refine blk_drewN ?_ _ | refine blk_drew ?_ | refine blk_alloc ?_ _)); refine blk_put (cs := #[.int .i64 0, .slice none 0 0, .slice none 0 0]) ?_ 0 _ rfl; (with_reducible repeat (first | refine blk_drewN ?_ _ | refine blk_drew ?_ | refine blk_alloc ?_ _)); exact BK307.out⟩, ⟨by repeat (first | (with_reducible first | exact HI288.out | apply IsS43.alloc | apply IsS43.drewN | apply IsS43.drew | apply IsS43.set_1 | refine IsS43.far ?_ NB288_299.out _ | refine IsS43.far ?_ NB288_307.out _) | exact HI288.out)⟩, ⟨by repeat (first | (with_reducible first | exact HB.out | apply below_alloc | apply pw_below_drewN | apply below_drew1 | refine below_set ?_ (IsS43.ge HI288.out) | refine below_set ?_ GE299.out | refine below_set ?_ GE307.out) | exact HB.out)⟩⟩
  case round =>
    clear H'
    try clear c1
    try clear c2
    try clear p2
    try clear c6
    try clear p6
    try clear c8
    try clear c9
    try clear c10
    try clear c16
    try clear c17
    try clear c20
    try clear hcz11_0
    try clear hcz11_1
    try clear hcz11_2
    try clear hcz18_0
    try clear hcz18_1
    try clear hcz18_2
    try clear hfz11_0
    try clear hfz11_1
    try clear hfz11_2
    try clear hfz18_0
    try clear hfz18_1
    try clear hfz18_2
    obtain ⟨x6_1, x289001_1, rfl, HA, HK1, HO_300001, HO_300002, HO_308001, HO_308002, BK299, BK307, HI288, HB⟩ := hrel
    cases gk with
    | zero => exact absurd HA.out (by simp [trustquorumlaw02_ThresholdDual.l0])
    | succ k1 =>
      have H := HA.out
      clear HA
      simp only [trustquorumlaw02_ThresholdDual.l0] at H
      by_cases c21 : x6_1 < 1024
      · rw [if_pos c21] at H
        have c21b0 : decide (x6_1 < 1024) = true := decide_eq_true c21
        clear c21
        replace H := Option.bind_eq_some_iff.mp H
        obtain ⟨t308, A220, H⟩ := H
        replace H : ((threshold_Satisfied.f k1 t300 t301 t304 x6_1).bind fun t309 => (if (t308 != t309) = true then (some false) else ((threshold_Satisfied.f k1 t291 t292 t295 x6_1).bind fun t310 => ((threshold_Blocked.f k1 t300 t301 t304 x6_1).bind fun t311 => (if (t310 != t311) = true then (some false) else ((trustquorummake_Tape_Range.f t286 x289001_1 1 3).bind fun bt312 => (trustquorumlaw02_ThresholdDual.l0 k1 (wrap64 (x6_1 + bt312.1)) t286 bt312.2 t291 t292 t295 t300 t301 t304))))))) = some r := H
        have A22 := Aside0.mk A220
        clear A220
        replace H := Option.bind_eq_some_iff.mp H
        obtain ⟨t309, A230, H⟩ := H
        replace H : (if (t308 != t309) = true then (some false) else ((threshold_Satisfied.f k1 t291 t292 t295 x6_1).bind fun t310 => ((threshold_Blocked.f k1 t300 t301 t304 x6_1).bind fun t311 => (if (t310 != t311) = true then (some false) else ((trustquorummake_Tape_Range.f t286 x289001_1 1 3).bind fun bt312 => (trustquorumlaw02_ThresholdDual.l0 k1 (wrap64 (x6_1 + bt312.1)) t286 bt312.2 t291 t292 t295 t300 t301 t304)))))) = some r := H
        have A23 := Aside0.mk A230
        clear A230
        by_cases c24 : (t308 != t309) = true
        · rw [if_pos c24] at H
          have c24b0 : (t308 != t309) = true := c24
          (try (have c24b1 : decide (t308 = t309) = false := by simpa using c24))
          (try (have c24b2 : (t308 == t309) = false := by simpa using c24))
          (try (have c24b3 : ¬ (t308 = t309) := by simpa using c24))
          clear c24
          exact absurd ((Option.some.inj H).trans HRT.out) (by decide)
        · rw [if_neg c24] at H
          have c24b0 : (t308 != t309) = false := by simpa using c24
          (try (have c24b1 : decide (t308 = t309) = true := by simpa using c24))
          (try (have c24b2 : (t308 == t309) = true := by simpa using c24))
          clear c24
          replace H := Option.bind_eq_some_iff.mp H
          obtain ⟨t310, A250, H⟩ := H
          replace H : ((threshold_Blocked.f k1 t300 t301 t304 x6_1).bind fun t311 => (if (t310 != t311) = true then (some false) else ((trustquorummake_Tape_Range.f t286 x289001_1 1 3).bind fun bt312 => (trustquorumlaw02_ThresholdDual.l0 k1 (wrap64 (x6_1 + bt312.1)) t286 bt312.2 t291 t292 t295 t300 t301 t304)))) = some r := H
          have A25 := Aside0.mk A250
          clear A250
          replace H := Option.bind_eq_some_iff.mp H
          obtain ⟨t311, A260, H⟩ := H
          replace H : (if (t310 != t311) = true then (some false) else ((trustquorummake_Tape_Range.f t286 x289001_1 1 3).bind fun bt312 => (trustquorumlaw02_ThresholdDual.l0 k1 (wrap64 (x6_1 + bt312.1)) t286 bt312.2 t291 t292 t295 t300 t301 t304))) = some r := H
          have A26 := Aside0.mk A260
          clear A260
          by_cases c27 : (t310 != t311) = true
          · rw [if_pos c27] at H
            have c27b0 : (t310 != t311) = true := c27
            (try (have c27b1 : decide (t310 = t311) = false := by simpa using c27))
            (try (have c27b2 : (t310 == t311) = false := by simpa using c27))
            (try (have c27b3 : ¬ (t310 = t311) := by simpa using c27))
            clear c27
            exact absurd ((Option.some.inj H).trans HRT.out) (by decide)
          · rw [if_neg c27] at H
            have c27b0 : (t310 != t311) = false := by simpa using c27
            (try (have c27b1 : decide (t310 = t311) = true := by simpa using c27))
            (try (have c27b2 : (t310 == t311) = true := by simpa using c27))
            clear c27
            replace H := Option.bind_eq_some_iff.mp H
            obtain ⟨⟨t312, t313⟩, A280, H⟩ := H
            replace H : (trustquorumlaw02_ThresholdDual.l0 k1 (wrap64 (x6_1 + t312)) t286 t313 t291 t292 t295 t300 t301 t304) = some r := H
            have A28 := Aside0.mk A280
            clear A280
            have H' := Aside0.mk H
            clear H
            try go_wp2
            have n0_ := Aside0.mk (Kd.R_drew HO_300001.out)
            have n1_ := Aside0.mk (Kd.R_drew HO_300002.out)
            have n2_ := Aside0.mk (Kd.R_drew HO_308001.out)
            have n3_ := Aside0.mk (Kd.R_drew HO_308002.out)
            have n4_ := Aside0.mk (blk_drew BK299.out)
            have n5_ := Aside0.mk (blk_drew BK307.out)
            have n6_ := Aside0.mk (IsS43.drew HI288.out)
            have n7_ := Aside0.mk (below_drew1 HB.out)
            clear HO_300001
            clear HO_300002
            clear HO_308001
            clear HO_308002
            clear BK299
            clear BK307
            clear HI288
            clear HB
            have HO_300001 := n0_
            have HO_300002 := n1_
            have HO_308001 := n2_
            have HO_308002 := n3_
            have BK299 := n4_
            have BK307 := n5_
            have HI288 := n6_
            have HB := n7_
            clear n0_ n1_ n2_ n3_ n4_ n5_ n6_ n7_
            refine start_ (n := 16) (S := fun w' => w'.cell? ⟨gb299, 0, none⟩ = some (.int .i64 t291) ∧ w'.cell? ⟨gb299, 1, none⟩ = some (.slice Ao12 t292.length co12) ∧ w'.cell? ⟨gb299, 2, none⟩ = some (.slice Ao13 t295.length co13) ∧ w'.cell? ⟨gb307, 0, none⟩ = some (.int .i64 t300) ∧ w'.cell? ⟨gb307, 1, none⟩ = some (.slice Ao19 t301.length co19) ∧ w'.cell? ⟨gb307, 2, none⟩ = some (.slice Ao20 t304.length co20)) (ds := []) #[false, false, false, false, false, false, false, false, false, false, false, false, false, false, false, false] (by kernel_rfl) rfl rfl ⟨(blk_cell BK299.out 0).trans rfl, (blk_cell BK299.out 1).trans rfl, (blk_cell BK299.out 2).trans rfl, (blk_cell BK307.out 0).trans rfl, (blk_cell BK307.out 1).trans rfl, (blk_cell BK307.out 2).trans rfl⟩ (fun hHeld => ?_); refine with_tabW trustquorumlaw02_ThresholdDual.tab7 trustquorumlaw02_ThresholdDual.bits7 (fun HT_ HW_ => ?_)
            generalize wr.drew = w29 at HO_300001 HO_300002 HO_308001 HO_308002 BK299 BK307 HI288 HB hHeld ⊢
            refine pure_ (i := 1) (N := some 22) (v := ?_) (a' := ?_) #[false, true, false, false, false, false, false, false, false, false, false, false, false, false, false, false] rfl rfl (any_of HT_.out (by kernel_rfl)) (fun _ _ _ h => h) (Or.inl ⟨by rfl, ?_⟩) ?_ ?_
            rotate_left
            · intro w'
              go_simp
              with_reducible rfl
            rotate_left
            · simp only [Act.put, List.setIfInBounds_toArray, List.set_cons_zero, List.set_cons_succ, i64_w, i32_w]
              rfl
            refine pure_ (i := 4) (N := some 25) (v := ?_) (a' := ?_) #[false, true, false, false, true, false, false, false, false, false, false, false, false, false, false, false] rfl rfl (any_of HT_.out (by kernel_rfl)) (fun _ _ _ h => h) (Or.inl ⟨by rfl, ?_⟩) ?_ ?_
            rotate_left
            · intro w'
              go_simp
              with_reducible rfl
            rotate_left
            · simp only [Act.put, List.setIfInBounds_toArray, List.set_cons_zero, List.set_cons_succ, i64_w, i32_w]
              rfl
            refine take_ (i := 0) (N := some 21) (v := ?_) (a' := ?_) #[true, true, false, false, true, false, false, false, false, false, false, false, false, false, false, false] rfl rfl (take_ofW HT_.out HW_.out (by kernel_rfl)) (fun _ _ _ h => h) (Or.inl ⟨by rfl, ?_⟩) hHeld ?_ ?_
            rotate_left
            · rintro w' ⟨s0, s1, s2, s3, s4, s5⟩
              go_simp
              with_reducible rfl
            rotate_left
            · simp only [Act.put, List.setIfInBounds_toArray, List.set_cons_zero, List.set_cons_succ, i64_w, i32_w]
              rfl
            refine take_ (i := 3) (N := some 24) (v := ?_) (a' := ?_) #[true, true, false, true, true, false, false, false, false, false, false, false, false, false, false, false] rfl rfl (take_ofW HT_.out HW_.out (by kernel_rfl)) (fun _ _ _ h => h) (Or.inl ⟨by rfl, ?_⟩) hHeld ?_ ?_
            rotate_left
            · rintro w' ⟨s0, s1, s2, s3, s4, s5⟩
              go_simp
              with_reducible rfl
            rotate_left
            · simp only [Act.put, List.setIfInBounds_toArray, List.set_cons_zero, List.set_cons_succ, i64_w, i32_w]
              rfl
            refine one_ (i := 2) (N := some 23) #[true, true, true, true, true, false, false, false, false, false, false, false, false, false, false, false] rfl rfl (one_of HT_.out (by kernel_rfl)) (by decide) (fun K hK => ?_)
            refine goes_ Try.func12 (by kernel_rfl) rfl #[.agg #[.int .i64 t291, .slice Ao12 t292.length co12, .slice Ao13 t295.length co13], .int .i64 x6_1] (by rfl) rfl rfl (by (try simp only [List.map_toArray, List.map_cons, List.map_nil]); first | done | rfl | (simp only [List.length_drop, List.length_take]; rfl)) ?_
            with_reducible refine (threshold_Blocked.calls k1 t291 _ _ t292 _ _ t295 x6_1 t308 _ ?side1 ?side2 ?side3 ?side4 A22.out).mono ?_
            (case side1 => repeat (first | exact (Kd.R_reads' HO_300001.out).2.2 | (with_reducible refine Kd.C_alloc ?_ _) | (with_reducible refine Kd.C_drewN ?_ _) | (with_reducible refine Kd.C_drew ?_)))
            (case side2 => exact (Kd.R_reads' HO_300001.out).2.1)
            (case side3 => repeat (first | exact (Kd.R_reads' HO_300002.out).2.2 | (with_reducible refine Kd.C_alloc ?_ _) | (with_reducible refine Kd.C_drewN ?_ _) | (with_reducible refine Kd.C_drew ?_)))
            (case side4 => exact (Kd.R_reads' HO_300002.out).2.1)
            rintro e w30 ⟨rfl, hb⟩
            refine ⟨_, rfl, ?_⟩
            have n0_ := Aside0.mk (Kd.R_below (by (with_reducible repeat (first | apply Kd.R_alloc | apply Kd.R_drewN | apply Kd.R_drew)); exact HO_300001.out) hb)
            have n1_ := Aside0.mk (Kd.R_below (by (with_reducible repeat (first | apply Kd.R_alloc | apply Kd.R_drewN | apply Kd.R_drew)); exact HO_300002.out) hb)
            have n2_ := Aside0.mk (Kd.R_below (by (with_reducible repeat (first | apply Kd.R_alloc | apply Kd.R_drewN | apply Kd.R_drew)); exact HO_308001.out) hb)
            have n3_ := Aside0.mk (Kd.R_below (by (with_reducible repeat (first | apply Kd.R_alloc | apply Kd.R_drewN | apply Kd.R_drew)); exact HO_308002.out) hb)
            have n4_ := Aside0.mk (blk_below (g := gb299) (o := .cells #[.int .i64 t291, .slice Ao12 t292.length co12, .slice Ao13 t295.length co13] 27 (0, 0)) (by (with_reducible repeat (first | refine blk_drewN ?_ _ | refine blk_drew ?_ | refine blk_alloc ?_ _)); exact BK299.out) hb)
            have n5_ := Aside0.mk (blk_below (g := gb307) (o := .cells #[.int .i64 t300, .slice Ao19 t301.length co19, .slice Ao20 t304.length co20] 27 (0, 0)) (by (with_reducible repeat (first | refine blk_drewN ?_ _ | refine blk_drew ?_ | refine blk_alloc ?_ _)); exact BK307.out) hb)
            have n6_ := Aside0.mk (IsS43.below (by repeat (first | (with_reducible first | exact HI288.out | apply IsS43.alloc | apply IsS43.drewN | apply IsS43.drew | apply IsS43.set_1 | refine IsS43.far ?_ NB288_299.out _ | refine IsS43.far ?_ NB288_307.out _) | exact HI288.out)) hb)
            have n7_ := Aside0.mk (below_step (by repeat (first | (with_reducible first | exact HB.out | apply below_alloc | apply pw_below_drewN | apply below_drew1 | refine below_set ?_ (IsS43.ge HI288.out) | refine below_set ?_ GE299.out | refine below_set ?_ GE307.out) | exact HB.out)) hb)
            clear HO_300001
            clear HO_300002
            clear HO_308001
            clear HO_308002
            clear BK299
            clear BK307
            clear HI288
            clear HB
            have HO_300001 := n0_
            have HO_300002 := n1_
            have HO_308001 := n2_
            have HO_308002 := n3_
            have BK299 := n4_
            have BK307 := n5_
            have HI288 := n6_
            have HB := n7_
            clear n0_ n1_ n2_ n3_ n4_ n5_ n6_ n7_
            (try clear hb)
            (try clear hb2)
            (try clear hk)
            (try clear hi)
            refine hK.out _ _ ⟨(blk_cell BK299.out 0).trans rfl, (blk_cell BK299.out 1).trans rfl, (blk_cell BK299.out 2).trans rfl, (blk_cell BK307.out 0).trans rfl, (blk_cell BK307.out 1).trans rfl, (blk_cell BK307.out 2).trans rfl⟩ (fun hHeld => ?_)
            clear hK K
            refine norm_ (a' := ?_) ?_ ?_
            rotate_left
            · show Act.put _ (some 23) _ = _
              simp only [Act.put, List.setIfInBounds_toArray, List.set_cons_zero, List.set_cons_succ, i64_w, i32_w]
              rfl
            refine one_ (i := 5) (N := some 26) #[true, true, true, true, true, true, false, false, false, false, false, false, false, false, false, false] rfl rfl (one_of HT_.out (by kernel_rfl)) (by decide) (fun K hK => ?_)
            refine goes_ Try.func11 (by kernel_rfl) rfl #[.agg #[.int .i64 t300, .slice Ao19 t301.length co19, .slice Ao20 t304.length co20], .int .i64 x6_1] (by rfl) rfl rfl (by (try simp only [List.map_toArray, List.map_cons, List.map_nil]); first | done | rfl | (simp only [List.length_drop, List.length_take]; rfl)) ?_
            with_reducible refine (threshold_Satisfied.calls k1 t300 _ _ t301 _ _ t304 x6_1 t309 _ ?side1 ?side2 ?side3 ?side4 A23.out).mono ?_
            (case side1 => repeat (first | exact (Kd.R_reads' HO_308001.out).2.2 | (with_reducible refine Kd.C_alloc ?_ _) | (with_reducible refine Kd.C_drewN ?_ _) | (with_reducible refine Kd.C_drew ?_)))
            (case side2 => exact (Kd.R_reads' HO_308001.out).2.1)
            (case side3 => repeat (first | exact (Kd.R_reads' HO_308002.out).2.2 | (with_reducible refine Kd.C_alloc ?_ _) | (with_reducible refine Kd.C_drewN ?_ _) | (with_reducible refine Kd.C_drew ?_)))
            (case side4 => exact (Kd.R_reads' HO_308002.out).2.1)
            rintro e w31 ⟨rfl, hb⟩
            refine ⟨_, rfl, ?_⟩
            have n0_ := Aside0.mk (Kd.R_below (by (with_reducible repeat (first | apply Kd.R_alloc | apply Kd.R_drewN | apply Kd.R_drew)); exact HO_300001.out) hb)
            have n1_ := Aside0.mk (Kd.R_below (by (with_reducible repeat (first | apply Kd.R_alloc | apply Kd.R_drewN | apply Kd.R_drew)); exact HO_300002.out) hb)
            have n2_ := Aside0.mk (Kd.R_below (by (with_reducible repeat (first | apply Kd.R_alloc | apply Kd.R_drewN | apply Kd.R_drew)); exact HO_308001.out) hb)
            have n3_ := Aside0.mk (Kd.R_below (by (with_reducible repeat (first | apply Kd.R_alloc | apply Kd.R_drewN | apply Kd.R_drew)); exact HO_308002.out) hb)
            have n4_ := Aside0.mk (blk_below (g := gb299) (o := .cells #[.int .i64 t291, .slice Ao12 t292.length co12, .slice Ao13 t295.length co13] 27 (0, 0)) (by (with_reducible repeat (first | refine blk_drewN ?_ _ | refine blk_drew ?_ | refine blk_alloc ?_ _)); exact BK299.out) hb)
            have n5_ := Aside0.mk (blk_below (g := gb307) (o := .cells #[.int .i64 t300, .slice Ao19 t301.length co19, .slice Ao20 t304.length co20] 27 (0, 0)) (by (with_reducible repeat (first | refine blk_drewN ?_ _ | refine blk_drew ?_ | refine blk_alloc ?_ _)); exact BK307.out) hb)
            have n6_ := Aside0.mk (IsS43.below (by repeat (first | (with_reducible first | exact HI288.out | apply IsS43.alloc | apply IsS43.drewN | apply IsS43.drew | apply IsS43.set_1 | refine IsS43.far ?_ NB288_299.out _ | refine IsS43.far ?_ NB288_307.out _) | exact HI288.out)) hb)
            have n7_ := Aside0.mk (below_step (by repeat (first | (with_reducible first | exact HB.out | apply below_alloc | apply pw_below_drewN | apply below_drew1 | refine below_set ?_ (IsS43.ge HI288.out) | refine below_set ?_ GE299.out | refine below_set ?_ GE307.out) | exact HB.out)) hb)
            clear HO_300001
            clear HO_300002
            clear HO_308001
            clear HO_308002
            clear BK299
            clear BK307
            clear HI288
            clear HB
            have HO_300001 := n0_
            have HO_300002 := n1_
            have HO_308001 := n2_
            have HO_308002 := n3_
            have BK299 := n4_
            have BK307 := n5_
            have HI288 := n6_
            have HB := n7_
            clear n0_ n1_ n2_ n3_ n4_ n5_ n6_ n7_
            (try clear hb)
            (try clear hb2)
            (try clear hk)
            (try clear hi)
            refine hK.out _ _ ⟨(blk_cell BK299.out 0).trans rfl, (blk_cell BK299.out 1).trans rfl, (blk_cell BK299.out 2).trans rfl, (blk_cell BK307.out 0).trans rfl, (blk_cell BK307.out 1).trans rfl, (blk_cell BK307.out 2).trans rfl⟩ (fun hHeld => ?_)
            clear hK K
            refine norm_ (a' := ?_) ?_ ?_
            rotate_left
            · show Act.put _ (some 26) _ = _
              simp only [Act.put, List.setIfInBounds_toArray, List.set_cons_zero, List.set_cons_succ, i64_w, i32_w]
              rfl
            refine pure_ (i := 6) (N := some 27) (v := ?_) (a' := ?_) #[true, true, true, true, true, true, true, false, false, false, false, false, false, false, false, false] rfl rfl (any_of HT_.out (by kernel_rfl)) (fun _ _ _ h => h) (Or.inl ⟨by rfl, ?_⟩) ?_ ?_
            rotate_left
            · intro w'
              go_simp
              with_reducible rfl
            rotate_left
            · simp only [Act.put, List.setIfInBounds_toArray, List.set_cons_zero, List.set_cons_succ, i64_w, i32_w]
              rfl
            refine pure_ (i := 7) (N := some 28) (v := ?_) (a' := ?_) #[true, true, true, true, true, true, true, true, false, false, false, false, false, false, false, false] rfl rfl (any_of HT_.out (by kernel_rfl)) (fun _ _ _ h => h) (Or.inl ⟨by rfl, ?_⟩) ?_ ?_
            rotate_left
            · intro w'
              go_simp
              with_reducible rfl
            rotate_left
            · simp only [Act.put, List.setIfInBounds_toArray, List.set_cons_zero, List.set_cons_succ, i64_w, i32_w]
              rfl
            refine pure_ (i := 9) (N := some 30) (v := ?_) (a' := ?_) #[true, true, true, true, true, true, true, true, false, true, false, false, false, false, false, false] rfl rfl (any_of HT_.out (by kernel_rfl)) (fun _ _ _ h => h) (Or.inl ⟨by rfl, ?_⟩) ?_ ?_
            rotate_left
            · intro w'
              go_simp
              with_reducible rfl
            rotate_left
            · simp only [Act.put, List.setIfInBounds_toArray, List.set_cons_zero, List.set_cons_succ, i64_w, i32_w]
              rfl
            refine pure_ (i := 12) (N := some 33) (v := ?_) (a' := ?_) #[true, true, true, true, true, true, true, true, false, true, false, false, true, false, false, false] rfl rfl (any_of HT_.out (by kernel_rfl)) (fun _ _ _ h => h) (Or.inl ⟨by rfl, ?_⟩) ?_ ?_
            rotate_left
            · intro w'
              go_simp
              with_reducible rfl
            rotate_left
            · simp only [Act.put, List.setIfInBounds_toArray, List.set_cons_zero, List.set_cons_succ, i64_w, i32_w]
              rfl
            refine take_ (i := 8) (N := some 29) (v := ?_) (a' := ?_) #[true, true, true, true, true, true, true, true, true, true, false, false, true, false, false, false] rfl rfl (take_ofW HT_.out HW_.out (by kernel_rfl)) (fun _ _ _ h => h) (Or.inl ⟨by rfl, ?_⟩) hHeld ?_ ?_
            rotate_left
            · rintro w' ⟨s0, s1, s2, s3, s4, s5⟩
              go_simp
              with_reducible rfl
            rotate_left
            · simp only [Act.put, List.setIfInBounds_toArray, List.set_cons_zero, List.set_cons_succ, i64_w, i32_w]
              rfl
            refine take_ (i := 11) (N := some 32) (v := ?_) (a' := ?_) #[true, true, true, true, true, true, true, true, true, true, false, true, true, false, false, false] rfl rfl (take_ofW HT_.out HW_.out (by kernel_rfl)) (fun _ _ _ h => h) (Or.inl ⟨by rfl, ?_⟩) hHeld ?_ ?_
            rotate_left
            · rintro w' ⟨s0, s1, s2, s3, s4, s5⟩
              go_simp
              with_reducible rfl
            rotate_left
            · simp only [Act.put, List.setIfInBounds_toArray, List.set_cons_zero, List.set_cons_succ, i64_w, i32_w]
              rfl
            refine one_ (i := 10) (N := some 31) #[true, true, true, true, true, true, true, true, true, true, true, true, true, false, false, false] rfl rfl (one_of HT_.out (by kernel_rfl)) (by decide) (fun K hK => ?_)
            refine goes_ Try.func11 (by kernel_rfl) rfl #[.agg #[.int .i64 t291, .slice Ao12 t292.length co12, .slice Ao13 t295.length co13], .int .i64 x6_1] (by rfl) rfl rfl (by (try simp only [List.map_toArray, List.map_cons, List.map_nil]); first | done | rfl | (simp only [List.length_drop, List.length_take]; rfl)) ?_
            with_reducible refine (threshold_Satisfied.calls k1 t291 _ _ t292 _ _ t295 x6_1 t310 _ ?side1 ?side2 ?side3 ?side4 A25.out).mono ?_
            (case side1 => repeat (first | exact (Kd.R_reads' HO_300001.out).2.2 | (with_reducible refine Kd.C_alloc ?_ _) | (with_reducible refine Kd.C_drewN ?_ _) | (with_reducible refine Kd.C_drew ?_)))
            (case side2 => exact (Kd.R_reads' HO_300001.out).2.1)
            (case side3 => repeat (first | exact (Kd.R_reads' HO_300002.out).2.2 | (with_reducible refine Kd.C_alloc ?_ _) | (with_reducible refine Kd.C_drewN ?_ _) | (with_reducible refine Kd.C_drew ?_)))
            (case side4 => exact (Kd.R_reads' HO_300002.out).2.1)
            rintro e w32 ⟨rfl, hb⟩
            refine ⟨_, rfl, ?_⟩
            have n0_ := Aside0.mk (Kd.R_below (by (with_reducible repeat (first | apply Kd.R_alloc | apply Kd.R_drewN | apply Kd.R_drew)); exact HO_300001.out) hb)
            have n1_ := Aside0.mk (Kd.R_below (by (with_reducible repeat (first | apply Kd.R_alloc | apply Kd.R_drewN | apply Kd.R_drew)); exact HO_300002.out) hb)
            have n2_ := Aside0.mk (Kd.R_below (by (with_reducible repeat (first | apply Kd.R_alloc | apply Kd.R_drewN | apply Kd.R_drew)); exact HO_308001.out) hb)
            have n3_ := Aside0.mk (Kd.R_below (by (with_reducible repeat (first | apply Kd.R_alloc | apply Kd.R_drewN | apply Kd.R_drew)); exact HO_308002.out) hb)
            have n4_ := Aside0.mk (blk_below (g := gb299) (o := .cells #[.int .i64 t291, .slice Ao12 t292.length co12, .slice Ao13 t295.length co13] 27 (0, 0)) (by (with_reducible repeat (first | refine blk_drewN ?_ _ | refine blk_drew ?_ | refine blk_alloc ?_ _)); exact BK299.out) hb)
            have n5_ := Aside0.mk (blk_below (g := gb307) (o := .cells #[.int .i64 t300, .slice Ao19 t301.length co19, .slice Ao20 t304.length co20] 27 (0, 0)) (by (with_reducible repeat (first | refine blk_drewN ?_ _ | refine blk_drew ?_ | refine blk_alloc ?_ _)); exact BK307.out) hb)
            have n6_ := Aside0.mk (IsS43.below (by repeat (first | (with_reducible first | exact HI288.out | apply IsS43.alloc | apply IsS43.drewN | apply IsS43.drew | apply IsS43.set_1 | refine IsS43.far ?_ NB288_299.out _ | refine IsS43.far ?_ NB288_307.out _) | exact HI288.out)) hb)
            have n7_ := Aside0.mk (below_step (by repeat (first | (with_reducible first | exact HB.out | apply below_alloc | apply pw_below_drewN | apply below_drew1 | refine below_set ?_ (IsS43.ge HI288.out) | refine below_set ?_ GE299.out | refine below_set ?_ GE307.out) | exact HB.out)) hb)
            clear HO_300001
            clear HO_300002
            clear HO_308001
            clear HO_308002
            clear BK299
            clear BK307
            clear HI288
            clear HB
            have HO_300001 := n0_
            have HO_300002 := n1_
            have HO_308001 := n2_
            have HO_308002 := n3_
            have BK299 := n4_
            have BK307 := n5_
            have HI288 := n6_
            have HB := n7_
            clear n0_ n1_ n2_ n3_ n4_ n5_ n6_ n7_
            (try clear hb)
            (try clear hb2)
            (try clear hk)
            (try clear hi)
            refine hK.out _ _ ⟨(blk_cell BK299.out 0).trans rfl, (blk_cell BK299.out 1).trans rfl, (blk_cell BK299.out 2).trans rfl, (blk_cell BK307.out 0).trans rfl, (blk_cell BK307.out 1).trans rfl, (blk_cell BK307.out 2).trans rfl⟩ (fun hHeld => ?_)
            clear hK K
            refine norm_ (a' := ?_) ?_ ?_
            rotate_left
            · show Act.put _ (some 31) _ = _
              simp only [Act.put, List.setIfInBounds_toArray, List.set_cons_zero, List.set_cons_succ, i64_w, i32_w]
              rfl
            refine one_ (i := 13) (N := some 34) #[true, true, true, true, true, true, true, true, true, true, true, true, true, true, false, false] rfl rfl (one_of HT_.out (by kernel_rfl)) (by decide) (fun K hK => ?_)
            refine goes_ Try.func12 (by kernel_rfl) rfl #[.agg #[.int .i64 t300, .slice Ao19 t301.length co19, .slice Ao20 t304.length co20], .int .i64 x6_1] (by rfl) rfl rfl (by (try simp only [List.map_toArray, List.map_cons, List.map_nil]); first | done | rfl | (simp only [List.length_drop, List.length_take]; rfl)) ?_
            with_reducible refine (threshold_Blocked.calls k1 t300 _ _ t301 _ _ t304 x6_1 t311 _ ?side1 ?side2 ?side3 ?side4 A26.out).mono ?_
            (case side1 => repeat (first | exact (Kd.R_reads' HO_308001.out).2.2 | (with_reducible refine Kd.C_alloc ?_ _) | (with_reducible refine Kd.C_drewN ?_ _) | (with_reducible refine Kd.C_drew ?_)))
            (case side2 => exact (Kd.R_reads' HO_308001.out).2.1)
            (case side3 => repeat (first | exact (Kd.R_reads' HO_308002.out).2.2 | (with_reducible refine Kd.C_alloc ?_ _) | (with_reducible refine Kd.C_drewN ?_ _) | (with_reducible refine Kd.C_drew ?_)))
            (case side4 => exact (Kd.R_reads' HO_308002.out).2.1)
            rintro e w33 ⟨rfl, hb⟩
            refine ⟨_, rfl, ?_⟩
            have n0_ := Aside0.mk (Kd.R_below (by (with_reducible repeat (first | apply Kd.R_alloc | apply Kd.R_drewN | apply Kd.R_drew)); exact HO_300001.out) hb)
            have n1_ := Aside0.mk (Kd.R_below (by (with_reducible repeat (first | apply Kd.R_alloc | apply Kd.R_drewN | apply Kd.R_drew)); exact HO_300002.out) hb)
            have n2_ := Aside0.mk (Kd.R_below (by (with_reducible repeat (first | apply Kd.R_alloc | apply Kd.R_drewN | apply Kd.R_drew)); exact HO_308001.out) hb)
            have n3_ := Aside0.mk (Kd.R_below (by (with_reducible repeat (first | apply Kd.R_alloc | apply Kd.R_drewN | apply Kd.R_drew)); exact HO_308002.out) hb)
            have n4_ := Aside0.mk (blk_below (g := gb299) (o := .cells #[.int .i64 t291, .slice Ao12 t292.length co12, .slice Ao13 t295.length co13] 27 (0, 0)) (by (with_reducible repeat (first | refine blk_drewN ?_ _ | refine blk_drew ?_ | refine blk_alloc ?_ _)); exact BK299.out) hb)
            have n5_ := Aside0.mk (blk_below (g := gb307) (o := .cells #[.int .i64 t300, .slice Ao19 t301.length co19, .slice Ao20 t304.length co20] 27 (0, 0)) (by (with_reducible repeat (first | refine blk_drewN ?_ _ | refine blk_drew ?_ | refine blk_alloc ?_ _)); exact BK307.out) hb)
            have n6_ := Aside0.mk (IsS43.below (by repeat (first | (with_reducible first | exact HI288.out | apply IsS43.alloc | apply IsS43.drewN | apply IsS43.drew | apply IsS43.set_1 | refine IsS43.far ?_ NB288_299.out _ | refine IsS43.far ?_ NB288_307.out _) | exact HI288.out)) hb)
            have n7_ := Aside0.mk (below_step (by repeat (first | (with_reducible first | exact HB.out | apply below_alloc | apply pw_below_drewN | apply below_drew1 | refine below_set ?_ (IsS43.ge HI288.out) | refine below_set ?_ GE299.out | refine below_set ?_ GE307.out) | exact HB.out)) hb)
            clear HO_300001
            clear HO_300002
            clear HO_308001
            clear HO_308002
            clear BK299
            clear BK307
            clear HI288
            clear HB
            have HO_300001 := n0_
            have HO_300002 := n1_
            have HO_308001 := n2_
            have HO_308002 := n3_
            have BK299 := n4_
            have BK307 := n5_
            have HI288 := n6_
            have HB := n7_
            clear n0_ n1_ n2_ n3_ n4_ n5_ n6_ n7_
            (try clear hb)
            (try clear hb2)
            (try clear hk)
            (try clear hi)
            refine hK.out _ _ ⟨(blk_cell BK299.out 0).trans rfl, (blk_cell BK299.out 1).trans rfl, (blk_cell BK299.out 2).trans rfl, (blk_cell BK307.out 0).trans rfl, (blk_cell BK307.out 1).trans rfl, (blk_cell BK307.out 2).trans rfl⟩ (fun hHeld => ?_)
            clear hK K
            refine norm_ (a' := ?_) ?_ ?_
            rotate_left
            · show Act.put _ (some 34) _ = _
              simp only [Act.put, List.setIfInBounds_toArray, List.set_cons_zero, List.set_cons_succ, i64_w, i32_w]
              rfl
            refine pure_ (i := 14) (N := some 35) (v := ?_) (a' := ?_) #[true, true, true, true, true, true, true, true, true, true, true, true, true, true, true, false] rfl rfl (any_of HT_.out (by kernel_rfl)) (fun _ _ _ h => h) (Or.inl ⟨by rfl, ?_⟩) ?_ ?_
            rotate_left
            · intro w'
              go_simp
              with_reducible rfl
            rotate_left
            · simp only [Act.put, List.setIfInBounds_toArray, List.set_cons_zero, List.set_cons_succ, i64_w, i32_w]
              rfl
            refine pure_ (i := 15) (N := some 36) (v := ?_) (a' := ?_) #[true, true, true, true, true, true, true, true, true, true, true, true, true, true, true, true] rfl rfl (any_of HT_.out (by kernel_rfl)) (fun _ _ _ h => h) (Or.inl ⟨by rfl, ?_⟩) ?_ ?_
            rotate_left
            · intro w'
              go_simp
              with_reducible rfl
            rotate_left
            · simp only [Act.put, List.setIfInBounds_toArray, List.set_cons_zero, List.set_cons_succ, i64_w, i32_w]
              rfl
            refine done_ (done_of HT_.out (by kernel_rfl)) ?_
            try go_wp2_with (first | ((with_reducible refine gate_callee (f := 10) rfl ?_); refine goesL_ (some 19) rfl rfl Try.func10 (by kernel_rfl) rfl #[.pointer (some ⟨g288, 0, none⟩), .int .i64 1, .int .i64 3] rfl (by (try simp only [List.map_toArray, List.map_cons, List.map_nil]); first | done | rfl | (simp only [List.length_drop, List.length_take]; rfl)) ?_; (with_reducible refine (trustquorummake_Tape_Range.calls g288 t286 x289001_1 1 3 t312 t313 w _ ?side1 ?side2 A28.out).mono ?_); (case side1 => repeat (first | (with_reducible first | exact HI288.out | apply IsS43.alloc | apply IsS43.drewN | apply IsS43.drew | apply IsS43.set_1 | refine IsS43.far ?_ NB288_299.out _ | refine IsS43.far ?_ NB288_307.out _) | exact HI288.out)); (case side2 => repeat (first | (with_reducible first | exact HB.out | apply below_alloc | apply pw_below_drewN | apply below_drew1 | refine below_set ?_ (IsS43.ge HI288.out) | refine below_set ?_ GE299.out | refine below_set ?_ GE307.out) | exact HB.out)); rintro e w34 ⟨rfl, hi, hb, hk⟩; refine ⟨_, rfl, ?_⟩; have n0_ := Aside0.mk (Kd.R_mono (Kd.R_keep (IsS43.apart (show IsS43 w _ g288 t286 x289001_1 from by repeat (first | (with_reducible first | exact HI288.out | apply IsS43.alloc | apply IsS43.drewN | apply IsS43.drew | apply IsS43.set_1 | refine IsS43.far ?_ NB288_299.out _ | refine IsS43.far ?_ NB288_307.out _) | exact HI288.out)) (by (with_reducible repeat (first | apply Kd.R_alloc | apply Kd.R_drewN | apply Kd.R_drew)); exact HO_300001.out) (by decide)) hk (fun _ h => h.2)) (fun _ h => h.1)); have n1_ := Aside0.mk (Kd.R_mono (Kd.R_keep (IsS43.apart (show IsS43 w _ g288 t286 x289001_1 from by repeat (first | (with_reducible first | exact HI288.out | apply IsS43.alloc | apply IsS43.drewN | apply IsS43.drew | apply IsS43.set_1 | refine IsS43.far ?_ NB288_299.out _ | refine IsS43.far ?_ NB288_307.out _) | exact HI288.out)) (by (with_reducible repeat (first | apply Kd.R_alloc | apply Kd.R_drewN | apply Kd.R_drew)); exact HO_300002.out) (by decide)) hk (fun _ h => h.2)) (fun _ h => h.1)); have n2_ := Aside0.mk (Kd.R_mono (Kd.R_keep (IsS43.apart (show IsS43 w _ g288 t286 x289001_1 from by repeat (first | (with_reducible first | exact HI288.out | apply IsS43.alloc | apply IsS43.drewN | apply IsS43.drew | apply IsS43.set_1 | refine IsS43.far ?_ NB288_299.out _ | refine IsS43.far ?_ NB288_307.out _) | exact HI288.out)) (by (with_reducible repeat (first | apply Kd.R_alloc | apply Kd.R_drewN | apply Kd.R_drew)); exact HO_308001.out) (by decide)) hk (fun _ h => h.2)) (fun _ h => h.1)); have n3_ := Aside0.mk (Kd.R_mono (Kd.R_keep (IsS43.apart (show IsS43 w _ g288 t286 x289001_1 from by repeat (first | (with_reducible first | exact HI288.out | apply IsS43.alloc | apply IsS43.drewN | apply IsS43.drew | apply IsS43.set_1 | refine IsS43.far ?_ NB288_299.out _ | refine IsS43.far ?_ NB288_307.out _) | exact HI288.out)) (by (with_reducible repeat (first | apply Kd.R_alloc | apply Kd.R_drewN | apply Kd.R_drew)); exact HO_308002.out) (by decide)) hk (fun _ h => h.2)) (fun _ h => h.1)); have n4_ := Aside0.mk (KeepBut.blk hk (g' := gb299) (o := .cells #[.int .i64 t291, .slice Ao12 t292.length co12, .slice Ao13 t295.length co13] 27 (0, 0)) (by (with_reducible repeat (first | refine blk_drewN ?_ _ | refine blk_drew ?_ | refine blk_alloc ?_ _)); exact BK299.out) NB299_288.out (by simp)); have n5_ := Aside0.mk (KeepBut.blk hk (g' := gb307) (o := .cells #[.int .i64 t300, .slice Ao19 t301.length co19, .slice Ao20 t304.length co20] 27 (0, 0)) (by (with_reducible repeat (first | refine blk_drewN ?_ _ | refine blk_drew ?_ | refine blk_alloc ?_ _)); exact BK307.out) NB307_288.out (by simp)); have n6_ := Aside0.mk (hb); have n7_ := Aside0.mk (hi); clear HO_300001; clear HO_300002; clear HO_308001; clear HO_308002; clear BK299; clear BK307; clear HB; clear HI288; have HO_300001 := n0_; have HO_300002 := n1_; have HO_308001 := n2_; have HO_308002 := n3_; have BK299 := n4_; have BK307 := n5_; have HB := n6_; have HI288 := n7_; clear n0_ n1_ n2_ n3_ n4_ n5_ n6_ n7_; (try clear hb); (try clear hb2); (try clear hk); (try clear hi)))
            go_roundg k1
            case measure => have := HK1.out; omega
            case rel => exact ⟨(wrap64 (x6_1 + t312)), (t313), (by first | rfl | (simp; done) | (simp [*]; done) | (refine congrArg (Value.int .i64) ?_; unfold wrap64; omega)), H', ⟨by have := HK1.out; omega⟩, ⟨by (with_reducible repeat (first | apply Kd.R_alloc | apply Kd.R_drewN | apply Kd.R_drew)); exact HO_300001.out⟩, ⟨by (with_reducible repeat (first | apply Kd.R_alloc | apply Kd.R_drewN | apply Kd.R_drew)); exact HO_300002.out⟩, ⟨by (with_reducible repeat (first | apply Kd.R_alloc | apply Kd.R_drewN | apply Kd.R_drew)); exact HO_308001.out⟩, ⟨by (with_reducible repeat (first | apply Kd.R_alloc | apply Kd.R_drewN | apply Kd.R_drew)); exact HO_308002.out⟩, ⟨by (with_reducible repeat (first | refine blk_drewN ?_ _ | refine blk_drew ?_ | refine blk_alloc ?_ _)); exact BK299.out⟩, ⟨by (with_reducible repeat (first | refine blk_drewN ?_ _ | refine blk_drew ?_ | refine blk_alloc ?_ _)); exact BK307.out⟩, ⟨by repeat (first | (with_reducible first | exact HI288.out | apply IsS43.alloc | apply IsS43.drewN | apply IsS43.drew | apply IsS43.set_1 | refine IsS43.far ?_ NB288_299.out _ | refine IsS43.far ?_ NB288_307.out _) | exact HI288.out)⟩, ⟨by repeat (first | (with_reducible first | exact HB.out | apply below_alloc | apply pw_below_drewN | apply below_drew1 | refine below_set ?_ (IsS43.ge HI288.out) | refine below_set ?_ GE299.out | refine below_set ?_ GE307.out) | exact HB.out)⟩⟩
      · rw [if_neg c21] at H
        have c21b0 : decide (x6_1 < 1024) = false := decide_eq_false c21
        clear c21
        replace H := Option.bind_eq_some_iff.mp H
        obtain ⟨t314, A350, H⟩ := H
        replace H : (if t314 = 0 then ((threshold_Dual.f k1 t300 t301 t304).bind fun bt315 => ((threshold_Same.f k1 bt315.1 bt315.2.1 bt315.2.2 t291 t292 t295).bind fun t322 => (if t322 = true then ((trustquorumlaw02_awake.f k1).bind fun t323 => (some t323)) else (some false)))) else (some false)) = some r := H
        have A35 := Aside0.mk A350
        clear A350
        by_cases c36 : t314 = 0
        · rw [if_pos c36] at H
          have c36b0 : (t314 == 0) = true := beq_iff_eq.mpr c36
          have c36b1 : (t314 != 0) = false := bne_eq_false_iff_eq.mpr c36
          clear c36
          replace H := Option.bind_eq_some_iff.mp H
          obtain ⟨⟨t315, t316, t319⟩, A370, H⟩ := H
          replace H : ((threshold_Same.f k1 t315 t316 t319 t291 t292 t295).bind fun t322 => (if t322 = true then ((trustquorumlaw02_awake.f k1).bind fun t323 => (some t323)) else (some false))) = some r := H
          have A37 := Aside0.mk A370
          clear A370
          replace H := Option.bind_eq_some_iff.mp H
          obtain ⟨t322, A380, H⟩ := H
          replace H : (if t322 = true then ((trustquorumlaw02_awake.f k1).bind fun t323 => (some t323)) else (some false)) = some r := H
          have A38 := Aside0.mk A380
          clear A380
          by_cases c39 : t322 = true
          · subst c39
            have H1 : ((trustquorumlaw02_awake.f k1).bind fun t323 => (some t323)) = some r := by rw [if_pos rfl] at H; exact H
            clear H
            have H := H1
            clear H1
            replace H := Option.bind_eq_some_iff.mp H
            obtain ⟨t323, A400, H⟩ := H
            replace H : (some t323) = some r := H
            have A40 := Aside0.mk A400
            clear A400
            obtain rfl := Option.some.inj H
            try go_wp2
            have n0_ := Aside0.mk (Kd.R_drew HO_300001.out)
            have n1_ := Aside0.mk (Kd.R_drew HO_300002.out)
            have n2_ := Aside0.mk (Kd.R_drew HO_308001.out)
            have n3_ := Aside0.mk (Kd.R_drew HO_308002.out)
            have n4_ := Aside0.mk (blk_drew BK299.out)
            have n5_ := Aside0.mk (blk_drew BK307.out)
            have n6_ := Aside0.mk (IsS43.drew HI288.out)
            have n7_ := Aside0.mk (below_drew1 HB.out)
            clear HO_300001
            clear HO_300002
            clear HO_308001
            clear HO_308002
            clear BK299
            clear BK307
            clear HI288
            clear HB
            have HO_300001 := n0_
            have HO_300002 := n1_
            have HO_308001 := n2_
            have HO_308002 := n3_
            have BK299 := n4_
            have BK307 := n5_
            have HI288 := n6_
            have HB := n7_
            clear n0_ n1_ n2_ n3_ n4_ n5_ n6_ n7_
            refine start_ (n := 13) (S := fun w' => w'.cell? ⟨gb307, 0, none⟩ = some (.int .i64 t300) ∧ w'.cell? ⟨gb307, 1, none⟩ = some (.slice Ao19 t301.length co19) ∧ w'.cell? ⟨gb307, 2, none⟩ = some (.slice Ao20 t304.length co20) ∧ w'.cell? ⟨gb299, 0, none⟩ = some (.int .i64 t291) ∧ w'.cell? ⟨gb299, 1, none⟩ = some (.slice Ao12 t292.length co12) ∧ w'.cell? ⟨gb299, 2, none⟩ = some (.slice Ao13 t295.length co13)) (ds := []) #[false, false, false, false, false, false, false, false, false, false, false, false, false] (by kernel_rfl) rfl rfl ⟨(blk_cell BK307.out 0).trans rfl, (blk_cell BK307.out 1).trans rfl, (blk_cell BK307.out 2).trans rfl, (blk_cell BK299.out 0).trans rfl, (blk_cell BK299.out 1).trans rfl, (blk_cell BK299.out 2).trans rfl⟩ (fun hHeld => ?_); refine with_tabW trustquorumlaw02_ThresholdDual.tab9 trustquorumlaw02_ThresholdDual.bits9 (fun HT_ HW_ => ?_)
            generalize wr.drew = w41 at HO_300001 HO_300002 HO_308001 HO_308002 BK299 BK307 HI288 HB hHeld ⊢
            refine take_ (i := 0) (N := some 37) (v := ?_) (a' := ?_) #[true, false, false, false, false, false, false, false, false, false, false, false, false] rfl rfl (take_ofW HT_.out HW_.out (by kernel_rfl)) (fun _ _ _ h => h) (Or.inl ⟨by rfl, ?_⟩) hHeld ?_ ?_
            rotate_left
            · rintro w' ⟨s0, s1, s2, s3, s4, s5⟩
              go_simp
              with_reducible rfl
            rotate_left
            · simp only [Act.put, List.setIfInBounds_toArray, List.set_cons_zero, List.set_cons_succ, i64_w, i32_w]
              rfl
            refine one_ (i := 1) (N := some 38) #[true, true, false, false, false, false, false, false, false, false, false, false, false] rfl rfl (one_of HT_.out (by kernel_rfl)) (by decide) (fun K hK => ?_)
            refine goes_ Try.func19 (by kernel_rfl) rfl #[.agg #[.int .i64 t300, .slice Ao19 t301.length co19, .slice Ao20 t304.length co20]] (by rfl) rfl rfl (by (try simp only [List.map_toArray, List.map_cons, List.map_nil]); first | done | rfl | (simp only [List.length_drop, List.length_take]; rfl)) ?_
            with_reducible refine (threshold_Valid.calls k1 t300 _ _ t301 _ _ t304 t314 _ ?side1 ?side2 ?side3 ?side4 A35.out).mono ?_
            (case side1 => repeat (first | exact (Kd.R_reads' HO_308001.out).2.2 | (with_reducible refine Kd.C_alloc ?_ _) | (with_reducible refine Kd.C_drewN ?_ _) | (with_reducible refine Kd.C_drew ?_)))
            (case side2 => exact (Kd.R_reads' HO_308001.out).2.1)
            (case side3 => repeat (first | exact (Kd.R_reads' HO_308002.out).2.2 | (with_reducible refine Kd.C_alloc ?_ _) | (with_reducible refine Kd.C_drewN ?_ _) | (with_reducible refine Kd.C_drew ?_)))
            (case side4 => exact (Kd.R_reads' HO_308002.out).2.1)
            rintro e w42 ⟨rfl, hb⟩
            refine ⟨_, rfl, ?_⟩
            have n0_ := Aside0.mk (Kd.R_below (by (with_reducible repeat (first | apply Kd.R_alloc | apply Kd.R_drewN | apply Kd.R_drew)); exact HO_300001.out) hb)
            have n1_ := Aside0.mk (Kd.R_below (by (with_reducible repeat (first | apply Kd.R_alloc | apply Kd.R_drewN | apply Kd.R_drew)); exact HO_300002.out) hb)
            have n2_ := Aside0.mk (Kd.R_below (by (with_reducible repeat (first | apply Kd.R_alloc | apply Kd.R_drewN | apply Kd.R_drew)); exact HO_308001.out) hb)
            have n3_ := Aside0.mk (Kd.R_below (by (with_reducible repeat (first | apply Kd.R_alloc | apply Kd.R_drewN | apply Kd.R_drew)); exact HO_308002.out) hb)
            have n4_ := Aside0.mk (blk_below (g := gb299) (o := .cells #[.int .i64 t291, .slice Ao12 t292.length co12, .slice Ao13 t295.length co13] 27 (0, 0)) (by (with_reducible repeat (first | refine blk_drewN ?_ _ | refine blk_drew ?_ | refine blk_alloc ?_ _)); exact BK299.out) hb)
            have n5_ := Aside0.mk (blk_below (g := gb307) (o := .cells #[.int .i64 t300, .slice Ao19 t301.length co19, .slice Ao20 t304.length co20] 27 (0, 0)) (by (with_reducible repeat (first | refine blk_drewN ?_ _ | refine blk_drew ?_ | refine blk_alloc ?_ _)); exact BK307.out) hb)
            have n6_ := Aside0.mk (IsS43.below (by repeat (first | (with_reducible first | exact HI288.out | apply IsS43.alloc | apply IsS43.drewN | apply IsS43.drew | apply IsS43.set_1 | refine IsS43.far ?_ NB288_299.out _ | refine IsS43.far ?_ NB288_307.out _) | exact HI288.out)) hb)
            have n7_ := Aside0.mk (below_step (by repeat (first | (with_reducible first | exact HB.out | apply below_alloc | apply pw_below_drewN | apply below_drew1 | refine below_set ?_ (IsS43.ge HI288.out) | refine below_set ?_ GE299.out | refine below_set ?_ GE307.out) | exact HB.out)) hb)
            clear HO_300001
            clear HO_300002
            clear HO_308001
            clear HO_308002
            clear BK299
            clear BK307
            clear HI288
            clear HB
            have HO_300001 := n0_
            have HO_300002 := n1_
            have HO_308001 := n2_
            have HO_308002 := n3_
            have BK299 := n4_
            have BK307 := n5_
            have HI288 := n6_
            have HB := n7_
            clear n0_ n1_ n2_ n3_ n4_ n5_ n6_ n7_
            (try clear hb)
            (try clear hb2)
            (try clear hk)
            (try clear hi)
            refine hK.out _ _ ⟨(blk_cell BK307.out 0).trans rfl, (blk_cell BK307.out 1).trans rfl, (blk_cell BK307.out 2).trans rfl, (blk_cell BK299.out 0).trans rfl, (blk_cell BK299.out 1).trans rfl, (blk_cell BK299.out 2).trans rfl⟩ (fun hHeld => ?_)
            clear hK K
            refine norm_ (a' := ?_) ?_ ?_
            rotate_left
            · show Act.put _ (some 38) _ = _
              simp only [Act.put, List.setIfInBounds_toArray, List.set_cons_zero, List.set_cons_succ, i64_w, i32_w]
              rfl
            refine pure_ (i := 2) (N := some 39) (v := ?_) (a' := ?_) #[true, true, true, false, false, false, false, false, false, false, false, false, false] rfl rfl (any_of HT_.out (by kernel_rfl)) (fun _ _ _ h => h) (Or.inl ⟨by rfl, ?_⟩) ?_ ?_
            rotate_left
            · intro w'
              go_simp
              with_reducible rfl
            rotate_left
            · simp only [Act.put, List.setIfInBounds_toArray, List.set_cons_zero, List.set_cons_succ, i64_w, i32_w]
              rfl
            refine pure_ (i := 3) (N := some 40) (v := ?_) (a' := ?_) #[true, true, true, true, false, false, false, false, false, false, false, false, false] rfl rfl (any_of HT_.out (by kernel_rfl)) (fun _ _ _ h => h) (Or.inl ⟨by rfl, ?_⟩) ?_ ?_
            rotate_left
            · intro w'
              go_simp
              with_reducible rfl
            rotate_left
            · simp only [Act.put, List.setIfInBounds_toArray, List.set_cons_zero, List.set_cons_succ, i64_w, i32_w]
              rfl
            refine take_ (i := 4) (N := some 41) (v := ?_) (a' := ?_) #[true, true, true, true, true, false, false, false, false, false, false, false, false] rfl rfl (take_ofW HT_.out HW_.out (by kernel_rfl)) (fun _ _ _ h => h) (Or.inl ⟨by rfl, ?_⟩) hHeld ?_ ?_
            rotate_left
            · rintro w' ⟨s0, s1, s2, s3, s4, s5⟩
              go_simp
              with_reducible rfl
            rotate_left
            · simp only [Act.put, List.setIfInBounds_toArray, List.set_cons_zero, List.set_cons_succ, i64_w, i32_w]
              rfl
            refine take_ (i := 6) (N := some 43) (v := ?_) (a' := ?_) #[true, true, true, true, true, false, true, false, false, false, false, false, false] rfl rfl (take_ofW HT_.out HW_.out (by kernel_rfl)) (fun _ _ _ h => h) (Or.inl ⟨by rfl, ?_⟩) hHeld ?_ ?_
            rotate_left
            · rintro w' ⟨s0, s1, s2, s3, s4, s5⟩
              go_simp
              with_reducible rfl
            rotate_left
            · simp only [Act.put, List.setIfInBounds_toArray, List.set_cons_zero, List.set_cons_succ, i64_w, i32_w]
              rfl
            refine one_ (i := 5) (N := some 42) #[true, true, true, true, true, true, true, false, false, false, false, false, false] rfl rfl (one_of HT_.out (by kernel_rfl)) (by decide) (fun K hK => ?_)
            refine goes_ Try.func20 (by kernel_rfl) rfl #[.agg #[.int .i64 t300, .slice Ao19 t301.length co19, .slice Ao20 t304.length co20]] (by rfl) rfl rfl (by (try simp only [List.map_toArray, List.map_cons, List.map_nil]); first | done | rfl | (simp only [List.length_drop, List.length_take]; rfl)) ?_
            with_reducible refine (threshold_Dual.calls k1 t300 _ _ t301 _ _ t304 t315 t316 t319 _ ?side1 ?side2 ?side3 ?side4 A37.out).mono ?_
            (case side1 => repeat (first | exact (Kd.R_reads' HO_308001.out).2.2 | (with_reducible refine Kd.C_alloc ?_ _) | (with_reducible refine Kd.C_drewN ?_ _) | (with_reducible refine Kd.C_drew ?_)))
            (case side2 => exact (Kd.R_reads' HO_308001.out).2.1)
            (case side3 => repeat (first | exact (Kd.R_reads' HO_308002.out).2.2 | (with_reducible refine Kd.C_alloc ?_ _) | (with_reducible refine Kd.C_drewN ?_ _) | (with_reducible refine Kd.C_drew ?_)))
            (case side4 => exact (Kd.R_reads' HO_308002.out).2.1)
            rintro e w43 ⟨v317, v320, rfl, ho0, ho1, hb⟩
            refine ⟨_, rfl, ?_⟩
            have n0_ := Aside0.mk (Kd.R_elder' (by (with_reducible repeat (first | apply Kd.R_alloc | apply Kd.R_drewN | apply Kd.R_drew)); exact HO_300001.out) (Kd.R_base ho0) hb)
            have n1_ := Aside0.mk (Kd.R_mono (Kd.R_told (Kd.R_told (Kd.R_old (by (with_reducible repeat (first | apply Kd.R_alloc | apply Kd.R_drewN | apply Kd.R_drew)); exact HO_300002.out) hb) (Kd.R_base ho0)) (Kd.R_base ho1)) (fun _ h_ => h_.1))
            have n2_ := Aside0.mk (Kd.R_elder' (by (with_reducible repeat (first | apply Kd.R_alloc | apply Kd.R_drewN | apply Kd.R_drew)); exact HO_308001.out) (Kd.R_base ho0) hb)
            have n3_ := Aside0.mk (Kd.R_mono (Kd.R_told (Kd.R_told (Kd.R_old (by (with_reducible repeat (first | apply Kd.R_alloc | apply Kd.R_drewN | apply Kd.R_drew)); exact HO_308002.out) hb) (Kd.R_base ho0)) (Kd.R_base ho1)) (fun _ h_ => h_.1))
            have n4_ := Aside0.mk (Kd.R_lower (Kd.R_new' (Kd.R_new' ho0 (Kd.R_lt (by (with_reducible repeat (first | apply Kd.R_alloc | apply Kd.R_drewN | apply Kd.R_drew)); exact HO_300001.out))) (Kd.R_lt (by (with_reducible repeat (first | apply Kd.R_alloc | apply Kd.R_drewN | apply Kd.R_drew)); exact HO_308001.out))) (below_size (by repeat (first | (with_reducible first | exact HB.out | apply below_alloc | apply pw_below_drewN | apply below_drew1 | refine below_set ?_ (IsS43.ge HI288.out) | refine below_set ?_ GE299.out | refine below_set ?_ GE307.out) | exact HB.out))))
            have n5_ := Aside0.mk (Kd.R_lower (Kd.R_newB (Kd.R_newB (Kd.R_new' (Kd.R_new' (Kd.R_new' (Kd.R_new' ho1 (Kd.R_lt (by (with_reducible repeat (first | apply Kd.R_alloc | apply Kd.R_drewN | apply Kd.R_drew)); exact HO_300001.out))) (Kd.R_lt (by (with_reducible repeat (first | apply Kd.R_alloc | apply Kd.R_drewN | apply Kd.R_drew)); exact HO_300002.out))) (Kd.R_lt (by (with_reducible repeat (first | apply Kd.R_alloc | apply Kd.R_drewN | apply Kd.R_drew)); exact HO_308001.out))) (Kd.R_lt (by (with_reducible repeat (first | apply Kd.R_alloc | apply Kd.R_drewN | apply Kd.R_drew)); exact HO_308002.out))) (g := gb299) (o := .cells #[.int .i64 t291, .slice Ao12 t292.length co12, .slice Ao13 t295.length co13] 27 (0, 0)) (by (with_reducible repeat (first | refine blk_drewN ?_ _ | refine blk_drew ?_ | refine blk_alloc ?_ _)); exact BK299.out)) (g := gb307) (o := .cells #[.int .i64 t300, .slice Ao19 t301.length co19, .slice Ao20 t304.length co20] 27 (0, 0)) (by (with_reducible repeat (first | refine blk_drewN ?_ _ | refine blk_drew ?_ | refine blk_alloc ?_ _)); exact BK307.out)) (below_size (by repeat (first | (with_reducible first | exact HB.out | apply below_alloc | apply pw_below_drewN | apply below_drew1 | refine below_set ?_ (IsS43.ge HI288.out) | refine below_set ?_ GE299.out | refine below_set ?_ GE307.out) | exact HB.out))))
            have n6_ := Aside0.mk (blk_below (g := gb299) (o := .cells #[.int .i64 t291, .slice Ao12 t292.length co12, .slice Ao13 t295.length co13] 27 (0, 0)) (by (with_reducible repeat (first | refine blk_drewN ?_ _ | refine blk_drew ?_ | refine blk_alloc ?_ _)); exact BK299.out) hb)
            have n7_ := Aside0.mk (blk_below (g := gb307) (o := .cells #[.int .i64 t300, .slice Ao19 t301.length co19, .slice Ao20 t304.length co20] 27 (0, 0)) (by (with_reducible repeat (first | refine blk_drewN ?_ _ | refine blk_drew ?_ | refine blk_alloc ?_ _)); exact BK307.out) hb)
            have n8_ := Aside0.mk (IsS43.below (by repeat (first | (with_reducible first | exact HI288.out | apply IsS43.alloc | apply IsS43.drewN | apply IsS43.drew | apply IsS43.set_1 | refine IsS43.far ?_ NB288_299.out _ | refine IsS43.far ?_ NB288_307.out _) | exact HI288.out)) hb)
            have n9_ := Aside0.mk (below_step (by repeat (first | (with_reducible first | exact HB.out | apply below_alloc | apply pw_below_drewN | apply below_drew1 | refine below_set ?_ (IsS43.ge HI288.out) | refine below_set ?_ GE299.out | refine below_set ?_ GE307.out) | exact HB.out)) hb)
            clear HO_300001
            clear HO_300002
            clear HO_308001
            clear HO_308002
            clear BK299
            clear BK307
            clear HI288
            clear HB
            have HO_300001 := n0_
            have HO_300002 := n1_
            have HO_308001 := n2_
            have HO_308002 := n3_
            have HO318 := n4_
            have HO321 := n5_
            have BK299 := n6_
            have BK307 := n7_
            have HI288 := n8_
            have HB := n9_
            clear n0_ n1_ n2_ n3_ n4_ n5_ n6_ n7_ n8_ n9_
            (try clear hb)
            (try clear hb2)
            (try clear hk)
            (try clear hi)
            (try clear ho0)
            (try clear ho1)
            obtain ⟨Ao44, co44, eo44⟩ := Kd.R_slice HO318.out
            (first | subst eo44 | (injection eo44 with f1_ f2_ f3_; have f4_ := f1_.symm; have f5_ := f3_.symm; clear f1_ f2_ f3_; subst f4_; subst f5_))
            obtain ⟨Ao45, co45, eo45⟩ := Kd.R_slice HO321.out
            (first | subst eo45 | (injection eo45 with f1_ f2_ f3_; have f4_ := f1_.symm; have f5_ := f3_.symm; clear f1_ f2_ f3_; subst f4_; subst f5_))
            refine hK.out _ _ ⟨(blk_cell BK307.out 0).trans rfl, (blk_cell BK307.out 1).trans rfl, (blk_cell BK307.out 2).trans rfl, (blk_cell BK299.out 0).trans rfl, (blk_cell BK299.out 1).trans rfl, (blk_cell BK299.out 2).trans rfl⟩ (fun hHeld => ?_)
            clear hK K
            refine norm_ (a' := ?_) ?_ ?_
            rotate_left
            · show Act.put _ (some 42) _ = _
              simp only [Act.put, List.setIfInBounds_toArray, List.set_cons_zero, List.set_cons_succ, i64_w, i32_w]
              rfl
            refine one_ (i := 7) (N := some 44) #[true, true, true, true, true, true, true, true, false, false, false, false, false] rfl rfl (one_of HT_.out (by kernel_rfl)) (by decide) (fun K hK => ?_)
            refine goes_ Try.func21 (by kernel_rfl) rfl #[.agg #[.int .i64 t315, .slice Ao44 t316.length co44, .slice Ao45 t319.length co45], .agg #[.int .i64 t291, .slice Ao12 t292.length co12, .slice Ao13 t295.length co13]] (by rfl) rfl rfl (by (try simp only [List.map_toArray, List.map_cons, List.map_nil]); first | done | rfl | (simp only [List.length_drop, List.length_take]; rfl)) ?_
            with_reducible refine (threshold_Same.calls k1 t315 _ _ t316 _ _ t319 t291 _ _ t292 _ _ t295 true _ ?side1 ?side2 ?side3 ?side4 ?side5 ?side6 ?side7 ?side8 A38.out).mono ?_
            (case side1 => repeat (first | exact (Kd.R_reads' HO318.out).2.2 | (with_reducible refine Kd.C_alloc ?_ _) | (with_reducible refine Kd.C_drewN ?_ _) | (with_reducible refine Kd.C_drew ?_)))
            (case side2 => exact (Kd.R_reads' HO318.out).2.1)
            (case side3 => repeat (first | exact (Kd.R_reads' HO321.out).2.2 | (with_reducible refine Kd.C_alloc ?_ _) | (with_reducible refine Kd.C_drewN ?_ _) | (with_reducible refine Kd.C_drew ?_)))
            (case side4 => exact (Kd.R_reads' HO321.out).2.1)
            (case side5 => repeat (first | exact (Kd.R_reads' HO_300001.out).2.2 | (with_reducible refine Kd.C_alloc ?_ _) | (with_reducible refine Kd.C_drewN ?_ _) | (with_reducible refine Kd.C_drew ?_)))
            (case side6 => exact (Kd.R_reads' HO_300001.out).2.1)
            (case side7 => repeat (first | exact (Kd.R_reads' HO_300002.out).2.2 | (with_reducible refine Kd.C_alloc ?_ _) | (with_reducible refine Kd.C_drewN ?_ _) | (with_reducible refine Kd.C_drew ?_)))
            (case side8 => exact (Kd.R_reads' HO_300002.out).2.1)
            rintro e w46 ⟨rfl, hb⟩
            refine ⟨_, rfl, ?_⟩
            have n0_ := Aside0.mk (Kd.R_below (by (with_reducible repeat (first | apply Kd.R_alloc | apply Kd.R_drewN | apply Kd.R_drew)); exact HO_300001.out) hb)
            have n1_ := Aside0.mk (Kd.R_below (by (with_reducible repeat (first | apply Kd.R_alloc | apply Kd.R_drewN | apply Kd.R_drew)); exact HO_300002.out) hb)
            have n2_ := Aside0.mk (Kd.R_below (by (with_reducible repeat (first | apply Kd.R_alloc | apply Kd.R_drewN | apply Kd.R_drew)); exact HO_308001.out) hb)
            have n3_ := Aside0.mk (Kd.R_below (by (with_reducible repeat (first | apply Kd.R_alloc | apply Kd.R_drewN | apply Kd.R_drew)); exact HO_308002.out) hb)
            have n4_ := Aside0.mk (Kd.R_below (by (with_reducible repeat (first | apply Kd.R_alloc | apply Kd.R_drewN | apply Kd.R_drew)); exact HO318.out) hb)
            have n5_ := Aside0.mk (Kd.R_below (by (with_reducible repeat (first | apply Kd.R_alloc | apply Kd.R_drewN | apply Kd.R_drew)); exact HO321.out) hb)
            have n6_ := Aside0.mk (blk_below (g := gb299) (o := .cells #[.int .i64 t291, .slice Ao12 t292.length co12, .slice Ao13 t295.length co13] 27 (0, 0)) (by (with_reducible repeat (first | refine blk_drewN ?_ _ | refine blk_drew ?_ | refine blk_alloc ?_ _)); exact BK299.out) hb)
            have n7_ := Aside0.mk (blk_below (g := gb307) (o := .cells #[.int .i64 t300, .slice Ao19 t301.length co19, .slice Ao20 t304.length co20] 27 (0, 0)) (by (with_reducible repeat (first | refine blk_drewN ?_ _ | refine blk_drew ?_ | refine blk_alloc ?_ _)); exact BK307.out) hb)
            have n8_ := Aside0.mk (IsS43.below (by repeat (first | (with_reducible first | exact HI288.out | apply IsS43.alloc | apply IsS43.drewN | apply IsS43.drew | apply IsS43.set_1 | refine IsS43.far ?_ NB288_299.out _ | refine IsS43.far ?_ NB288_307.out _) | exact HI288.out)) hb)
            have n9_ := Aside0.mk (below_step (by repeat (first | (with_reducible first | exact HB.out | apply below_alloc | apply pw_below_drewN | apply below_drew1 | refine below_set ?_ (IsS43.ge HI288.out) | refine below_set ?_ GE299.out | refine below_set ?_ GE307.out) | exact HB.out)) hb)
            clear HO_300001
            clear HO_300002
            clear HO_308001
            clear HO_308002
            clear HO318
            clear HO321
            clear BK299
            clear BK307
            clear HI288
            clear HB
            have HO_300001 := n0_
            have HO_300002 := n1_
            have HO_308001 := n2_
            have HO_308002 := n3_
            have HO318 := n4_
            have HO321 := n5_
            have BK299 := n6_
            have BK307 := n7_
            have HI288 := n8_
            have HB := n9_
            clear n0_ n1_ n2_ n3_ n4_ n5_ n6_ n7_ n8_ n9_
            (try clear hb)
            (try clear hb2)
            (try clear hk)
            (try clear hi)
            refine hK.out _ _ ⟨(blk_cell BK307.out 0).trans rfl, (blk_cell BK307.out 1).trans rfl, (blk_cell BK307.out 2).trans rfl, (blk_cell BK299.out 0).trans rfl, (blk_cell BK299.out 1).trans rfl, (blk_cell BK299.out 2).trans rfl⟩ (fun hHeld => ?_)
            clear hK K
            refine norm_ (a' := ?_) ?_ ?_
            rotate_left
            · show Act.put _ (some 44) _ = _
              simp only [Act.put, List.setIfInBounds_toArray, List.set_cons_zero, List.set_cons_succ, i64_w, i32_w]
              rfl
            refine pure_ (i := 8) (N := some 45) (v := ?_) (a' := ?_) #[true, true, true, true, true, true, true, true, true, false, false, false, false] rfl rfl (any_of HT_.out (by kernel_rfl)) (fun _ _ _ h => h) (Or.inl ⟨by rfl, ?_⟩) ?_ ?_
            rotate_left
            · intro w'
              go_simp
              with_reducible rfl
            rotate_left
            · simp only [Act.put, List.setIfInBounds_toArray, List.set_cons_zero, List.set_cons_succ, i64_w, i32_w]
              rfl
            refine pure_ (i := 9) (N := some 46) (v := ?_) (a' := ?_) #[true, true, true, true, true, true, true, true, true, true, false, false, false] rfl rfl (any_of HT_.out (by kernel_rfl)) (fun _ _ _ h => h) (Or.inl ⟨by rfl, ?_⟩) ?_ ?_
            rotate_left
            · intro w'
              go_simp
              with_reducible rfl
            rotate_left
            · simp only [Act.put, List.setIfInBounds_toArray, List.set_cons_zero, List.set_cons_succ, i64_w, i32_w]
              rfl
            refine one_ (i := 10) (N := some 47) #[true, true, true, true, true, true, true, true, true, true, true, false, false] rfl rfl (one_of HT_.out (by kernel_rfl)) (by decide) (fun K hK => ?_)
            refine goes_ Try.func14 (by kernel_rfl) rfl #[] (by rfl) rfl rfl (by (try simp only [List.map_toArray, List.map_cons, List.map_nil]); first | done | rfl | (simp only [List.length_drop, List.length_take]; rfl)) ?_
            with_reducible refine (trustquorumlaw02_awake.calls k1  t323 _ A40.out).mono ?_
            rintro e w47 ⟨rfl, hb⟩
            refine ⟨_, rfl, ?_⟩
            have n0_ := Aside0.mk (Kd.R_below (by (with_reducible repeat (first | apply Kd.R_alloc | apply Kd.R_drewN | apply Kd.R_drew)); exact HO_300001.out) hb)
            have n1_ := Aside0.mk (Kd.R_below (by (with_reducible repeat (first | apply Kd.R_alloc | apply Kd.R_drewN | apply Kd.R_drew)); exact HO_300002.out) hb)
            have n2_ := Aside0.mk (Kd.R_below (by (with_reducible repeat (first | apply Kd.R_alloc | apply Kd.R_drewN | apply Kd.R_drew)); exact HO_308001.out) hb)
            have n3_ := Aside0.mk (Kd.R_below (by (with_reducible repeat (first | apply Kd.R_alloc | apply Kd.R_drewN | apply Kd.R_drew)); exact HO_308002.out) hb)
            have n4_ := Aside0.mk (Kd.R_below (by (with_reducible repeat (first | apply Kd.R_alloc | apply Kd.R_drewN | apply Kd.R_drew)); exact HO318.out) hb)
            have n5_ := Aside0.mk (Kd.R_below (by (with_reducible repeat (first | apply Kd.R_alloc | apply Kd.R_drewN | apply Kd.R_drew)); exact HO321.out) hb)
            have n6_ := Aside0.mk (blk_below (g := gb299) (o := .cells #[.int .i64 t291, .slice Ao12 t292.length co12, .slice Ao13 t295.length co13] 27 (0, 0)) (by (with_reducible repeat (first | refine blk_drewN ?_ _ | refine blk_drew ?_ | refine blk_alloc ?_ _)); exact BK299.out) hb)
            have n7_ := Aside0.mk (blk_below (g := gb307) (o := .cells #[.int .i64 t300, .slice Ao19 t301.length co19, .slice Ao20 t304.length co20] 27 (0, 0)) (by (with_reducible repeat (first | refine blk_drewN ?_ _ | refine blk_drew ?_ | refine blk_alloc ?_ _)); exact BK307.out) hb)
            have n8_ := Aside0.mk (IsS43.below (by repeat (first | (with_reducible first | exact HI288.out | apply IsS43.alloc | apply IsS43.drewN | apply IsS43.drew | apply IsS43.set_1 | refine IsS43.far ?_ NB288_299.out _ | refine IsS43.far ?_ NB288_307.out _) | exact HI288.out)) hb)
            have n9_ := Aside0.mk (below_step (by repeat (first | (with_reducible first | exact HB.out | apply below_alloc | apply pw_below_drewN | apply below_drew1 | refine below_set ?_ (IsS43.ge HI288.out) | refine below_set ?_ GE299.out | refine below_set ?_ GE307.out) | exact HB.out)) hb)
            clear HO_300001
            clear HO_300002
            clear HO_308001
            clear HO_308002
            clear HO318
            clear HO321
            clear BK299
            clear BK307
            clear HI288
            clear HB
            have HO_300001 := n0_
            have HO_300002 := n1_
            have HO_308001 := n2_
            have HO_308002 := n3_
            have HO318 := n4_
            have HO321 := n5_
            have BK299 := n6_
            have BK307 := n7_
            have HI288 := n8_
            have HB := n9_
            clear n0_ n1_ n2_ n3_ n4_ n5_ n6_ n7_ n8_ n9_
            (try clear hb)
            (try clear hb2)
            (try clear hk)
            (try clear hi)
            refine hK.out _ _ ⟨(blk_cell BK307.out 0).trans rfl, (blk_cell BK307.out 1).trans rfl, (blk_cell BK307.out 2).trans rfl, (blk_cell BK299.out 0).trans rfl, (blk_cell BK299.out 1).trans rfl, (blk_cell BK299.out 2).trans rfl⟩ (fun hHeld => ?_)
            clear hK K
            refine norm_ (a' := ?_) ?_ ?_
            rotate_left
            · show Act.put _ (some 47) _ = _
              simp only [Act.put, List.setIfInBounds_toArray, List.set_cons_zero, List.set_cons_succ, i64_w, i32_w]
              rfl
            refine pure_ (i := 11) (N := some 48) (v := ?_) (a' := ?_) #[true, true, true, true, true, true, true, true, true, true, true, true, false] rfl rfl (any_of HT_.out (by kernel_rfl)) (fun _ _ _ h => h) (Or.inl ⟨by rfl, ?_⟩) ?_ ?_
            rotate_left
            · intro w'
              go_simp
              with_reducible rfl
            rotate_left
            · simp only [Act.put, List.setIfInBounds_toArray, List.set_cons_zero, List.set_cons_succ, i64_w, i32_w]
              rfl
            refine pure_ (i := 12) (N := some 2) (v := ?_) (a' := ?_) #[true, true, true, true, true, true, true, true, true, true, true, true, true] rfl rfl (any_of HT_.out (by kernel_rfl)) (fun _ _ _ h => h) (Or.inl ⟨by rfl, ?_⟩) ?_ ?_
            rotate_left
            · intro w'
              go_simp
              with_reducible rfl
            rotate_left
            · simp only [Act.put, List.setIfInBounds_toArray, List.set_cons_zero, List.set_cons_succ, i64_w, i32_w]
              rfl
            refine done_ (done_of HT_.out (by kernel_rfl)) ?_
            try go_wp2
            go_ret
            exact ⟨by first | rfl | (simp [errW_none, errW_some] <;> rfl) | (simp [*, errW_none, errW_some] <;> rfl), by repeat (first | (with_reducible first | exact HB.out | apply below_alloc | apply pw_below_drewN | apply below_drew1 | refine below_set ?_ (IsS43.ge HI288.out) | refine below_set ?_ GE299.out | refine below_set ?_ GE307.out) | exact HB.out)⟩
          · replace c39 := Bool.eq_false_iff.mpr c39
            subst c39
            have H1 : (some false) = some r := by rw [if_neg (show ¬ (false = true) by decide)] at H; exact H
            clear H
            have H := H1
            clear H1
            exact absurd ((Option.some.inj H).trans HRT.out) (by decide)
        · rw [if_neg c36] at H
          have c36b0 : (t314 == 0) = false := beq_eq_false_iff_ne.mpr c36
          have c36b1 : (t314 != 0) = true := bne_iff_ne.mpr c36
          exact absurd ((Option.some.inj H).trans HRT.out) (by decide)

/-- THE ONE PURE STATEMENT of trustquorumlaw02_ThresholdDual: yours. -/
def trustquorumlaw02_ThresholdDual.Pure : Prop := ∀ (l0 : List Int), l0.length ≤ maxLen → l0.length * 8 ≤ 140737488351232 → (∀ x ∈ l0, (Lit.int .i64 x).wf = true) → ∃ k, trustquorumlaw02_ThresholdDual.f k l0 = some true
theorem trustquorumlaw02_ThresholdDual.walk (P : trustquorumlaw02_ThresholdDual.Pure) (a0 : Option Addr) (len0 cap0 : Nat) (z0 : List Int) (w : World) (w0 : (a0 = none ∧ len0 = 0 ∧ cap0 = 0 ∧ z0 = []) ∨ ∃ x, a0 = some x ∧ len0 ≤ cap0 ∧ cap0 ≤ maxLen ∧ z0.length = cap0 ∧ (∀ i, i < z0.length → w.cell? (x.add i) = some (.int .i64 (z0.getD i 0))) ∧ ∀ n ∈ z0, (Lit.int .i64 n).wf = true) (y0 : len0 * 8 ≤ 140737488351232) :
    Calls Try.prog 6 #[.slice a0 len0 cap0] w fun e w' => e = .returned (.bool true) ∧ Below w.heap.size w w' := by
  obtain ⟨l0, rfl, hr0, hm0, hw0, hc0⟩ := ReadsInt.ofRowC w0
  obtain ⟨k, h⟩ := P l0 hm0 y0 hw0
  refine (trustquorumlaw02_ThresholdDual.calls k _ _ l0 true w (Kd.C_of_reads (d := (0 : Int)) (h1 := fun _ => rfl) hr0) hc0 ⟨rfl⟩ h).mono ?_
  rintro e w' ⟨rfl, hd⟩
  exact ⟨rfl, hd⟩

end Go.Proofs.Yteljoemeogeidaa.QThresholdDual
