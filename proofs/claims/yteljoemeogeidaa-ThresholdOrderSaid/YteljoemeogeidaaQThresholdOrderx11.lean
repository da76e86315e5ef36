/- Lean functions that answer as the Go functions do which the law reaches, and proofs that the Go code comes to exactly these answers. Conditions: those that each theorem names. -/
import Derived.Test.YteljoemeogeidaaQThresholdOrderx0
import Derived.Test.YteljoemeogeidaaQThresholdOrderx1
import Derived.Test.YteljoemeogeidaaQThresholdOrderx2
import Derived.Test.YteljoemeogeidaaQThresholdOrderx4
import Derived.Test.YteljoemeogeidaaQThresholdOrderx5
import Derived.Test.YteljoemeogeidaaQThresholdOrderx7
import Derived.Test.YteljoemeogeidaaQThresholdOrderx8
import Derived.Test.YteljoemeogeidaaQThresholdOrderx9
import Derived.Test.YteljoemeogeidaaQThresholdOrderx10
namespace Go.Proofs.Yteljoemeogeidaa.QThresholdOrder
open Go.RowKit Go.Proofs.YteljoemeogeidaaW.PrintWords Go.Proofs.YteljoemeogeidaaW.PrintLast Go.Proofs.YteljoemeogeidaaW.PrintMore
attribute [local go_sem] max2_int min2_int max_two min_two max_three min_three max_four min_four   -- for this text's walks alone
set_option linter.unusedVariables false
set_option linter.unusedSimpArgs false

/-! ### trustquorumlaw02_ThresholdOrder: function 5 -/
def trustquorumlaw02_ThresholdOrder.l0 : Nat → Int → List Int → Int → Int → List Int → List (S27) → Int → List Int → List (S27) → Option (Bool)
  | 0, _, _, _, _, _, _, _, _, _ => none
  | k + 1, x6, x313000, x313001, x324000, x324001, x324002, x333000, x333001, x333002 => if x6 < 10 then ((trustquorummake_Tape_N.f x313000 x313001 1024).bind fun bt333 => ((threshold_Satisfied.f k x324000 x324001 x324002 bt333.1).bind fun t335 => ((threshold_Satisfied.f k x333000 x333001 x333002 bt333.1).bind fun t336 => (if (t335 != t336) = true then (some false) else ((threshold_Blocked.f k x324000 x324001 x324002 bt333.1).bind fun t337 => ((threshold_Blocked.f k x333000 x333001 x333002 bt333.1).bind fun t338 => (if (t337 != t338) = true then (some false) else (trustquorumlaw02_ThresholdOrder.l0 k (wrap64 (x6 + 1)) x313000 bt333.2 x324000 x324001 x324002 x333000 x333001 x333002)))))))) else ((threshold_Size.f k x324000 x324001 x324002).bind fun t339 => ((threshold_Size.f k x333000 x333001 x333002).bind fun t340 => (if t339 = t340 then ((threshold_Uses.f k x324000 x324001 x324002).bind fun t341 => ((threshold_Uses.f k x333000 x333001 x333002).bind fun t342 => (if t341 = t342 then ((threshold_Depth.f k x324000 x324001 x324002).bind fun t343 => ((threshold_Depth.f k x333000 x333001 x333002).bind fun t344 => (if t343 = t344 then ((threshold_Valid.f k x333000 x333001 x333002).bind fun t345 => (if t345 = 0 then ((trustquorumlaw02_awake.f k).bind fun t346 => (some t346)) else (some false))) else (some false)))) else (some false)))) else (some false))))
def trustquorumlaw02_ThresholdOrder.f (k : Nat) (l0 : List Int) : Option (Bool) := (trustquorummake_New.f l0).bind fun bt310 => ((trustquorummake_Tape_Range.f bt310.1 bt310.2 1 10).bind fun bt313 => ((trustquorummake_Trust.f k bt310.1 bt313.2 bt313.1 3).bind fun bt315 => ((trustquorumlaw02_mixed.f k bt310.1 bt315.2.2.2 bt315.1 bt315.2.1 bt315.2.2.1).bind fun bt324 => (trustquorumlaw02_ThresholdOrder.l0 k 0 bt310.1 bt324.2.2.2 bt315.1 bt315.2.1 bt315.2.2.1 bt324.1 bt324.2.1 bt324.2.2.1))))
theorem trustquorumlaw02_ThresholdOrder.mono_l : ∀ k, (∀ y0 y1 y2 y3 y4 y5 y6 y7 y8, LeO (trustquorumlaw02_ThresholdOrder.l0 k y0 y1 y2 y3 y4 y5 y6 y7 y8) (trustquorumlaw02_ThresholdOrder.l0 (k + 1) y0 y1 y2 y3 y4 y5 y6 y7 y8))
  | 0 => fun _ _ _ _ _ _ _ _ _ r h => by simp [trustquorumlaw02_ThresholdOrder.l0] at h
  | k + 1 => by
    have ih0 := trustquorumlaw02_ThresholdOrder.mono_l k
    · intro y0 y1 y2 y3 y4 y5 y6 y7 y8
      unfold trustquorumlaw02_ThresholdOrder.l0
      repeat' first
      | (with_reducible exact ih0 _ _ _ _ _ _ _ _ _)
      | (with_reducible exact threshold_Blocked.mono _ _ _ _ _)
      | (with_reducible exact threshold_Depth.mono _ _ _ _)
      | (with_reducible exact threshold_Satisfied.mono _ _ _ _ _)
      | (with_reducible exact threshold_Size.mono _ _ _ _)
      | (with_reducible exact threshold_Uses.mono _ _ _ _)
      | (with_reducible exact threshold_Valid.mono _ _ _ _)
      | (with_reducible exact trustquorumlaw02_awake.mono _)
      | (with_reducible exact trustquorumlaw02_mixed.mono _ _ _ _ _ _)
      | (with_reducible exact trustquorummake_Trust.mono _ _ _ _ _)
      | (with_reducible exact LeO.refl _)
      | (with_reducible exact LeO.none _)
      | (with_reducible refine LeO.ite ?_ ?_)
      | (with_reducible refine LeO.bind ?_ (fun _ => ?_))
      | exact ih0 _ _ _ _ _ _ _ _ _
      | exact threshold_Blocked.mono _ _ _ _ _
      | exact threshold_Depth.mono _ _ _ _
      | exact threshold_Satisfied.mono _ _ _ _ _
      | exact threshold_Size.mono _ _ _ _
      | exact threshold_Uses.mono _ _ _ _
      | exact threshold_Valid.mono _ _ _ _
      | exact trustquorumlaw02_awake.mono _
      | exact trustquorumlaw02_mixed.mono _ _ _ _ _ _
      | exact trustquorummake_Trust.mono _ _ _ _ _
      | exact LeO.none _
      | refine LeO.ite ?_ ?_
      | refine LeO.bind ?_ (fun _ => ?_)
theorem trustquorumlaw02_ThresholdOrder.mono : ∀ a0 k, LeO (trustquorumlaw02_ThresholdOrder.f k a0) (trustquorumlaw02_ThresholdOrder.f (k + 1) a0) := by
  intro a0 k
  have ih0 := trustquorumlaw02_ThresholdOrder.mono_l k
  unfold trustquorumlaw02_ThresholdOrder.f
  repeat' first
      | (with_reducible exact ih0 _ _ _ _ _ _ _ _ _)
      | (with_reducible exact threshold_Blocked.mono _ _ _ _ _)
      | (with_reducible exact threshold_Depth.mono _ _ _ _)
      | (with_reducible exact threshold_Satisfied.mono _ _ _ _ _)
      | (with_reducible exact threshold_Size.mono _ _ _ _)
      | (with_reducible exact threshold_Uses.mono _ _ _ _)
      | (with_reducible exact threshold_Valid.mono _ _ _ _)
      | (with_reducible exact trustquorumlaw02_awake.mono _)
      | (with_reducible exact trustquorumlaw02_mixed.mono _ _ _ _ _ _)
      | (with_reducible exact trustquorummake_Trust.mono _ _ _ _ _)
      | (with_reducible exact LeO.refl _)
      | (with_reducible exact LeO.none _)
      | (with_reducible refine LeO.ite ?_ ?_)
      | (with_reducible refine LeO.bind ?_ (fun _ => ?_))
      | exact ih0 _ _ _ _ _ _ _ _ _
      | exact threshold_Blocked.mono _ _ _ _ _
      | exact threshold_Depth.mono _ _ _ _
      | exact threshold_Satisfied.mono _ _ _ _ _
      | exact threshold_Size.mono _ _ _ _
      | exact threshold_Uses.mono _ _ _ _
      | exact threshold_Valid.mono _ _ _ _
      | exact trustquorumlaw02_awake.mono _
      | exact trustquorumlaw02_mixed.mono _ _ _ _ _ _
      | exact trustquorummake_Trust.mono _ _ _ _ _
      | exact LeO.none _
      | refine LeO.ite ?_ ?_
      | refine LeO.bind ?_ (fun _ => ?_)
def trustquorumlaw02_ThresholdOrder.T8 : Bool × List (List Nat × List Nat) := (true, [([], []), ([], []), ([0, 1], [0, 1]), ([], []), ([], []), ([3, 4, 2], [3, 4]), ([2, 5], [2, 5]), ([6, 5], [6]), ([7], [7]), ([7], [7]), ([8, 9, 7, 7], [7, 8, 9]), ([7], [7]), ([7], [7]), ([11, 12, 10, 7], [7, 11, 12]), ([10, 13, 7], [7, 10, 13]), ([7, 14], [7, 14])])
def trustquorumlaw02_ThresholdOrder.B8 : List Nat := [0, 0, 3, 0, 0, 31, 63, 127, 255, 255, 1023, 255, 255, 8191, 16383, 32767]
theorem trustquorumlaw02_ThresholdOrder.tab8 : rtab .any (opsOf Try.f5 8) = trustquorumlaw02_ThresholdOrder.T8 := by kernel_rfl
theorem trustquorumlaw02_ThresholdOrder.bits8 : waitsOk trustquorumlaw02_ThresholdOrder.T8.2 trustquorumlaw02_ThresholdOrder.B8 = true := by kernel_rfl
def trustquorumlaw02_ThresholdOrder.T10 : Bool × List (List Nat × List Nat) := (true, [([], []), ([0], [0]), ([], []), ([2, 1], [2]), ([1, 3], [1, 3]), ([4, 3], [4]), ([5], [5]), ([6, 5, 5], [5, 6]), ([5], [5]), ([8, 7, 5], [5, 8]), ([7, 9, 5], [5, 7, 9]), ([5, 10], [5, 10]), ([11, 9], [11]), ([12], [12]), ([13, 12, 12], [12, 13]), ([12], [12]), ([15, 14, 12], [12, 15]), ([14, 16, 12], [12, 14, 16]), ([12, 17], [12, 17]), ([18, 16], [18]), ([19], [19]), ([20, 19, 19], [19, 20]), ([21, 19], [19, 21]), ([19, 22], [19, 22]), ([23, 21], [23]), ([24, 24], [24]), ([24, 25], [24, 25]), ([26, 25, 0, 1, 2, 3, 4, 5, 6, 7, 8, 9, 10, 11, 12, 13, 14, 15, 16, 17, 18, 19, 20, 21, 22, 23, 24, 25, 26], [26])])
def trustquorumlaw02_ThresholdOrder.B10 : List Nat := [0, 1, 0, 7, 15, 31, 63, 127, 63, 511, 1023, 2047, 4095, 8191, 16383, 8191, 65535, 131071, 262143, 524287, 1048575, 2097151, 4194303, 8388607, 16777215, 33554431, 67108863, 134217727]
theorem trustquorumlaw02_ThresholdOrder.tab10 : rtab .any (opsOf Try.f5 10) = trustquorumlaw02_ThresholdOrder.T10 := by kernel_rfl
theorem trustquorumlaw02_ThresholdOrder.bits10 : waitsOk trustquorumlaw02_ThresholdOrder.T10.2 trustquorumlaw02_ThresholdOrder.B10 = true := by kernel_rfl
set_option maxHeartbeats 8000000 in
set_option maxRecDepth 100000 in
theorem trustquorumlaw02_ThresholdOrder.calls (k : Nat) (A0 : Option Addr) (c0 : Nat) (l0 : List Int) (r : Bool) (w : World) (hr0 : Kd.C (Kd.int .i64) w A0 l0.length l0) (hc0 : l0.length ≤ c0) (HRT : Aside0 (r = true)) (h : trustquorumlaw02_ThresholdOrder.f k l0 = some r) :
    Calls Try.prog 5 #[.slice A0 l0.length c0] w fun e w' => e = .returned (.bool r) ∧ Below w.heap.size w w' := by
  have hu27 := Try.underlying27
  have HR0 := Aside0.mk hr0
  have HC0 := Aside0.mk hc0
  clear hr0 hc0
  have HB := Aside0.mk (Below.refl w.heap.size w)
  have H : ((trustquorummake_New.f l0).bind fun bt310 => ((trustquorummake_Tape_Range.f bt310.1 bt310.2 1 10).bind fun bt313 => ((trustquorummake_Trust.f k bt310.1 bt313.2 bt313.1 3).bind fun bt315 => ((trustquorumlaw02_mixed.f k bt310.1 bt315.2.2.2 bt315.1 bt315.2.1 bt315.2.2.1).bind fun bt324 => (trustquorumlaw02_ThresholdOrder.l0 k 0 bt310.1 bt324.2.2.2 bt315.1 bt315.2.1 bt315.2.2.1 bt324.1 bt324.2.1 bt324.2.2.1))))) = some r := h
  clear h
  replace H := Option.bind_eq_some_iff.mp H
  obtain ⟨⟨t310, t311⟩, A20, H⟩ := H
  replace H : ((trustquorummake_Tape_Range.f t310 t311 1 10).bind fun bt313 => ((trustquorummake_Trust.f k t310 bt313.2 bt313.1 3).bind fun bt315 => ((trustquorumlaw02_mixed.f k t310 bt315.2.2.2 bt315.1 bt315.2.1 bt315.2.2.1).bind fun bt324 => (trustquorumlaw02_ThresholdOrder.l0 k 0 t310 bt324.2.2.2 bt315.1 bt315.2.1 bt315.2.2.1 bt324.1 bt324.2.1 bt324.2.2.1)))) = some r := H
  have A2 := Aside0.mk A20
  clear A20
  replace H := Option.bind_eq_some_iff.mp H
  obtain ⟨⟨t313, t314⟩, A30, H⟩ := H
  replace H : ((trustquorummake_Trust.f k t310 t314 t313 3).bind fun bt315 => ((trustquorumlaw02_mixed.f k t310 bt315.2.2.2 bt315.1 bt315.2.1 bt315.2.2.1).bind fun bt324 => (trustquorumlaw02_ThresholdOrder.l0 k 0 t310 bt324.2.2.2 bt315.1 bt315.2.1 bt315.2.2.1 bt324.1 bt324.2.1 bt324.2.2.1))) = some r := H
  have A3 := Aside0.mk A30
  clear A30
  replace H := Option.bind_eq_some_iff.mp H
  obtain ⟨⟨t315, t316, t319, t322⟩, A40, H⟩ := H
  replace H : ((trustquorumlaw02_mixed.f k t310 t322 t315 t316 t319).bind fun bt324 => (trustquorumlaw02_ThresholdOrder.l0 k 0 t310 bt324.2.2.2 t315 t316 t319 bt324.1 bt324.2.1 bt324.2.2.1)) = some r := H
  have A4 := Aside0.mk A40
  clear A40
  replace H := Option.bind_eq_some_iff.mp H
  obtain ⟨⟨t324, t325, t328, t331⟩, A50, H⟩ := H
  replace H : (trustquorumlaw02_ThresholdOrder.l0 k 0 t310 t331 t315 t316 t319 t324 t325 t328) = some r := H
  have A5 := Aside0.mk A50
  clear A50
  have H' := Aside0.mk H
  clear H
  go_enter Try.func5, Try.ntmps5
  go_wp2_with (first | ((with_reducible refine gate_callee (f := 8) rfl ?_); refine goesL_ (some 9) rfl rfl Try.func8 (by kernel_rfl) rfl #[.slice A0 l0.length c0] rfl (by (try simp only [List.map_toArray, List.map_cons, List.map_nil]); first | done | rfl | (simp only [List.length_drop, List.length_take]; rfl)) ?_; (with_reducible refine (trustquorummake_New.calls _ _ l0 t310 t311 w _ ?side1 ?side2 ?side3 A2.out).mono ?_); (case side1 => repeat (first | (with_reducible first | exact HB.out | apply below_alloc | apply pw_below_drewN | apply below_drew1) | exact HB.out)); (case side2 => exact HR0.out); (case side3 => exact HC0.out); rintro e w6 ⟨g312, rfl, hi, hb, hb2⟩; refine ⟨_, rfl, ?_⟩; have n0_ := Aside0.mk (hb); have n1_ := Aside0.mk (hi); clear HB; have HB := n0_; have HI312 := n1_; clear n0_ n1_; (try clear hb); (try clear hb2); (try clear hk); (try clear hi)) | ((with_reducible refine gate_callee (f := 10) rfl ?_); refine goesL_ (some 12) rfl rfl Try.func10 (by kernel_rfl) rfl #[.pointer (some ⟨g312, 0, none⟩), .int .i64 1, .int .i64 10] rfl (by (try simp only [List.map_toArray, List.map_cons, List.map_nil]); first | done | rfl | (simp only [List.length_drop, List.length_take]; rfl)) ?_; (with_reducible refine (trustquorummake_Tape_Range.calls g312 t310 t311 1 10 t313 t314 w _ ?side1 ?side2 A3.out).mono ?_); (case side1 => repeat (first | (with_reducible first | exact HI312.out | apply IsS43.alloc | apply IsS43.drewN | apply IsS43.drew | apply IsS43.set_1) | exact HI312.out)); (case side2 => repeat (first | (with_reducible first | exact HB.out | apply below_alloc | apply pw_below_drewN | apply below_drew1 | refine below_set ?_ (IsS43.ge HI312.out)) | exact HB.out)); rintro e w7 ⟨rfl, hi, hb, hk⟩; refine ⟨_, rfl, ?_⟩; have n0_ := Aside0.mk (hb); have n1_ := Aside0.mk (hi); clear HB; clear HI312; have HB := n0_; have HI312 := n1_; clear n0_ n1_; (try clear hb); (try clear hb2); (try clear hk); (try clear hi)) | ((with_reducible refine gate_callee (f := 9) rfl ?_); refine goesL_ (some 13) rfl rfl Try.func9 (by kernel_rfl) rfl #[.pointer (some ⟨g312, 0, none⟩), .int .i64 t313, .int .i64 3] rfl (by (try simp only [List.map_toArray, List.map_cons, List.map_nil]); first | done | rfl | (simp only [List.length_drop, List.length_take]; rfl)) ?_; (with_reducible refine (trustquorummake_Trust.calls k g312 t310 t314 t313 3 t315 t316 t319 t322 w _ ?side1 ?side2 A4.out).mono ?_); (case side1 => repeat (first | (with_reducible first | exact HI312.out | apply IsS43.alloc | apply IsS43.drewN | apply IsS43.drew | apply IsS43.set_1) | exact HI312.out)); (case side2 => repeat (first | (with_reducible first | exact HB.out | apply below_alloc | apply pw_below_drewN | apply below_drew1 | refine below_set ?_ (IsS43.ge HI312.out)) | exact HB.out)); rintro e w8 ⟨v317, v320, rfl, ho0, ho1, hi, hb, hk⟩; refine ⟨_, rfl, ?_⟩; have n0_ := Aside0.mk (Kd.R_lower ho0 (below_size (by repeat (first | (with_reducible first | exact HB.out | apply below_alloc | apply pw_below_drewN | apply below_drew1 | refine below_set ?_ (IsS43.ge HI312.out)) | exact HB.out)))); have n1_ := Aside0.mk (Kd.R_lower ho1 (below_size (by repeat (first | (with_reducible first | exact HB.out | apply below_alloc | apply pw_below_drewN | apply below_drew1 | refine below_set ?_ (IsS43.ge HI312.out)) | exact HB.out)))); have n2_ := Aside0.mk (hb); have n3_ := Aside0.mk (hi); clear HB; clear HI312; have HO318 := n0_; have HO321 := n1_; have HB := n2_; have HI312 := n3_; clear n0_ n1_ n2_ n3_; (try clear hb); (try clear hb2); (try clear hk); (try clear hi); (try clear ho0); (try clear ho1)) | ((with_reducible refine gate_dst (N := 4) rfl ?_); refine box_event ?hg (N := 4) ?hd (cs := #[.int .i64 0, .slice none 0 0, .slice none 0 0]) (t := 27) ?hr ?_; (case hd => rfl); (case hg => rfl); (case hr => first | (go_simp; done) | (go_simp; rfl)); intro gb323 hg w9 hbox hb; have n0_ := Aside0.mk (Kd.R_below (by (with_reducible repeat (first | apply Kd.R_alloc | apply Kd.R_drewN | apply Kd.R_drew)); exact HO318.out) hb); have n1_ := Aside0.mk (Kd.R_below (Kd.R_elderB (by (with_reducible repeat (first | apply Kd.R_alloc | apply Kd.R_drewN | apply Kd.R_drew)); exact HO321.out) gb323 (Nat.le_of_eq hg.symm)) hb); have n2_ := Aside0.mk (IsS43.below (by repeat (first | (with_reducible first | exact HI312.out | apply IsS43.alloc | apply IsS43.drewN | apply IsS43.drew | apply IsS43.set_1) | exact HI312.out)) hb); have n3_ := Aside0.mk (below_step (by repeat (first | (with_reducible first | exact HB.out | apply below_alloc | apply pw_below_drewN | apply below_drew1 | refine below_set ?_ (IsS43.ge HI312.out)) | exact HB.out)) hb); have n4_ := Aside0.mk (hbox); have n5_ := Aside0.mk ((by rw [hg]; exact (below_size (by repeat (first | (with_reducible first | exact HB.out | apply below_alloc | apply pw_below_drewN | apply below_drew1 | refine below_set ?_ (IsS43.ge HI312.out)) | exact HB.out))) : w.heap.size ≤ gb323)); have n6_ := Aside0.mk ((by rw [hg]; exact (below_size (by repeat (first | (with_reducible first | exact HB.out | apply below_alloc | apply pw_below_drewN | apply below_drew1 | refine below_set ?_ (IsS43.ge HI312.out)) | exact HB.out))) : w.heap.size ≤ gb323)); have n7_ := Aside0.mk ((by rw [hg]; exact Nat.ne_of_lt (IsS43.lt (show IsS43 w _ g312 t310 t322 from by repeat (first | (with_reducible first | exact HI312.out | apply IsS43.alloc | apply IsS43.drewN | apply IsS43.drew | apply IsS43.set_1) | exact HI312.out))) : g312 ≠ gb323)); have n8_ := Aside0.mk ((by rw [hg]; exact Nat.ne_of_gt (IsS43.lt (show IsS43 w _ g312 t310 t322 from by repeat (first | (with_reducible first | exact HI312.out | apply IsS43.alloc | apply IsS43.drewN | apply IsS43.drew | apply IsS43.set_1) | exact HI312.out))) : gb323 ≠ g312)); clear HO318; clear HO321; clear HI312; clear HB; have HO318 := n0_; have HO321 := n1_; have HI312 := n2_; have HB := n3_; have BK323 := n4_; have GW323 := n5_; have GE323 := n6_; have NB312_323 := n7_; have NB323_312 := n8_; clear n0_ n1_ n2_ n3_ n4_ n5_ n6_ n7_ n8_; clear hb hbox hg; have hnb10 := NB323_312.out; have hnc10 := NB312_323.out; have hcz11_0 : w9.cell? ⟨gb323, 0, none⟩ = some (.int .i64 0) := (blk_cell BK323.out 0).trans rfl; have hcz11_1 : w9.cell? ⟨gb323, 1, none⟩ = some (.slice none 0 0) := (blk_cell BK323.out 1).trans rfl; have hcz11_2 : w9.cell? ⟨gb323, 2, none⟩ = some (.slice none 0 0) := (blk_cell BK323.out 2).trans rfl; have hfz11_0 := blk_frozen BK323.out 0; have hfz11_1 := blk_frozen BK323.out 1; have hfz11_2 := blk_frozen BK323.out 2; obtain ⟨Ao12, co12, eo12⟩ := Kd.R_slice HO318.out; subst eo12; obtain ⟨Ao13, co13, eo13⟩ := Kd.R_slice HO321.out; subst eo13) | ((with_reducible refine gate_callee (f := 16) rfl ?_); refine goesL_ (some 16) rfl rfl Try.func16 (by kernel_rfl) rfl #[.pointer (some ⟨g312, 0, none⟩), .agg #[.int .i64 t315, .slice Ao12 t316.length co12, .slice Ao13 t319.length co13]] rfl (by (try simp only [List.map_toArray, List.map_cons, List.map_nil]); first | done | rfl | (simp only [List.length_drop, List.length_take]; rfl)) ?_; (with_reducible refine (trustquorumlaw02_mixed.calls k g312 t310 t322 t315 _ _ t316 _ _ t319 t324 t325 t328 t331 w _ ?side1 ?side2 ?side3 ?side4 ?side5 ?side6 ?side7 A5.out).mono ?_); (case side1 => repeat (first | (with_reducible first | exact HI312.out | apply IsS43.alloc | apply IsS43.drewN | apply IsS43.drew | apply IsS43.set_1 | refine IsS43.far ?_ NB312_323.out _) | exact HI312.out)); (case side2 => repeat (first | (with_reducible first | exact HB.out | apply below_alloc | apply pw_below_drewN | apply below_drew1 | refine below_set ?_ (IsS43.ge HI312.out) | refine below_set ?_ GE323.out) | exact HB.out)); (case side3 => refine (Kd.R_reads' (e := 3) (base := w.heap.size) (ok := fun k_ => True) (n := t316.length) (c := co12) ?_).2.2; exact (by (with_reducible repeat (first | apply Kd.R_alloc | apply Kd.R_drewN | apply Kd.R_drew)); exact (Kd.R_mono (Kd.R_far (p := ⟨gb323, 2, none⟩) (Kd.R_far (p := ⟨gb323, 1, none⟩) (Kd.R_far (p := ⟨gb323, 0, none⟩) (Kd.R_types HO318.out BK323.out (by decide)) (fun _ hk => hk.2) (.int .i64 t315)) (fun _ hk => hk.2) (.slice Ao12 t316.length co12)) (fun _ hk => hk.2) (.slice Ao13 t319.length co13)) (fun _ h_ => h_.1)))); (case side4 => exact (Kd.R_reads' HO318.out).2.1); (case side5 => exact far_slice (IsS43.own_ne HI312.out HO318.out (by decide))); (case side6 => exact Kd.C_foot_own (IsS43.apart (show IsS43 w _ g312 t310 t322 from by repeat (first | (with_reducible first | exact HI312.out | apply IsS43.alloc | apply IsS43.drewN | apply IsS43.drew | apply IsS43.set_1 | refine IsS43.far ?_ NB312_323.out _) | exact HI312.out)) (by (with_reducible repeat (first | apply Kd.R_alloc | apply Kd.R_drewN | apply Kd.R_drew)); exact (Kd.R_mono (Kd.R_far (p := ⟨gb323, 2, none⟩) (Kd.R_far (p := ⟨gb323, 1, none⟩) (Kd.R_far (p := ⟨gb323, 0, none⟩) (Kd.R_mono HO321.out (fun k_ hk => (⟨hk, hk.2⟩ : _ ∧ k_ ≠ gb323))) (fun _ hk => hk.2) (.int .i64 t315)) (fun _ hk => hk.2) (.slice Ao12 t316.length co12)) (fun _ hk => hk.2) (.slice Ao13 t319.length co13)) (fun _ h_ => h_.1))) (by decide)) (fun _ h_ => h_.2)); (case side7 => exact (Kd.R_reads' HO321.out).2.1); rintro e w14 ⟨v326, v329, rfl, ho0, ho1, hi, hb, hk⟩; refine ⟨_, rfl, ?_⟩; have n0_ := Aside0.mk (Kd.R_mono (Kd.R_told (Kd.R_oldK (IsS43.apart (show IsS43 w _ g312 t310 t322 from by repeat (first | (with_reducible first | exact HI312.out | apply IsS43.alloc | apply IsS43.drewN | apply IsS43.drew | apply IsS43.set_1 | refine IsS43.far ?_ NB312_323.out _) | exact HI312.out)) (by (with_reducible repeat (first | apply Kd.R_alloc | apply Kd.R_drewN | apply Kd.R_drew)); exact (Kd.R_mono (Kd.R_far (p := ⟨gb323, 2, none⟩) (Kd.R_far (p := ⟨gb323, 1, none⟩) (Kd.R_far (p := ⟨gb323, 0, none⟩) (Kd.R_types HO318.out BK323.out (by decide)) (fun _ hk => hk.2) (.int .i64 t315)) (fun _ hk => hk.2) (.slice Ao12 t316.length co12)) (fun _ hk => hk.2) (.slice Ao13 t319.length co13)) (fun _ h_ => h_.1))) (by decide)) hk) (Kd.R_base ho0)) (fun _ h_ => h_.1)); have n1_ := Aside0.mk (Kd.R_mono (Kd.R_told (Kd.R_told (Kd.R_oldK (IsS43.apart (show IsS43 w _ g312 t310 t322 from by repeat (first | (with_reducible first | exact HI312.out | apply IsS43.alloc | apply IsS43.drewN | apply IsS43.drew | apply IsS43.set_1 | refine IsS43.far ?_ NB312_323.out _) | exact HI312.out)) (by (with_reducible repeat (first | apply Kd.R_alloc | apply Kd.R_drewN | apply Kd.R_drew)); exact (Kd.R_mono (Kd.R_far (p := ⟨gb323, 2, none⟩) (Kd.R_far (p := ⟨gb323, 1, none⟩) (Kd.R_far (p := ⟨gb323, 0, none⟩) (Kd.R_mono HO321.out (fun k_ hk => (⟨hk, hk.2⟩ : _ ∧ k_ ≠ gb323))) (fun _ hk => hk.2) (.int .i64 t315)) (fun _ hk => hk.2) (.slice Ao12 t316.length co12)) (fun _ hk => hk.2) (.slice Ao13 t319.length co13)) (fun _ h_ => h_.1))) (by decide)) hk) (Kd.R_base ho0)) (Kd.R_base ho1)) (fun _ h_ => h_.1)); have n2_ := Aside0.mk (KeepBut.blk hk (g' := gb323) (o := .cells #[.int .i64 t315, .slice Ao12 t316.length co12, .slice Ao13 t319.length co13] 27 (0, 0)) (by (with_reducible repeat (first | refine blk_drewN ?_ _ | refine blk_drew ?_ | refine blk_alloc ?_ _)); refine blk_put (cs := #[.int .i64 t315, .slice Ao12 t316.length co12, .slice none 0 0]) ?_ 2 _ rfl; (with_reducible repeat (first | refine blk_drewN ?_ _ | refine blk_drew ?_ | refine blk_alloc ?_ _)); refine blk_put (cs := #[.int .i64 t315, .slice none 0 0, .slice none 0 0]) ?_ 1 _ rfl; (with_reducible repeat (first | refine blk_drewN ?_ _ | refine blk_drew ?_ | refine blk_alloc ?_ _)); refine blk_put (cs := #[.int .i64 0, .slice none 0 0, .slice none 0 0]) ?_ 0 _ rfl; (with_reducible repeat (first | refine blk_drewN ?_ _ | refine blk_drew ?_ | refine blk_alloc ?_ _)); exact BK323.out) NB323_312.out (by simp)); have n3_ := Aside0.mk (Kd.R_lower (Kd.R_new' ho0 (Kd.R_lt (by (with_reducible repeat (first | apply Kd.R_alloc | apply Kd.R_drewN | apply Kd.R_drew)); exact (Kd.R_mono (Kd.R_far (p := ⟨gb323, 2, none⟩) (Kd.R_far (p := ⟨gb323, 1, none⟩) (Kd.R_far (p := ⟨gb323, 0, none⟩) (Kd.R_types HO318.out BK323.out (by decide)) (fun _ hk => hk.2) (.int .i64 t315)) (fun _ hk => hk.2) (.slice Ao12 t316.length co12)) (fun _ hk => hk.2) (.slice Ao13 t319.length co13)) (fun _ h_ => h_.1))))) (below_size (by repeat (first | (with_reducible first | exact HB.out | apply below_alloc | apply pw_below_drewN | apply below_drew1 | refine below_set ?_ (IsS43.ge HI312.out) | refine below_set ?_ GE323.out) | exact HB.out)))); have n4_ := Aside0.mk (Kd.R_lower (Kd.R_newB (Kd.R_new' (Kd.R_new' ho1 (Kd.R_lt (by (with_reducible repeat (first | apply Kd.R_alloc | apply Kd.R_drewN | apply Kd.R_drew)); exact (Kd.R_mono (Kd.R_far (p := ⟨gb323, 2, none⟩) (Kd.R_far (p := ⟨gb323, 1, none⟩) (Kd.R_far (p := ⟨gb323, 0, none⟩) (Kd.R_types HO318.out BK323.out (by decide)) (fun _ hk => hk.2) (.int .i64 t315)) (fun _ hk => hk.2) (.slice Ao12 t316.length co12)) (fun _ hk => hk.2) (.slice Ao13 t319.length co13)) (fun _ h_ => h_.1))))) (Kd.R_lt (by (with_reducible repeat (first | apply Kd.R_alloc | apply Kd.R_drewN | apply Kd.R_drew)); exact (Kd.R_mono (Kd.R_far (p := ⟨gb323, 2, none⟩) (Kd.R_far (p := ⟨gb323, 1, none⟩) (Kd.R_far (p := ⟨gb323, 0, none⟩) (Kd.R_mono HO321.out (fun k_ hk => (⟨hk, hk.2⟩ : _ ∧ k_ ≠ gb323))) (fun _ hk => hk.2) (.int .i64 t315)) (fun _ hk => hk.2) (.slice Ao12 t316.length co12)) (fun _ hk => hk.2) (.slice Ao13 t319.length co13)) (fun _ h_ => h_.1))))) (g := gb323) (o := .cells #[.int .i64 t315, .slice Ao12 t316.length co12, .slice Ao13 t319.length co13] 27 (0, 0)) (by (with_reducible repeat (first | refine blk_drewN ?_ _ | refine blk_drew ?_ | refine blk_alloc ?_ _)); refine blk_put (cs := #[.int .i64 t315, .slice Ao12 t316.length co12, .slice none 0 0]) ?_ 2 _ rfl; (with_reducible repeat (first | refine blk_drewN ?_ _ | refine blk_drew ?_ | refine blk_alloc ?_ _)); refine blk_put (cs := #[.int .i64 t315, .slice none 0 0, .slice none 0 0]) ?_ 1 _ rfl; (with_reducible repeat (first | refine blk_drewN ?_ _ | refine blk_drew ?_ | refine blk_alloc ?_ _)); refine blk_put (cs := #[.int .i64 0, .slice none 0 0, .slice none 0 0]) ?_ 0 _ rfl; (with_reducible repeat (first | refine blk_drewN ?_ _ | refine blk_drew ?_ | refine blk_alloc ?_ _)); exact BK323.out)) (below_size (by repeat (first | (with_reducible first | exact HB.out | apply below_alloc | apply pw_below_drewN | apply below_drew1 | refine below_set ?_ (IsS43.ge HI312.out) | refine below_set ?_ GE323.out) | exact HB.out)))); have n5_ := Aside0.mk (hb); have n6_ := Aside0.mk (hi); clear HO318; clear HO321; clear BK323; clear HB; clear HI312; have HO318 := n0_; have HO321 := n1_; have BK323 := n2_; have HO327 := n3_; have HO330 := n4_; have HB := n5_; have HI312 := n6_; clear n0_ n1_ n2_ n3_ n4_ n5_ n6_; (try clear hb); (try clear hb2); (try clear hk); (try clear hi); (try clear ho0); (try clear ho1)) | ((with_reducible refine gate_dst (N := 5) rfl ?_); refine box_event ?hg (N := 5) ?hd (cs := #[.int .i64 0, .slice none 0 0, .slice none 0 0]) (t := 27) ?hr ?_; (case hd => rfl); (case hg => rfl); (case hr => first | (go_simp; done) | (go_simp; rfl)); intro gb332 hg w15 hbox hb; have n0_ := Aside0.mk (Kd.R_below (by (with_reducible repeat (first | apply Kd.R_alloc | apply Kd.R_drewN | apply Kd.R_drew)); exact HO318.out) hb); have n1_ := Aside0.mk (Kd.R_below (Kd.R_elderB (by (with_reducible repeat (first | apply Kd.R_alloc | apply Kd.R_drewN | apply Kd.R_drew)); exact HO321.out) gb332 (Nat.le_of_eq hg.symm)) hb); have n2_ := Aside0.mk (Kd.R_below (by (with_reducible repeat (first | apply Kd.R_alloc | apply Kd.R_drewN | apply Kd.R_drew)); exact HO327.out) hb); have n3_ := Aside0.mk (Kd.R_below (Kd.R_elderB (by (with_reducible repeat (first | apply Kd.R_alloc | apply Kd.R_drewN | apply Kd.R_drew)); exact HO330.out) gb332 (Nat.le_of_eq hg.symm)) hb); have n4_ := Aside0.mk (IsS43.below (by repeat (first | (with_reducible first | exact HI312.out | apply IsS43.alloc | apply IsS43.drewN | apply IsS43.drew | apply IsS43.set_1 | refine IsS43.far ?_ NB312_323.out _) | exact HI312.out)) hb); have n5_ := Aside0.mk (blk_below (g := gb323) (o := .cells #[.int .i64 t315, .slice Ao12 t316.length co12, .slice Ao13 t319.length co13] 27 (0, 0)) (by (with_reducible repeat (first | refine blk_drewN ?_ _ | refine blk_drew ?_ | refine blk_alloc ?_ _)); exact BK323.out) hb); have n6_ := Aside0.mk (below_step (by repeat (first | (with_reducible first | exact HB.out | apply below_alloc | apply pw_below_drewN | apply below_drew1 | refine below_set ?_ (IsS43.ge HI312.out) | refine below_set ?_ GE323.out) | exact HB.out)) hb); have n7_ := Aside0.mk (hbox); have n8_ := Aside0.mk ((by rw [hg]; exact (below_size (by repeat (first | (with_reducible first | exact HB.out | apply below_alloc | apply pw_below_drewN | apply below_drew1 | refine below_set ?_ (IsS43.ge HI312.out) | refine below_set ?_ GE323.out) | exact HB.out))) : w.heap.size ≤ gb332)); have n9_ := Aside0.mk ((by rw [hg]; exact (below_size (by repeat (first | (with_reducible first | exact HB.out | apply below_alloc | apply pw_below_drewN | apply below_drew1 | refine below_set ?_ (IsS43.ge HI312.out) | refine below_set ?_ GE323.out) | exact HB.out))) : w.heap.size ≤ gb332)); have n10_ := Aside0.mk ((by rw [hg]; exact Nat.ne_of_lt (blk_lt (g := gb323) (o := .cells #[.int .i64 t315, .slice Ao12 t316.length co12, .slice Ao13 t319.length co13] 27 (0, 0)) (by (with_reducible repeat (first | refine blk_drewN ?_ _ | refine blk_drew ?_ | refine blk_alloc ?_ _)); exact BK323.out)) : gb323 ≠ gb332)); have n11_ := Aside0.mk ((by rw [hg]; exact Nat.ne_of_gt (blk_lt (g := gb323) (o := .cells #[.int .i64 t315, .slice Ao12 t316.length co12, .slice Ao13 t319.length co13] 27 (0, 0)) (by (with_reducible repeat (first | refine blk_drewN ?_ _ | refine blk_drew ?_ | refine blk_alloc ?_ _)); exact BK323.out)) : gb332 ≠ gb323)); have n12_ := Aside0.mk ((by rw [hg]; exact Nat.ne_of_lt (IsS43.lt (show IsS43 w _ g312 t310 t331 from by repeat (first | (with_reducible first | exact HI312.out | apply IsS43.alloc | apply IsS43.drewN | apply IsS43.drew | apply IsS43.set_1 | refine IsS43.far ?_ NB312_323.out _) | exact HI312.out))) : g312 ≠ gb332)); have n13_ := Aside0.mk ((by rw [hg]; exact Nat.ne_of_gt (IsS43.lt (show IsS43 w _ g312 t310 t331 from by repeat (first | (with_reducible first | exact HI312.out | apply IsS43.alloc | apply IsS43.drewN | apply IsS43.drew | apply IsS43.set_1 | refine IsS43.far ?_ NB312_323.out _) | exact HI312.out))) : gb332 ≠ g312)); clear HO318; clear HO321; clear HO327; clear HO330; clear HI312; clear BK323; clear HB; have HO318 := n0_; have HO321 := n1_; have HO327 := n2_; have HO330 := n3_; have HI312 := n4_; have BK323 := n5_; have HB := n6_; have BK332 := n7_; have GW332 := n8_; have GE332 := n9_; have NB323_332 := n10_; have NB332_323 := n11_; have NB312_332 := n12_; have NB332_312 := n13_; clear n0_ n1_ n2_ n3_ n4_ n5_ n6_ n7_ n8_ n9_ n10_ n11_ n12_ n13_; clear hb hbox hg; have hnb16 := NB332_323.out; have hnc16 := NB323_332.out; have hnb17 := NB332_312.out; have hnc17 := NB312_332.out; have hcz18_0 : w15.cell? ⟨gb332, 0, none⟩ = some (.int .i64 0) := (blk_cell BK332.out 0).trans rfl; have hcz18_1 : w15.cell? ⟨gb332, 1, none⟩ = some (.slice none 0 0) := (blk_cell BK332.out 1).trans rfl; have hcz18_2 : w15.cell? ⟨gb332, 2, none⟩ = some (.slice none 0 0) := (blk_cell BK332.out 2).trans rfl; have hfz18_0 := blk_frozen BK332.out 0; have hfz18_1 := blk_frozen BK332.out 1; have hfz18_2 := blk_frozen BK332.out 2; obtain ⟨Ao19, co19, eo19⟩ := Kd.R_slice HO327.out; subst eo19; obtain ⟨Ao20, co20, eo20⟩ := Kd.R_slice HO330.out; subst eo20))
  go_loopg [6] k (fun kq v6 w' => ∃ (x6_1 : Int) (x313001_1 : Int), v6 = .int .i64 x6_1 ∧ Aside0 (trustquorumlaw02_ThresholdOrder.l0 kq x6_1 t310 x313001_1 t315 t316 t319 t324 t325 t328 = some r) ∧ Aside0 (kq ≤ k) ∧ Aside0 (Kd.R (Kd.int .i64) 3 w' w.heap.size (fun k_ => some k_ ≠ ((.slice Ao19 t325.length co19) : Value).ownBlock) (.slice Ao12 t316.length co12) t316) ∧ Aside0 (Kd.R k27 27 w' w.heap.size (fun k_ => some k_ ≠ ((.slice Ao12 t316.length co12) : Value).ownBlock ∧ some k_ ≠ ((.slice Ao19 t325.length co19) : Value).ownBlock ∧ some k_ ≠ ((.slice Ao20 t328.length co20) : Value).ownBlock ∧ k_ ≠ gb323 ∧ k_ ≠ gb332) (.slice Ao13 t319.length co13) t319) ∧ Aside0 (Kd.R (Kd.int .i64) 3 w' w.heap.size (fun k_ => some k_ ≠ ((.slice Ao12 t316.length co12) : Value).ownBlock) (.slice Ao19 t325.length co19) t325) ∧ Aside0 (Kd.R k27 27 w' w.heap.size (fun k_ => some k_ ≠ ((.slice Ao12 t316.length co12) : Value).ownBlock ∧ some k_ ≠ ((.slice Ao13 t319.length co13) : Value).ownBlock ∧ some k_ ≠ ((.slice Ao19 t325.length co19) : Value).ownBlock ∧ k_ ≠ gb323 ∧ k_ ≠ gb332) (.slice Ao20 t328.length co20) t328) ∧ Aside0 (w'.heap[gb323]? = some (.cells #[.int .i64 t315, (.slice Ao12 t316.length co12), (.slice Ao13 t319.length co13)] 27 (0, 0))) ∧ Aside0 (w'.heap[gb332]? = some (.cells #[.int .i64 t324, (.slice Ao19 t325.length co19), (.slice Ao20 t328.length co20)] 27 (0, 0))) ∧ Aside0 (IsS43 w w' g312 t310 x313001_1) ∧ Aside0 (Below w.heap.size w w'))
  case atStart => exact ⟨(0), (t331), (by first | rfl | (simp; done) | (simp [*]; done) | (refine congrArg (Value.int .i64) ?_; unfold wrap64; omega)), H', ⟨Nat.le_refl _⟩, ⟨by (with_reducible repeat (first | apply Kd.R_alloc | apply Kd.R_drewN | apply Kd.R_drew)); exact Kd.R_mono (Kd.R_far (p := ⟨gb332, 2, none⟩) (Kd.R_far (p := ⟨gb332, 1, none⟩) (Kd.R_far (p := ⟨gb332, 0, none⟩) (Kd.R_types HO318.out BK332.out (by decide)) (fun _ hk => hk.2) (.int .i64 t324)) (fun _ hk => hk.2) (.slice Ao19 t325.length co19)) (fun _ hk => hk.2) (.slice Ao20 t328.length co20)) (fun _ hk => hk.1.2)⟩, ⟨by (with_reducible repeat (first | apply Kd.R_alloc | apply Kd.R_drewN | apply Kd.R_drew)); exact Kd.R_mono (Kd.R_far (p := ⟨gb332, 2, none⟩) (Kd.R_far (p := ⟨gb332, 1, none⟩) (Kd.R_far (p := ⟨gb332, 0, none⟩) (Kd.R_mono HO321.out (fun k_ hk => (⟨hk, hk.2⟩ : _ ∧ k_ ≠ gb332))) (fun _ hk => hk.2) (.int .i64 t324)) (fun _ hk => hk.2) (.slice Ao19 t325.length co19)) (fun _ hk => hk.2) (.slice Ao20 t328.length co20)) (fun _ hk => ⟨hk.1.1.1.1.1, ⟨hk.1.1.1.2, ⟨hk.1.1.2, ⟨hk.1.1.1.1.2, hk.1.2⟩⟩⟩⟩)⟩, ⟨by (with_reducible repeat (first | apply Kd.R_alloc | apply Kd.R_drewN | apply Kd.R_drew)); exact Kd.R_mono (Kd.R_far (p := ⟨gb332, 2, none⟩) (Kd.R_far (p := ⟨gb332, 1, none⟩) (Kd.R_far (p := ⟨gb332, 0, none⟩) (Kd.R_types HO327.out BK332.out (by decide)) (fun _ hk => hk.2) (.int .i64 t324)) (fun _ hk => hk.2) (.slice Ao19 t325.length co19)) (fun _ hk => hk.2) (.slice Ao20 t328.length co20)) (fun _ hk => hk.1.2)⟩, ⟨by (with_reducible repeat (first | apply Kd.R_alloc | apply Kd.R_drewN | apply Kd.R_drew)); exact Kd.R_mono (Kd.R_far (p := ⟨gb332, 2, none⟩) (Kd.R_far (p := ⟨gb332, 1, none⟩) (Kd.R_far (p := ⟨gb332, 0, none⟩) (Kd.R_mono HO330.out (fun k_ hk => (⟨hk, hk.2⟩ : _ ∧ k_ ≠ gb332))) (fun _ hk => hk.2) (.int .i64 t324)) (fun _ hk => hk.2) (.slice Ao19 t325.length co19)) (fun _ hk => hk.2) (.slice Ao20 t328.length co20)) (fun _ hk => ⟨hk.1.1.1.1.2, ⟨hk.1.1.1.2, ⟨hk.1.1.1.1.1, ⟨hk.1.1.2, hk.1.2⟩⟩⟩⟩)⟩, ⟨by (with_reducible repeat (first | refine blk_drewN ?_ _ | refine blk_drew ?_ | refine blk_alloc ?_ _)); refine blk_far ?_ NB323_332.out _; (with_reducible repeat (first | refine blk_drewN ?_ _ | refine blk_drew ?_ | refine blk_alloc ?_ _)); refine blk_far ?_ NB323_332.out _; (with_reducible repeat (first | refine blk_drewN ?_ _ | refine blk_drew ?_ | refine blk_alloc ?_ _)); refine blk_far ?_ NB323_332.out _; (with_reducible repeat (first | refine blk_drewN ?_ _ | refine blk_drew ?_ | refine blk_alloc ?_ _)); exact BK323.out⟩, ⟨by (with_reducible repeat (first | refine blk_drewN ?_ _ | refine blk_drew ?_ | refine blk_alloc ?_ _)); refine blk_put (cs := #[.int .i64 t324, .slice Ao19 t325.length co19, .slice none 0 0]) ?_ 2 _ rfl; (with_reducible repeat (first | refine blk_drewN ?_ _ | refine blk_drew ?_ | refine blk_alloc ?_ _)); refine blk_put (cs := #[.int .i64 t324, .slice none 0 0, .slice none 0 0]) ?_ 1 _ rfl; (with_reducible repeat (first | refine blk_drewN ?_ _ | refine blk_drew ?_ | refine blk_alloc ?_ _)); refine blk_put (cs := #[.int .i64 0, .slice none 0 0, .slice none 0 0]) ?_ 0 _ rfl; (with_reducible repeat (first | refine blk_drewN ?_ _ | refine blk_drew ?_ | refine blk_alloc ?_ _)); exact BK332.out⟩, ⟨by repeat (first | (with_reducible first | exact HI312.out | apply IsS43.alloc | apply IsS43.drewN | apply IsS43.drew | apply IsS43.set_1 | refine IsS43.far ?_ NB312_323.out _ | refine IsS43.far ?_ NB312_332.out _) | exact HI312.out)⟩, ⟨by repeat (first | (with_reducible first | exact HB.out | apply below_alloc | apply pw_below_drewN | apply below_drew1 | refine below_set ?_ (IsS43.ge HI312.out) | refine below_set ?_ GE323.out | refine below_set ?_ GE332.out) | exact HB.out)⟩⟩
  case round =>
    clear H'
    try clear c1
    try clear p2
    try clear c5
    try clear p6
    try clear c8
    try clear c9
    try clear c10
    try clear c16
    try clear c17
    try clear hcz11_0
    try clear hcz11_1
    try clear hcz11_2
    try clear hcz18_0
    try clear hcz18_1
    try clear hcz18_2
    try clear hfz11_0
    try clear hfz11_1
    try clear hfz11_2
    try clear hfz18_0
    try clear hfz18_1
    try clear hfz18_2
    obtain ⟨x6_1, x313001_1, rfl, HA, HK1, HO_324001, HO_324002, HO_333001, HO_333002, BK323, BK332, HI312, HB⟩ := hrel
    cases gk with
    | zero => exact absurd HA.out (by simp [trustquorumlaw02_ThresholdOrder.l0])
    | succ k1 =>
      have H := HA.out
      clear HA
      simp only [trustquorumlaw02_ThresholdOrder.l0] at H
      by_cases c21 : x6_1 < 10
      · rw [if_pos c21] at H
        have c21b0 : decide (x6_1 < 10) = true := decide_eq_true c21
        clear c21
        replace H := Option.bind_eq_some_iff.mp H
        obtain ⟨⟨t333, t334⟩, A220, H⟩ := H
        replace H : ((threshold_Satisfied.f k1 t315 t316 t319 t333).bind fun t335 => ((threshold_Satisfied.f k1 t324 t325 t328 t333).bind fun t336 => (if (t335 != t336) = true then (some false) else ((threshold_Blocked.f k1 t315 t316 t319 t333).bind fun t337 => ((threshold_Blocked.f k1 t324 t325 t328 t333).bind fun t338 => (if (t337 != t338) = true then (some false) else (trustquorumlaw02_ThresholdOrder.l0 k1 (wrap64 (x6_1 + 1)) t310 t334 t315 t316 t319 t324 t325 t328))))))) = some r := H
        have A22 := Aside0.mk A220
        clear A220
        replace H := Option.bind_eq_some_iff.mp H
        obtain ⟨t335, A230, H⟩ := H
        replace H : ((threshold_Satisfied.f k1 t324 t325 t328 t333).bind fun t336 => (if (t335 != t336) = true then (some false) else ((threshold_Blocked.f k1 t315 t316 t319 t333).bind fun t337 => ((threshold_Blocked.f k1 t324 t325 t328 t333).bind fun t338 => (if (t337 != t338) = true then (some false) else (trustquorumlaw02_ThresholdOrder.l0 k1 (wrap64 (x6_1 + 1)) t310 t334 t315 t316 t319 t324 t325 t328)))))) = some r := H
        have A23 := Aside0.mk A230
        clear A230
        replace H := Option.bind_eq_some_iff.mp H
        obtain ⟨t336, A240, H⟩ := H
        replace H : (if (t335 != t336) = true then (some false) else ((threshold_Blocked.f k1 t315 t316 t319 t333).bind fun t337 => ((threshold_Blocked.f k1 t324 t325 t328 t333).bind fun t338 => (if (t337 != t338) = true then (some false) else (trustquorumlaw02_ThresholdOrder.l0 k1 (wrap64 (x6_1 + 1)) t310 t334 t315 t316 t319 t324 t325 t328))))) = some r := H
        have A24 := Aside0.mk A240
        clear A240
        by_cases c25 : (t335 != t336) = true
        · rw [if_pos c25] at H
          have c25b0 : (t335 != t336) = true := c25
          (try (have c25b1 : decide (t335 = t336) = false := by simpa using c25))
          (try (have c25b2 : (t335 == t336) = false := by simpa using c25))
          (try (have c25b3 : ¬ (t335 = t336) := by simpa using c25))
          clear c25
          exact absurd ((Option.some.inj H).trans HRT.out) (by decide)
        · rw [if_neg c25] at H
          have c25b0 : (t335 != t336) = false := by simpa using c25
          (try (have c25b1 : decide (t335 = t336) = true := by simpa using c25))
          (try (have c25b2 : (t335 == t336) = true := by simpa using c25))
          clear c25
          replace H := Option.bind_eq_some_iff.mp H
          obtain ⟨t337, A260, H⟩ := H
          replace H : ((threshold_Blocked.f k1 t324 t325 t328 t333).bind fun t338 => (if (t337 != t338) = true then (some false) else (trustquorumlaw02_ThresholdOrder.l0 k1 (wrap64 (x6_1 + 1)) t310 t334 t315 t316 t319 t324 t325 t328))) = some r := H
          have A26 := Aside0.mk A260
          clear A260
          replace H := Option.bind_eq_some_iff.mp H
          obtain ⟨t338, A270, H⟩ := H
          replace H : (if (t337 != t338) = true then (some false) else (trustquorumlaw02_ThresholdOrder.l0 k1 (wrap64 (x6_1 + 1)) t310 t334 t315 t316 t319 t324 t325 t328)) = some r := H
          have A27 := Aside0.mk A270
          clear A270
          by_cases c28 : (t337 != t338) = true
          · rw [if_pos c28] at H
            have c28b0 : (t337 != t338) = true := c28
            (try (have c28b1 : decide (t337 = t338) = false := by simpa using c28))
            (try (have c28b2 : (t337 == t338) = false := by simpa using c28))
            (try (have c28b3 : ¬ (t337 = t338) := by simpa using c28))
            clear c28
            exact absurd ((Option.some.inj H).trans HRT.out) (by decide)
          · rw [if_neg c28] at H
            have c28b0 : (t337 != t338) = false := by simpa using c28
            (try (have c28b1 : decide (t337 = t338) = true := by simpa using c28))
            (try (have c28b2 : (t337 == t338) = true := by simpa using c28))
            clear c28
            have H' := Aside0.mk H
            clear H
            try go_wp2_with (first | ((with_reducible refine gate_callee (f := 13) rfl ?_); refine goesL_ (some 22) rfl rfl Try.func13 (by kernel_rfl) rfl #[.pointer (some ⟨g312, 0, none⟩), .int .i64 1024] rfl (by (try simp only [List.map_toArray, List.map_cons, List.map_nil]); first | done | rfl | (simp only [List.length_drop, List.length_take]; rfl)) ?_; (with_reducible refine (trustquorummake_Tape_N.calls g312 t310 x313001_1 1024 t333 t334 w _ ?side1 ?side2 A22.out).mono ?_); (case side1 => repeat (first | (with_reducible first | exact HI312.out | apply IsS43.alloc | apply IsS43.drewN | apply IsS43.drew | apply IsS43.set_1 | refine IsS43.far ?_ NB312_323.out _ | refine IsS43.far ?_ NB312_332.out _) | exact HI312.out)); (case side2 => repeat (first | (with_reducible first | exact HB.out | apply below_alloc | apply pw_below_drewN | apply below_drew1 | refine below_set ?_ (IsS43.ge HI312.out) | refine below_set ?_ GE323.out | refine below_set ?_ GE332.out) | exact HB.out)); rintro e w29 ⟨rfl, hi, hb, hk⟩; refine ⟨_, rfl, ?_⟩; have n0_ := Aside0.mk (Kd.R_mono (Kd.R_keep (IsS43.apart (show IsS43 w _ g312 t310 x313001_1 from by repeat (first | (with_reducible first | exact HI312.out | apply IsS43.alloc | apply IsS43.drewN | apply IsS43.drew | apply IsS43.set_1 | refine IsS43.far ?_ NB312_323.out _ | refine IsS43.far ?_ NB312_332.out _) | exact HI312.out)) (by (with_reducible repeat (first | apply Kd.R_alloc | apply Kd.R_drewN | apply Kd.R_drew)); exact HO_324001.out) (by decide)) hk (fun _ h => h.2)) (fun _ h => h.1)); have n1_ := Aside0.mk (Kd.R_mono (Kd.R_keep (IsS43.apart (show IsS43 w _ g312 t310 x313001_1 from by repeat (first | (with_reducible first | exact HI312.out | apply IsS43.alloc | apply IsS43.drewN | apply IsS43.drew | apply IsS43.set_1 | refine IsS43.far ?_ NB312_323.out _ | refine IsS43.far ?_ NB312_332.out _) | exact HI312.out)) (by (with_reducible repeat (first | apply Kd.R_alloc | apply Kd.R_drewN | apply Kd.R_drew)); exact HO_324002.out) (by decide)) hk (fun _ h => h.2)) (fun _ h => h.1)); have n2_ := Aside0.mk (Kd.R_mono (Kd.R_keep (IsS43.apart (show IsS43 w _ g312 t310 x313001_1 from by repeat (first | (with_reducible first | exact HI312.out | apply IsS43.alloc | apply IsS43.drewN | apply IsS43.drew | apply IsS43.set_1 | refine IsS43.far ?_ NB312_323.out _ | refine IsS43.far ?_ NB312_332.out _) | exact HI312.out)) (by (with_reducible repeat (first | apply Kd.R_alloc | apply Kd.R_drewN | apply Kd.R_drew)); exact HO_333001.out) (by decide)) hk (fun _ h => h.2)) (fun _ h => h.1)); have n3_ := Aside0.mk (Kd.R_mono (Kd.R_keep (IsS43.apart (show IsS43 w _ g312 t310 x313001_1 from by repeat (first | (with_reducible first | exact HI312.out | apply IsS43.alloc | apply IsS43.drewN | apply IsS43.drew | apply IsS43.set_1 | refine IsS43.far ?_ NB312_323.out _ | refine IsS43.far ?_ NB312_332.out _) | exact HI312.out)) (by (with_reducible repeat (first | apply Kd.R_alloc | apply Kd.R_drewN | apply Kd.R_drew)); exact HO_333002.out) (by decide)) hk (fun _ h => h.2)) (fun _ h => h.1)); have n4_ := Aside0.mk (KeepBut.blk hk (g' := gb323) (o := .cells #[.int .i64 t315, .slice Ao12 t316.length co12, .slice Ao13 t319.length co13] 27 (0, 0)) (by (with_reducible repeat (first | refine blk_drewN ?_ _ | refine blk_drew ?_ | refine blk_alloc ?_ _)); exact BK323.out) NB323_312.out (by simp)); have n5_ := Aside0.mk (KeepBut.blk hk (g' := gb332) (o := .cells #[.int .i64 t324, .slice Ao19 t325.length co19, .slice Ao20 t328.length co20] 27 (0, 0)) (by (with_reducible repeat (first | refine blk_drewN ?_ _ | refine blk_drew ?_ | refine blk_alloc ?_ _)); exact BK332.out) NB332_312.out (by simp)); have n6_ := Aside0.mk (hb); have n7_ := Aside0.mk (hi); clear HO_324001; clear HO_324002; clear HO_333001; clear HO_333002; clear BK323; clear BK332; clear HB; clear HI312; have HO_324001 := n0_; have HO_324002 := n1_; have HO_333001 := n2_; have HO_333002 := n3_; have BK323 := n4_; have BK332 := n5_; have HB := n6_; have HI312 := n7_; clear n0_ n1_ n2_ n3_ n4_ n5_ n6_ n7_; (try clear hb); (try clear hb2); (try clear hk); (try clear hi)))
            have n0_ := Aside0.mk (Kd.R_drew HO_324001.out)
            have n1_ := Aside0.mk (Kd.R_drew HO_324002.out)
            have n2_ := Aside0.mk (Kd.R_drew HO_333001.out)
            have n3_ := Aside0.mk (Kd.R_drew HO_333002.out)
            have n4_ := Aside0.mk (blk_drew BK323.out)
            have n5_ := Aside0.mk (blk_drew BK332.out)
            have n6_ := Aside0.mk (IsS43.drew HI312.out)
            have n7_ := Aside0.mk (below_drew1 HB.out)
            clear HO_324001
            clear HO_324002
            clear HO_333001
            clear HO_333002
            clear BK323
            clear BK332
            clear HI312
            clear HB
            have HO_324001 := n0_
            have HO_324002 := n1_
            have HO_333001 := n2_
            have HO_333002 := n3_
            have BK323 := n4_
            have BK332 := n5_
            have HI312 := n6_
            have HB := n7_
            clear n0_ n1_ n2_ n3_ n4_ n5_ n6_ n7_
            refine start_ (n := 16) (S := fun w' => w'.cell? ⟨gb323, 0, none⟩ = some (.int .i64 t315) ∧ w'.cell? ⟨gb323, 1, none⟩ = some (.slice Ao12 t316.length co12) ∧ w'.cell? ⟨gb323, 2, none⟩ = some (.slice Ao13 t319.length co13) ∧ w'.cell? ⟨gb332, 0, none⟩ = some (.int .i64 t324) ∧ w'.cell? ⟨gb332, 1, none⟩ = some (.slice Ao19 t325.length co19) ∧ w'.cell? ⟨gb332, 2, none⟩ = some (.slice Ao20 t328.length co20)) (ds := []) #[false, false, false, false, false, false, false, false, false, false, false, false, false, false, false, false] (by kernel_rfl) rfl rfl ⟨(blk_cell BK323.out 0).trans rfl, (blk_cell BK323.out 1).trans rfl, (blk_cell BK323.out 2).trans rfl, (blk_cell BK332.out 0).trans rfl, (blk_cell BK332.out 1).trans rfl, (blk_cell BK332.out 2).trans rfl⟩ (fun hHeld => ?_); refine with_tabW trustquorumlaw02_ThresholdOrder.tab8 trustquorumlaw02_ThresholdOrder.bits8 (fun HT_ HW_ => ?_)
            generalize w29.drew = w30 at HO_324001 HO_324002 HO_333001 HO_333002 BK323 BK332 HI312 HB hHeld ⊢
            refine pure_ (i := 1) (N := some 24) (v := ?_) (a' := ?_) #[false, true, false, false, false, false, false, false, false, false, false, false, false, false, false, false] rfl rfl (any_of HT_.out (by kernel_rfl)) (fun _ _ _ h => h) (Or.inl ⟨by rfl, ?_⟩) ?_ ?_
            rotate_left
            · intro w'
              go_simp
              with_reducible rfl
            rotate_left
            · simp only [Act.put, List.setIfInBounds_toArray, List.set_cons_zero, List.set_cons_succ, i64_w, i32_w]
              rfl
            refine pure_ (i := 4) (N := some 27) (v := ?_) (a' := ?_) #[false, true, false, false, true, false, false, false, false, false, false, false, false, false, false, false] rfl rfl (any_of HT_.out (by kernel_rfl)) (fun _ _ _ h => h) (Or.inl ⟨by rfl, ?_⟩) ?_ ?_
            rotate_left
            · intro w'
              go_simp
              with_reducible rfl
            rotate_left
            · simp only [Act.put, List.setIfInBounds_toArray, List.set_cons_zero, List.set_cons_succ, i64_w, i32_w]
              rfl
            refine take_ (i := 0) (N := some 23) (v := ?_) (a' := ?_) #[true, true, false, false, true, false, false, false, false, false, false, false, false, false, false, false] rfl rfl (take_ofW HT_.out HW_.out (by kernel_rfl)) (fun _ _ _ h => h) (Or.inl ⟨by rfl, ?_⟩) hHeld ?_ ?_
            rotate_left
            · rintro w' ⟨s0, s1, s2, s3, s4, s5⟩
              go_simp
              with_reducible rfl
            rotate_left
            · simp only [Act.put, List.setIfInBounds_toArray, List.set_cons_zero, List.set_cons_succ, i64_w, i32_w]
              rfl
            refine take_ (i := 3) (N := some 26) (v := ?_) (a' := ?_) #[true, true, false, true, true, false, false, false, false, false, false, false, false, false, false, false] rfl rfl (take_ofW HT_.out HW_.out (by kernel_rfl)) (fun _ _ _ h => h) (Or.inl ⟨by rfl, ?_⟩) hHeld ?_ ?_
            rotate_left
            · rintro w' ⟨s0, s1, s2, s3, s4, s5⟩
              go_simp
              with_reducible rfl
            rotate_left
            · simp only [Act.put, List.setIfInBounds_toArray, List.set_cons_zero, List.set_cons_succ, i64_w, i32_w]
              rfl
            refine one_ (i := 2) (N := some 25) #[true, true, true, true, true, false, false, false, false, false, false, false, false, false, false, false] rfl rfl (one_of HT_.out (by kernel_rfl)) (by decide) (fun K hK => ?_)
            refine goes_ Try.func11 (by kernel_rfl) rfl #[.agg #[.int .i64 t315, .slice Ao12 t316.length co12, .slice Ao13 t319.length co13], .int .i64 t333] (by rfl) rfl rfl (by (try simp only [List.map_toArray, List.map_cons, List.map_nil]); first | done | rfl | (simp only [List.length_drop, List.length_take]; rfl)) ?_
            with_reducible refine (threshold_Satisfied.calls k1 t315 _ _ t316 _ _ t319 t333 t335 _ ?side1 ?side2 ?side3 ?side4 A23.out).mono ?_
            (case side1 => repeat (first | exact (Kd.R_reads' HO_324001.out).2.2 | (with_reducible refine Kd.C_alloc ?_ _) | (with_reducible refine Kd.C_drewN ?_ _) | (with_reducible refine Kd.C_drew ?_)))
            (case side2 => exact (Kd.R_reads' HO_324001.out).2.1)
            (case side3 => repeat (first | exact (Kd.R_reads' HO_324002.out).2.2 | (with_reducible refine Kd.C_alloc ?_ _) | (with_reducible refine Kd.C_drewN ?_ _) | (with_reducible refine Kd.C_drew ?_)))
            (case side4 => exact (Kd.R_reads' HO_324002.out).2.1)
            rintro e w31 ⟨rfl, hb⟩
            refine ⟨_, rfl, ?_⟩
            have n0_ := Aside0.mk (Kd.R_below (by (with_reducible repeat (first | apply Kd.R_alloc | apply Kd.R_drewN | apply Kd.R_drew)); exact HO_324001.out) hb)
            have n1_ := Aside0.mk (Kd.R_below (by (with_reducible repeat (first | apply Kd.R_alloc | apply Kd.R_drewN | apply Kd.R_drew)); exact HO_324002.out) hb)
            have n2_ := Aside0.mk (Kd.R_below (by (with_reducible repeat (first | apply Kd.R_alloc | apply Kd.R_drewN | apply Kd.R_drew)); exact HO_333001.out) hb)
            have n3_ := Aside0.mk (Kd.R_below (by (with_reducible repeat (first | apply Kd.R_alloc | apply Kd.R_drewN | apply Kd.R_drew)); exact HO_333002.out) hb)
            have n4_ := Aside0.mk (blk_below (g := gb323) (o := .cells #[.int .i64 t315, .slice Ao12 t316.length co12, .slice Ao13 t319.length co13] 27 (0, 0)) (by (with_reducible repeat (first | refine blk_drewN ?_ _ | refine blk_drew ?_ | refine blk_alloc ?_ _)); exact BK323.out) hb)
            have n5_ := Aside0.mk (blk_below (g := gb332) (o := .cells #[.int .i64 t324, .slice Ao19 t325.length co19, .slice Ao20 t328.length co20] 27 (0, 0)) (by (with_reducible repeat (first | refine blk_drewN ?_ _ | refine blk_drew ?_ | refine blk_alloc ?_ _)); exact BK332.out) hb)
            have n6_ := Aside0.mk (IsS43.below (by repeat (first | (with_reducible first | exact HI312.out | apply IsS43.alloc | apply IsS43.drewN | apply IsS43.drew | apply IsS43.set_1 | refine IsS43.far ?_ NB312_323.out _ | refine IsS43.far ?_ NB312_332.out _) | exact HI312.out)) hb)
            have n7_ := Aside0.mk (below_step (by repeat (first | (with_reducible first | exact HB.out | apply below_alloc | apply pw_below_drewN | apply below_drew1 | refine below_set ?_ (IsS43.ge HI312.out) | refine below_set ?_ GE323.out | refine below_set ?_ GE332.out) | exact HB.out)) hb)
            clear HO_324001
            clear HO_324002
            clear HO_333001
            clear HO_333002
            clear BK323
            clear BK332
            clear HI312
            clear HB
            have HO_324001 := n0_
            have HO_324002 := n1_
            have HO_333001 := n2_
            have HO_333002 := n3_
            have BK323 := n4_
            have BK332 := n5_
            have HI312 := n6_
            have HB := n7_
            clear n0_ n1_ n2_ n3_ n4_ n5_ n6_ n7_
            (try clear hb)
            (try clear hb2)
            (try clear hk)
            (try clear hi)
            refine hK.out _ _ ⟨(blk_cell BK323.out 0).trans rfl, (blk_cell BK323.out 1).trans rfl, (blk_cell BK323.out 2).trans rfl, (blk_cell BK332.out 0).trans rfl, (blk_cell BK332.out 1).trans rfl, (blk_cell BK332.out 2).trans rfl⟩ (fun hHeld => ?_)
            clear hK K
            refine norm_ (a' := ?_) ?_ ?_
            rotate_left
            · show Act.put _ (some 25) _ = _
              simp only [Act.put, List.setIfInBounds_toArray, List.set_cons_zero, List.set_cons_succ, i64_w, i32_w]
              rfl
            refine one_ (i := 5) (N := some 28) #[true, true, true, true, true, true, false, false, false, false, false, false, false, false, false, false] rfl rfl (one_of HT_.out (by kernel_rfl)) (by decide) (fun K hK => ?_)
            refine goes_ Try.func11 (by kernel_rfl) rfl #[.agg #[.int .i64 t324, .slice Ao19 t325.length co19, .slice Ao20 t328.length co20], .int .i64 t333] (by rfl) rfl rfl (by (try simp only [List.map_toArray, List.map_cons, List.map_nil]); first | done | rfl | (simp only [List.length_drop, List.length_take]; rfl)) ?_
            with_reducible refine (threshold_Satisfied.calls k1 t324 _ _ t325 _ _ t328 t333 t336 _ ?side1 ?side2 ?side3 ?side4 A24.out).mono ?_
            (case side1 => repeat (first | exact (Kd.R_reads' HO_333001.out).2.2 | (with_reducible refine Kd.C_alloc ?_ _) | (with_reducible refine Kd.C_drewN ?_ _) | (with_reducible refine Kd.C_drew ?_)))
            (case side2 => exact (Kd.R_reads' HO_333001.out).2.1)
            (case side3 => repeat (first | exact (Kd.R_reads' HO_333002.out).2.2 | (with_reducible refine Kd.C_alloc ?_ _) | (with_reducible refine Kd.C_drewN ?_ _) | (with_reducible refine Kd.C_drew ?_)))
            (case side4 => exact (Kd.R_reads' HO_333002.out).2.1)
            rintro e w32 ⟨rfl, hb⟩
            refine ⟨_, rfl, ?_⟩
            have n0_ := Aside0.mk (Kd.R_below (by (with_reducible repeat (first | apply Kd.R_alloc | apply Kd.R_drewN | apply Kd.R_drew)); exact HO_324001.out) hb)
            have n1_ := Aside0.mk (Kd.R_below (by (with_reducible repeat (first | apply Kd.R_alloc | apply Kd.R_drewN | apply Kd.R_drew)); exact HO_324002.out) hb)
            have n2_ := Aside0.mk (Kd.R_below (by (with_reducible repeat (first | apply Kd.R_alloc | apply Kd.R_drewN | apply Kd.R_drew)); exact HO_333001.out) hb)
            have n3_ := Aside0.mk (Kd.R_below (by (with_reducible repeat (first | apply Kd.R_alloc | apply Kd.R_drewN | apply Kd.R_drew)); exact HO_333002.out) hb)
            have n4_ := Aside0.mk (blk_below (g := gb323) (o := .cells #[.int .i64 t315, .slice Ao12 t316.length co12, .slice Ao13 t319.length co13] 27 (0, 0)) (by (with_reducible repeat (first | refine blk_drewN ?_ _ | refine blk_drew ?_ | refine blk_alloc ?_ _)); exact BK323.out) hb)
            have n5_ := Aside0.mk (blk_below (g := gb332) (o := .cells #[.int .i64 t324, .slice Ao19 t325.length co19, .slice Ao20 t328.length co20] 27 (0, 0)) (by (with_reducible repeat (first | refine blk_drewN ?_ _ | refine blk_drew ?_ | refine blk_alloc ?_ _)); exact BK332.out) hb)
            have n6_ := Aside0.mk (IsS43.below (by repeat (first | (with_reducible first | exact HI312.out | apply IsS43.alloc | apply IsS43.drewN | apply IsS43.drew | apply IsS43.set_1 | refine IsS43.far ?_ NB312_323.out _ | refine IsS43.far ?_ NB312_332.out _) | exact HI312.out)) hb)
            have n7_ := Aside0.mk (below_step (by repeat (first | (with_reducible first | exact HB.out | apply below_alloc | apply pw_below_drewN | apply below_drew1 | refine below_set ?_ (IsS43.ge HI312.out) | refine below_set ?_ GE323.out | refine below_set ?_ GE332.out) | exact HB.out)) hb)
            clear HO_324001
            clear HO_324002
            clear HO_333001
            clear HO_333002
            clear BK323
            clear BK332
            clear HI312
            clear HB
            have HO_324001 := n0_
            have HO_324002 := n1_
            have HO_333001 := n2_
            have HO_333002 := n3_
            have BK323 := n4_
            have BK332 := n5_
            have HI312 := n6_
            have HB := n7_
            clear n0_ n1_ n2_ n3_ n4_ n5_ n6_ n7_
            (try clear hb)
            (try clear hb2)
            (try clear hk)
            (try clear hi)
            refine hK.out _ _ ⟨(blk_cell BK323.out 0).trans rfl, (blk_cell BK323.out 1).trans rfl, (blk_cell BK323.out 2).trans rfl, (blk_cell BK332.out 0).trans rfl, (blk_cell BK332.out 1).trans rfl, (blk_cell BK332.out 2).trans rfl⟩ (fun hHeld => ?_)
            clear hK K
            refine norm_ (a' := ?_) ?_ ?_
            rotate_left
            · show Act.put _ (some 28) _ = _
              simp only [Act.put, List.setIfInBounds_toArray, List.set_cons_zero, List.set_cons_succ, i64_w, i32_w]
              rfl
            refine pure_ (i := 6) (N := some 29) (v := ?_) (a' := ?_) #[true, true, true, true, true, true, true, false, false, false, false, false, false, false, false, false] rfl rfl (any_of HT_.out (by kernel_rfl)) (fun _ _ _ h => h) (Or.inl ⟨by rfl, ?_⟩) ?_ ?_
            rotate_left
            · intro w'
              go_simp
              with_reducible rfl
            rotate_left
            · simp only [Act.put, List.setIfInBounds_toArray, List.set_cons_zero, List.set_cons_succ, i64_w, i32_w]
              rfl
            refine pure_ (i := 7) (N := some 30) (v := ?_) (a' := ?_) #[true, true, true, true, true, true, true, true, false, false, false, false, false, false, false, false] rfl rfl (any_of HT_.out (by kernel_rfl)) (fun _ _ _ h => h) (Or.inl ⟨by rfl, ?_⟩) ?_ ?_
            rotate_left
            · intro w'
              go_simp
              with_reducible rfl
            rotate_left
            · simp only [Act.put, List.setIfInBounds_toArray, List.set_cons_zero, List.set_cons_succ, i64_w, i32_w]
              rfl
            refine pure_ (i := 9) (N := some 32) (v := ?_) (a' := ?_) #[true, true, true, true, true, true, true, true, false, true, false, false, false, false, false, false] rfl rfl (any_of HT_.out (by kernel_rfl)) (fun _ _ _ h => h) (Or.inl ⟨by rfl, ?_⟩) ?_ ?_
            rotate_left
            · intro w'
              go_simp
              with_reducible rfl
            rotate_left
            · simp only [Act.put, List.setIfInBounds_toArray, List.set_cons_zero, List.set_cons_succ, i64_w, i32_w]
              rfl
            refine pure_ (i := 12) (N := some 35) (v := ?_) (a' := ?_) #[true, true, true, true, true, true, true, true, false, true, false, false, true, false, false, false] rfl rfl (any_of HT_.out (by kernel_rfl)) (fun _ _ _ h => h) (Or.inl ⟨by rfl, ?_⟩) ?_ ?_
            rotate_left
            · intro w'
              go_simp
              with_reducible rfl
            rotate_left
            · simp only [Act.put, List.setIfInBounds_toArray, List.set_cons_zero, List.set_cons_succ, i64_w, i32_w]
              rfl
            refine take_ (i := 8) (N := some 31) (v := ?_) (a' := ?_) #[true, true, true, true, true, true, true, true, true, true, false, false, true, false, false, false] rfl rfl (take_ofW HT_.out HW_.out (by kernel_rfl)) (fun _ _ _ h => h) (Or.inl ⟨by rfl, ?_⟩) hHeld ?_ ?_
            rotate_left
            · rintro w' ⟨s0, s1, s2, s3, s4, s5⟩
              go_simp
              with_reducible rfl
            rotate_left
            · simp only [Act.put, List.setIfInBounds_toArray, List.set_cons_zero, List.set_cons_succ, i64_w, i32_w]
              rfl
            refine take_ (i := 11) (N := some 34) (v := ?_) (a' := ?_) #[true, true, true, true, true, true, true, true, true, true, false, true, true, false, false, false] rfl rfl (take_ofW HT_.out HW_.out (by kernel_rfl)) (fun _ _ _ h => h) (Or.inl ⟨by rfl, ?_⟩) hHeld ?_ ?_
            rotate_left
            · rintro w' ⟨s0, s1, s2, s3, s4, s5⟩
              go_simp
              with_reducible rfl
            rotate_left
            · simp only [Act.put, List.setIfInBounds_toArray, List.set_cons_zero, List.set_cons_succ, i64_w, i32_w]
              rfl
            refine one_ (i := 10) (N := some 33) #[true, true, true, true, true, true, true, true, true, true, true, true, true, false, false, false] rfl rfl (one_of HT_.out (by kernel_rfl)) (by decide) (fun K hK => ?_)
            refine goes_ Try.func12 (by kernel_rfl) rfl #[.agg #[.int .i64 t315, .slice Ao12 t316.length co12, .slice Ao13 t319.length co13], .int .i64 t333] (by rfl) rfl rfl (by (try simp only [List.map_toArray, List.map_cons, List.map_nil]); first | done | rfl | (simp only [List.length_drop, List.length_take]; rfl)) ?_
            with_reducible refine (threshold_Blocked.calls k1 t315 _ _ t316 _ _ t319 t333 t337 _ ?side1 ?side2 ?side3 ?side4 A26.out).mono ?_
            (case side1 => repeat (first | exact (Kd.R_reads' HO_324001.out).2.2 | (with_reducible refine Kd.C_alloc ?_ _) | (with_reducible refine Kd.C_drewN ?_ _) | (with_reducible refine Kd.C_drew ?_)))
            (case side2 => exact (Kd.R_reads' HO_324001.out).2.1)
            (case side3 => repeat (first | exact (Kd.R_reads' HO_324002.out).2.2 | (with_reducible refine Kd.C_alloc ?_ _) | (with_reducible refine Kd.C_drewN ?_ _) | (with_reducible refine Kd.C_drew ?_)))
            (case side4 => exact (Kd.R_reads' HO_324002.out).2.1)
            rintro e w33 ⟨rfl, hb⟩
            refine ⟨_, rfl, ?_⟩
            have n0_ := Aside0.mk (Kd.R_below (by (with_reducible repeat (first | apply Kd.R_alloc | apply Kd.R_drewN | apply Kd.R_drew)); exact HO_324001.out) hb)
            have n1_ := Aside0.mk (Kd.R_below (by (with_reducible repeat (first | apply Kd.R_alloc | apply Kd.R_drewN | apply Kd.R_drew)); exact HO_324002.out) hb)
            have n2_ := Aside0.mk (Kd.R_below (by (with_reducible repeat (first | apply Kd.R_alloc | apply Kd.R_drewN | apply Kd.R_drew)); exact HO_333001.out) hb)
            have n3_ := Aside0.mk (Kd.R_below (by (with_reducible repeat (first | apply Kd.R_alloc | apply Kd.R_drewN | apply Kd.R_drew)); exact HO_333002.out) hb)
            have n4_ := Aside0.mk (blk_below (g := gb323) (o := .cells #[.int .i64 t315, .slice Ao12 t316.length co12, .slice Ao13 t319.length co13] 27 (0, 0)) (by (with_reducible repeat (first | refine blk_drewN ?_ _ | refine blk_drew ?_ | refine blk_alloc ?_ _)); exact BK323.out) hb)
            have n5_ := Aside0.mk (blk_below (g := gb332) (o := .cells #[.int .i64 t324, .slice Ao19 t325.length co19, .slice Ao20 t328.length co20] 27 (0, 0)) (by (with_reducible repeat (first | refine blk_drewN ?_ _ | refine blk_drew ?_ | refine blk_alloc ?_ _)); exact BK332.out) hb)
            have n6_ := Aside0.mk (IsS43.below (by repeat (first | (with_reducible first | exact HI312.out | apply IsS43.alloc | apply IsS43.drewN | apply IsS43.drew | apply IsS43.set_1 | refine IsS43.far ?_ NB312_323.out _ | refine IsS43.far ?_ NB312_332.out _) | exact HI312.out)) hb)
            have n7_ := Aside0.mk (below_step (by repeat (first | (with_reducible first | exact HB.out | apply below_alloc | apply pw_below_drewN | apply below_drew1 | refine below_set ?_ (IsS43.ge HI312.out) | refine below_set ?_ GE323.out | refine below_set ?_ GE332.out) | exact HB.out)) hb)
            clear HO_324001
            clear HO_324002
            clear HO_333001
            clear HO_333002
            clear BK323
            clear BK332
            clear HI312
            clear HB
            have HO_324001 := n0_
            have HO_324002 := n1_
            have HO_333001 := n2_
            have HO_333002 := n3_
            have BK323 := n4_
            have BK332 := n5_
            have HI312 := n6_
            have HB := n7_
            clear n0_ n1_ n2_ n3_ n4_ n5_ n6_ n7_
            (try clear hb)
            (try clear hb2)
            (try clear hk)
            (try clear hi)
            refine hK.out _ _ ⟨(blk_cell BK323.out 0).trans rfl, (blk_cell BK323.out 1).trans rfl, (blk_cell BK323.out 2).trans rfl, (blk_cell BK332.out 0).trans rfl, (blk_cell BK332.out 1).trans rfl, (blk_cell BK332.out 2).trans rfl⟩ (fun hHeld => ?_)
            clear hK K
            refine norm_ (a' := ?_) ?_ ?_
            rotate_left
            · show Act.put _ (some 33) _ = _
              simp only [Act.put, List.setIfInBounds_toArray, List.set_cons_zero, List.set_cons_succ, i64_w, i32_w]
              rfl
            refine one_ (i := 13) (N := some 36) #[true, true, true, true, true, true, true, true, true, true, true, true, true, true, false, false] rfl rfl (one_of HT_.out (by kernel_rfl)) (by decide) (fun K hK => ?_)
            refine goes_ Try.func12 (by kernel_rfl) rfl #[.agg #[.int .i64 t324, .slice Ao19 t325.length co19, .slice Ao20 t328.length co20], .int .i64 t333] (by rfl) rfl rfl (by (try simp only [List.map_toArray, List.map_cons, List.map_nil]); first | done | rfl | (simp only [List.length_drop, List.length_take]; rfl)) ?_
            with_reducible refine (threshold_Blocked.calls k1 t324 _ _ t325 _ _ t328 t333 t338 _ ?side1 ?side2 ?side3 ?side4 A27.out).mono ?_
            (case side1 => repeat (first | exact (Kd.R_reads' HO_333001.out).2.2 | (with_reducible refine Kd.C_alloc ?_ _) | (with_reducible refine Kd.C_drewN ?_ _) | (with_reducible refine Kd.C_drew ?_)))
            (case side2 => exact (Kd.R_reads' HO_333001.out).2.1)
            (case side3 => repeat (first | exact (Kd.R_reads' HO_333002.out).2.2 | (with_reducible refine Kd.C_alloc ?_ _) | (with_reducible refine Kd.C_drewN ?_ _) | (with_reducible refine Kd.C_drew ?_)))
            (case side4 => exact (Kd.R_reads' HO_333002.out).2.1)
            rintro e w34 ⟨rfl, hb⟩
            refine ⟨_, rfl, ?_⟩
            have n0_ := Aside0.mk (Kd.R_below (by (with_reducible repeat (first | apply Kd.R_alloc | apply Kd.R_drewN | apply Kd.R_drew)); exact HO_324001.out) hb)
            have n1_ := Aside0.mk (Kd.R_below (by (with_reducible repeat (first | apply Kd.R_alloc | apply Kd.R_drewN | apply Kd.R_drew)); exact HO_324002.out) hb)
            have n2_ := Aside0.mk (Kd.R_below (by (with_reducible repeat (first | apply Kd.R_alloc | apply Kd.R_drewN | apply Kd.R_drew)); exact HO_333001.out) hb)
            have n3_ := Aside0.mk (Kd.R_below (by (with_reducible repeat (first | apply Kd.R_alloc | apply Kd.R_drewN | apply Kd.R_drew)); exact HO_333002.out) hb)
            have n4_ := Aside0.mk (blk_below (g := gb323) (o := .cells #[.int .i64 t315, .slice Ao12 t316.length co12, .slice Ao13 t319.length co13] 27 (0, 0)) (by (with_reducible repeat (first | refine blk_drewN ?_ _ | refine blk_drew ?_ | refine blk_alloc ?_ _)); exact BK323.out) hb)
            have n5_ := Aside0.mk (blk_below (g := gb332) (o := .cells #[.int .i64 t324, .slice Ao19 t325.length co19, .slice Ao20 t328.length co20] 27 (0, 0)) (by (with_reducible repeat (first | refine blk_drewN ?_ _ | refine blk_drew ?_ | refine blk_alloc ?_ _)); exact BK332.out) hb)
            have n6_ := Aside0.mk (IsS43.below (by repeat (first | (with_reducible first | exact HI312.out | apply IsS43.alloc | apply IsS43.drewN | apply IsS43.drew | apply IsS43.set_1 | refine IsS43.far ?_ NB312_323.out _ | refine IsS43.far ?_ NB312_332.out _) | exact HI312.out)) hb)
            have n7_ := Aside0.mk (below_step (by repeat (first | (with_reducible first | exact HB.out | apply below_alloc | apply pw_below_drewN | apply below_drew1 | refine below_set ?_ (IsS43.ge HI312.out) | refine below_set ?_ GE323.out | refine below_set ?_ GE332.out) | exact HB.out)) hb)
            clear HO_324001
            clear HO_324002
            clear HO_333001
            clear HO_333002
            clear BK323
            clear BK332
            clear HI312
            clear HB
            have HO_324001 := n0_
            have HO_324002 := n1_
            have HO_333001 := n2_
            have HO_333002 := n3_
            have BK323 := n4_
            have BK332 := n5_
            have HI312 := n6_
            have HB := n7_
            clear n0_ n1_ n2_ n3_ n4_ n5_ n6_ n7_
            (try clear hb)
            (try clear hb2)
            (try clear hk)
            (try clear hi)
            refine hK.out _ _ ⟨(blk_cell BK323.out 0).trans rfl, (blk_cell BK323.out 1).trans rfl, (blk_cell BK323.out 2).trans rfl, (blk_cell BK332.out 0).trans rfl, (blk_cell BK332.out 1).trans rfl, (blk_cell BK332.out 2).trans rfl⟩ (fun hHeld => ?_)
            clear hK K
            refine norm_ (a' := ?_) ?_ ?_
            rotate_left
            · show Act.put _ (some 36) _ = _
              simp only [Act.put, List.setIfInBounds_toArray, List.set_cons_zero, List.set_cons_succ, i64_w, i32_w]
              rfl
            refine pure_ (i := 14) (N := some 37) (v := ?_) (a' := ?_) #[true, true, true, true, true, true, true, true, true, true, true, true, true, true, true, false] rfl rfl (any_of HT_.out (by kernel_rfl)) (fun _ _ _ h => h) (Or.inl ⟨by rfl, ?_⟩) ?_ ?_
            rotate_left
            · intro w'
              go_simp
              with_reducible rfl
            rotate_left
            · simp only [Act.put, List.setIfInBounds_toArray, List.set_cons_zero, List.set_cons_succ, i64_w, i32_w]
              rfl
            refine pure_ (i := 15) (N := some 38) (v := ?_) (a' := ?_) #[true, true, true, true, true, true, true, true, true, true, true, true, true, true, true, true] rfl rfl (any_of HT_.out (by kernel_rfl)) (fun _ _ _ h => h) (Or.inl ⟨by rfl, ?_⟩) ?_ ?_
            rotate_left
            · intro w'
              go_simp
              with_reducible rfl
            rotate_left
            · simp only [Act.put, List.setIfInBounds_toArray, List.set_cons_zero, List.set_cons_succ, i64_w, i32_w]
              rfl
            refine done_ (done_of HT_.out (by kernel_rfl)) ?_
            try go_wp2
            go_roundg k1
            case measure => have := HK1.out; omega
            case rel => exact ⟨(wrap64 (x6_1 + 1)), (t334), (by first | rfl | (simp; done) | (simp [*]; done) | (refine congrArg (Value.int .i64) ?_; unfold wrap64; omega)), H', ⟨by have := HK1.out; omega⟩, ⟨by (with_reducible repeat (first | apply Kd.R_alloc | apply Kd.R_drewN | apply Kd.R_drew)); exact HO_324001.out⟩, ⟨by (with_reducible repeat (first | apply Kd.R_alloc | apply Kd.R_drewN | apply Kd.R_drew)); exact HO_324002.out⟩, ⟨by (with_reducible repeat (first | apply Kd.R_alloc | apply Kd.R_drewN | apply Kd.R_drew)); exact HO_333001.out⟩, ⟨by (with_reducible repeat (first | apply Kd.R_alloc | apply Kd.R_drewN | apply Kd.R_drew)); exact HO_333002.out⟩, ⟨by (with_reducible repeat (first | refine blk_drewN ?_ _ | refine blk_drew ?_ | refine blk_alloc ?_ _)); exact BK323.out⟩, ⟨by (with_reducible repeat (first | refine blk_drewN ?_ _ | refine blk_drew ?_ | refine blk_alloc ?_ _)); exact BK332.out⟩, ⟨by repeat (first | (with_reducible first | exact HI312.out | apply IsS43.alloc | apply IsS43.drewN | apply IsS43.drew | apply IsS43.set_1 | refine IsS43.far ?_ NB312_323.out _ | refine IsS43.far ?_ NB312_332.out _) | exact HI312.out)⟩, ⟨by repeat (first | (with_reducible first | exact HB.out | apply below_alloc | apply pw_below_drewN | apply below_drew1 | refine below_set ?_ (IsS43.ge HI312.out) | refine below_set ?_ GE323.out | refine below_set ?_ GE332.out) | exact HB.out)⟩⟩
      · rw [if_neg c21] at H
        have c21b0 : decide (x6_1 < 10) = false := decide_eq_false c21
        clear c21
        replace H := Option.bind_eq_some_iff.mp H
        obtain ⟨t339, A350, H⟩ := H
        replace H : ((threshold_Size.f k1 t324 t325 t328).bind fun t340 => (if t339 = t340 then ((threshold_Uses.f k1 t315 t316 t319).bind fun t341 => ((threshold_Uses.f k1 t324 t325 t328).bind fun t342 => (if t341 = t342 then ((threshold_Depth.f k1 t315 t316 t319).bind fun t343 => ((threshold_Depth.f k1 t324 t325 t328).bind fun t344 => (if t343 = t344 then ((threshold_Valid.f k1 t324 t325 t328).bind fun t345 => (if t345 = 0 then ((trustquorumlaw02_awake.f k1).bind fun t346 => (some t346)) else (some false))) else (some false)))) else (some false)))) else (some false))) = some r := H
        have A35 := Aside0.mk A350
        clear A350
        replace H := Option.bind_eq_some_iff.mp H
        obtain ⟨t340, A360, H⟩ := H
        replace H : (if t339 = t340 then ((threshold_Uses.f k1 t315 t316 t319).bind fun t341 => ((threshold_Uses.f k1 t324 t325 t328).bind fun t342 => (if t341 = t342 then ((threshold_Depth.f k1 t315 t316 t319).bind fun t343 => ((threshold_Depth.f k1 t324 t325 t328).bind fun t344 => (if t343 = t344 then ((threshold_Valid.f k1 t324 t325 t328).bind fun t345 => (if t345 = 0 then ((trustquorumlaw02_awake.f k1).bind fun t346 => (some t346)) else (some false))) else (some false)))) else (some false)))) else (some false)) = some r := H
        have A36 := Aside0.mk A360
        clear A360
        by_cases c37 : t339 = t340
        · rw [if_pos c37] at H
          have c37b0 : (t339 == t340) = true := beq_iff_eq.mpr c37
          have c37b1 : (t339 != t340) = false := bne_eq_false_iff_eq.mpr c37
          clear c37
          replace H := Option.bind_eq_some_iff.mp H
          obtain ⟨t341, A380, H⟩ := H
          replace H : ((threshold_Uses.f k1 t324 t325 t328).bind fun t342 => (if t341 = t342 then ((threshold_Depth.f k1 t315 t316 t319).bind fun t343 => ((threshold_Depth.f k1 t324 t325 t328).bind fun t344 => (if t343 = t344 then ((threshold_Valid.f k1 t324 t325 t328).bind fun t345 => (if t345 = 0 then ((trustquorumlaw02_awake.f k1).bind fun t346 => (some t346)) else (some false))) else (some false)))) else (some false))) = some r := H
          have A38 := Aside0.mk A380
          clear A380
          replace H := Option.bind_eq_some_iff.mp H
          obtain ⟨t342, A390, H⟩ := H
          replace H : (if t341 = t342 then ((threshold_Depth.f k1 t315 t316 t319).bind fun t343 => ((threshold_Depth.f k1 t324 t325 t328).bind fun t344 => (if t343 = t344 then ((threshold_Valid.f k1 t324 t325 t328).bind fun t345 => (if t345 = 0 then ((trustquorumlaw02_awake.f k1).bind fun t346 => (some t346)) else (some false))) else (some false)))) else (some false)) = some r := H
          have A39 := Aside0.mk A390
          clear A390
          by_cases c40 : t341 = t342
          · rw [if_pos c40] at H
            have c40b0 : (t341 == t342) = true := beq_iff_eq.mpr c40
            have c40b1 : (t341 != t342) = false := bne_eq_false_iff_eq.mpr c40
            clear c40
            replace H := Option.bind_eq_some_iff.mp H
            obtain ⟨t343, A410, H⟩ := H
            replace H : ((threshold_Depth.f k1 t324 t325 t328).bind fun t344 => (if t343 = t344 then ((threshold_Valid.f k1 t324 t325 t328).bind fun t345 => (if t345 = 0 then ((trustquorumlaw02_awake.f k1).bind fun t346 => (some t346)) else (some false))) else (some false))) = some r := H
            have A41 := Aside0.mk A410
            clear A410
            replace H := Option.bind_eq_some_iff.mp H
            obtain ⟨t344, A420, H⟩ := H
            replace H : (if t343 = t344 then ((threshold_Valid.f k1 t324 t325 t328).bind fun t345 => (if t345 = 0 then ((trustquorumlaw02_awake.f k1).bind fun t346 => (some t346)) else (some false))) else (some false)) = some r := H
            have A42 := Aside0.mk A420
            clear A420
            by_cases c43 : t343 = t344
            · rw [if_pos c43] at H
              have c43b0 : (t343 == t344) = true := beq_iff_eq.mpr c43
              have c43b1 : (t343 != t344) = false := bne_eq_false_iff_eq.mpr c43
              clear c43
              replace H := Option.bind_eq_some_iff.mp H
              obtain ⟨t345, A440, H⟩ := H
              replace H : (if t345 = 0 then ((trustquorumlaw02_awake.f k1).bind fun t346 => (some t346)) else (some false)) = some r := H
              have A44 := Aside0.mk A440
              clear A440
              by_cases c45 : t345 = 0
              · rw [if_pos c45] at H
                have c45b0 : (t345 == 0) = true := beq_iff_eq.mpr c45
                have c45b1 : (t345 != 0) = false := bne_eq_false_iff_eq.mpr c45
                clear c45
                replace H := Option.bind_eq_some_iff.mp H
                obtain ⟨t346, A460, H⟩ := H
                replace H : (some t346) = some r := H
                have A46 := Aside0.mk A460
                clear A460
                obtain rfl := Option.some.inj H
                try go_wp2
                have n0_ := Aside0.mk (Kd.R_drew HO_324001.out)
                have n1_ := Aside0.mk (Kd.R_drew HO_324002.out)
                have n2_ := Aside0.mk (Kd.R_drew HO_333001.out)
                have n3_ := Aside0.mk (Kd.R_drew HO_333002.out)
                have n4_ := Aside0.mk (blk_drew BK323.out)
                have n5_ := Aside0.mk (blk_drew BK332.out)
                have n6_ := Aside0.mk (IsS43.drew HI312.out)
                have n7_ := Aside0.mk (below_drew1 HB.out)
                clear HO_324001
                clear HO_324002
                clear HO_333001
                clear HO_333002
                clear BK323
                clear BK332
                clear HI312
                clear HB
                have HO_324001 := n0_
                have HO_324002 := n1_
                have HO_333001 := n2_
                have HO_333002 := n3_
                have BK323 := n4_
                have BK332 := n5_
                have HI312 := n6_
                have HB := n7_
                clear n0_ n1_ n2_ n3_ n4_ n5_ n6_ n7_
                refine start_ (n := 28) (S := fun w' => w'.cell? ⟨gb323, 0, none⟩ = some (.int .i64 t315) ∧ w'.cell? ⟨gb323, 1, none⟩ = some (.slice Ao12 t316.length co12) ∧ w'.cell? ⟨gb323, 2, none⟩ = some (.slice Ao13 t319.length co13) ∧ w'.cell? ⟨gb332, 0, none⟩ = some (.int .i64 t324) ∧ w'.cell? ⟨gb332, 1, none⟩ = some (.slice Ao19 t325.length co19) ∧ w'.cell? ⟨gb332, 2, none⟩ = some (.slice Ao20 t328.length co20)) (ds := []) #[false, false, false, false, false, false, false, false, false, false, false, false, false, false, false, false, false, false, false, false, false, false, false, false, false, false, false, false] (by kernel_rfl) rfl rfl ⟨(blk_cell BK323.out 0).trans rfl, (blk_cell BK323.out 1).trans rfl, (blk_cell BK323.out 2).trans rfl, (blk_cell BK332.out 0).trans rfl, (blk_cell BK332.out 1).trans rfl, (blk_cell BK332.out 2).trans rfl⟩ (fun hHeld => ?_); refine with_tabW trustquorumlaw02_ThresholdOrder.tab10 trustquorumlaw02_ThresholdOrder.bits10 (fun HT_ HW_ => ?_)
                generalize wr.drew = w47 at HO_324001 HO_324002 HO_333001 HO_333002 BK323 BK332 HI312 HB hHeld ⊢
                refine take_ (i := 0) (N := some 39) (v := ?_) (a' := ?_) #[true, false, false, false, false, false, false, false, false, false, false, false, false, false, false, false, false, false, false, false, false, false, false, false, false, false, false, false] rfl rfl (take_ofW HT_.out HW_.out (by kernel_rfl)) (fun _ _ _ h => h) (Or.inl ⟨by rfl, ?_⟩) hHeld ?_ ?_
                rotate_left
                · rintro w' ⟨s0, s1, s2, s3, s4, s5⟩
                  go_simp
                  with_reducible rfl
                rotate_left
                · simp only [Act.put, List.setIfInBounds_toArray, List.set_cons_zero, List.set_cons_succ, i64_w, i32_w]
                  rfl
                refine take_ (i := 2) (N := some 41) (v := ?_) (a' := ?_) #[true, false, true, false, false, false, false, false, false, false, false, false, false, false, false, false, false, false, false, false, false, false, false, false, false, false, false, false] rfl rfl (take_ofW HT_.out HW_.out (by kernel_rfl)) (fun _ _ _ h => h) (Or.inl ⟨by rfl, ?_⟩) hHeld ?_ ?_
                rotate_left
                · rintro w' ⟨s0, s1, s2, s3, s4, s5⟩
                  go_simp
                  with_reducible rfl
                rotate_left
                · simp only [Act.put, List.setIfInBounds_toArray, List.set_cons_zero, List.set_cons_succ, i64_w, i32_w]
                  rfl
                refine one_ (i := 1) (N := some 40) #[true, true, true, false, false, false, false, false, false, false, false, false, false, false, false, false, false, false, false, false, false, false, false, false, false, false, false, false] rfl rfl (one_of HT_.out (by kernel_rfl)) (by decide) (fun K hK => ?_)
                refine goes_ Try.func17 (by kernel_rfl) rfl #[.agg #[.int .i64 t315, .slice Ao12 t316.length co12, .slice Ao13 t319.length co13]] (by rfl) rfl rfl (by (try simp only [List.map_toArray, List.map_cons, List.map_nil]); first | done | rfl | (simp only [List.length_drop, List.length_take]; rfl)) ?_
                with_reducible refine (threshold_Size.calls k1 t315 _ _ t316 _ _ t319 t339 _ ?side1 ?side2 ?side3 ?side4 A35.out).mono ?_
                (case side1 => repeat (first | exact (Kd.R_reads' HO_324001.out).2.2 | (with_reducible refine Kd.C_alloc ?_ _) | (with_reducible refine Kd.C_drewN ?_ _) | (with_reducible refine Kd.C_drew ?_)))
                (case side2 => exact (Kd.R_reads' HO_324001.out).2.1)
                (case side3 => repeat (first | exact (Kd.R_reads' HO_324002.out).2.2 | (with_reducible refine Kd.C_alloc ?_ _) | (with_reducible refine Kd.C_drewN ?_ _) | (with_reducible refine Kd.C_drew ?_)))
                (case side4 => exact (Kd.R_reads' HO_324002.out).2.1)
                rintro e w48 ⟨rfl, hb⟩
                refine ⟨_, rfl, ?_⟩
                have n0_ := Aside0.mk (Kd.R_below (by (with_reducible repeat (first | apply Kd.R_alloc | apply Kd.R_drewN | apply Kd.R_drew)); exact HO_324001.out) hb)
                have n1_ := Aside0.mk (Kd.R_below (by (with_reducible repeat (first | apply Kd.R_alloc | apply Kd.R_drewN | apply Kd.R_drew)); exact HO_324002.out) hb)
                have n2_ := Aside0.mk (Kd.R_below (by (with_reducible repeat (first | apply Kd.R_alloc | apply Kd.R_drewN | apply Kd.R_drew)); exact HO_333001.out) hb)
                have n3_ := Aside0.mk (Kd.R_below (by (with_reducible repeat (first | apply Kd.R_alloc | apply Kd.R_drewN | apply Kd.R_drew)); exact HO_333002.out) hb)
                have n4_ := Aside0.mk (blk_below (g := gb323) (o := .cells #[.int .i64 t315, .slice Ao12 t316.length co12, .slice Ao13 t319.length co13] 27 (0, 0)) (by (with_reducible repeat (first | refine blk_drewN ?_ _ | refine blk_drew ?_ | refine blk_alloc ?_ _)); exact BK323.out) hb)
                have n5_ := Aside0.mk (blk_below (g := gb332) (o := .cells #[.int .i64 t324, .slice Ao19 t325.length co19, .slice Ao20 t328.length co20] 27 (0, 0)) (by (with_reducible repeat (first | refine blk_drewN ?_ _ | refine blk_drew ?_ | refine blk_alloc ?_ _)); exact BK332.out) hb)
                have n6_ := Aside0.mk (IsS43.below (by repeat (first | (with_reducible first | exact HI312.out | apply IsS43.alloc | apply IsS43.drewN | apply IsS43.drew | apply IsS43.set_1 | refine IsS43.far ?_ NB312_323.out _ | refine IsS43.far ?_ NB312_332.out _) | exact HI312.out)) hb)
                have n7_ := Aside0.mk (below_step (by repeat (first | (with_reducible first | exact HB.out | apply below_alloc | apply pw_below_drewN | apply below_drew1 | refine below_set ?_ (IsS43.ge HI312.out) | refine below_set ?_ GE323.out | refine below_set ?_ GE332.out) | exact HB.out)) hb)
                clear HO_324001
                clear HO_324002
                clear HO_333001
                clear HO_333002
                clear BK323
                clear BK332
                clear HI312
                clear HB
                have HO_324001 := n0_
                have HO_324002 := n1_
                have HO_333001 := n2_
                have HO_333002 := n3_
                have BK323 := n4_
                have BK332 := n5_
                have HI312 := n6_
                have HB := n7_
                clear n0_ n1_ n2_ n3_ n4_ n5_ n6_ n7_
                (try clear hb)
                (try clear hb2)
                (try clear hk)
                (try clear hi)
                refine hK.out _ _ ⟨(blk_cell BK323.out 0).trans rfl, (blk_cell BK323.out 1).trans rfl, (blk_cell BK323.out 2).trans rfl, (blk_cell BK332.out 0).trans rfl, (blk_cell BK332.out 1).trans rfl, (blk_cell BK332.out 2).trans rfl⟩ (fun hHeld => ?_)
                clear hK K
                refine norm_ (a' := ?_) ?_ ?_
                rotate_left
                · show Act.put _ (some 40) _ = _
                  simp only [Act.put, List.setIfInBounds_toArray, List.set_cons_zero, List.set_cons_succ, i64_w, i32_w]
                  rfl
                refine one_ (i := 3) (N := some 42) #[true, true, true, true, false, false, false, false, false, false, false, false, false, false, false, false, false, false, false, false, false, false, false, false, false, false, false, false] rfl rfl (one_of HT_.out (by kernel_rfl)) (by decide) (fun K hK => ?_)
                refine goes_ Try.func17 (by kernel_rfl) rfl #[.agg #[.int .i64 t324, .slice Ao19 t325.length co19, .slice Ao20 t328.length co20]] (by rfl) rfl rfl (by (try simp only [List.map_toArray, List.map_cons, List.map_nil]); first | done | rfl | (simp only [List.length_drop, List.length_take]; rfl)) ?_
                with_reducible refine (threshold_Size.calls k1 t324 _ _ t325 _ _ t328 t340 _ ?side1 ?side2 ?side3 ?side4 A36.out).mono ?_
                (case side1 => repeat (first | exact (Kd.R_reads' HO_333001.out).2.2 | (with_reducible refine Kd.C_alloc ?_ _) | (with_reducible refine Kd.C_drewN ?_ _) | (with_reducible refine Kd.C_drew ?_)))
                (case side2 => exact (Kd.R_reads' HO_333001.out).2.1)
                (case side3 => repeat (first | exact (Kd.R_reads' HO_333002.out).2.2 | (with_reducible refine Kd.C_alloc ?_ _) | (with_reducible refine Kd.C_drewN ?_ _) | (with_reducible refine Kd.C_drew ?_)))
                (case side4 => exact (Kd.R_reads' HO_333002.out).2.1)
                rintro e w49 ⟨rfl, hb⟩
                refine ⟨_, rfl, ?_⟩
                have n0_ := Aside0.mk (Kd.R_below (by (with_reducible repeat (first | apply Kd.R_alloc | apply Kd.R_drewN | apply Kd.R_drew)); exact HO_324001.out) hb)
                have n1_ := Aside0.mk (Kd.R_below (by (with_reducible repeat (first | apply Kd.R_alloc | apply Kd.R_drewN | apply Kd.R_drew)); exact HO_324002.out) hb)
                have n2_ := Aside0.mk (Kd.R_below (by (with_reducible repeat (first | apply Kd.R_alloc | apply Kd.R_drewN | apply Kd.R_drew)); exact HO_333001.out) hb)
                have n3_ := Aside0.mk (Kd.R_below (by (with_reducible repeat (first | apply Kd.R_alloc | apply Kd.R_drewN | apply Kd.R_drew)); exact HO_333002.out) hb)
                have n4_ := Aside0.mk (blk_below (g := gb323) (o := .cells #[.int .i64 t315, .slice Ao12 t316.length co12, .slice Ao13 t319.length co13] 27 (0, 0)) (by (with_reducible repeat (first | refine blk_drewN ?_ _ | refine blk_drew ?_ | refine blk_alloc ?_ _)); exact BK323.out) hb)
                have n5_ := Aside0.mk (blk_below (g := gb332) (o := .cells #[.int .i64 t324, .slice Ao19 t325.length co19, .slice Ao20 t328.length co20] 27 (0, 0)) (by (with_reducible repeat (first | refine blk_drewN ?_ _ | refine blk_drew ?_ | refine blk_alloc ?_ _)); exact BK332.out) hb)
                have n6_ := Aside0.mk (IsS43.below (by repeat (first | (with_reducible first | exact HI312.out | apply IsS43.alloc | apply IsS43.drewN | apply IsS43.drew | apply IsS43.set_1 | refine IsS43.far ?_ NB312_323.out _ | refine IsS43.far ?_ NB312_332.out _) | exact HI312.out)) hb)
                have n7_ := Aside0.mk (below_step (by repeat (first | (with_reducible first | exact HB.out | apply below_alloc | apply pw_below_drewN | apply below_drew1 | refine below_set ?_ (IsS43.ge HI312.out) | refine below_set ?_ GE323.out | refine below_set ?_ GE332.out) | exact HB.out)) hb)
                clear HO_324001
                clear HO_324002
                clear HO_333001
                clear HO_333002
                clear BK323
                clear BK332
                clear HI312
                clear HB
                have HO_324001 := n0_
                have HO_324002 := n1_
                have HO_333001 := n2_
                have HO_333002 := n3_
                have BK323 := n4_
                have BK332 := n5_
                have HI312 := n6_
                have HB := n7_
                clear n0_ n1_ n2_ n3_ n4_ n5_ n6_ n7_
                (try clear hb)
                (try clear hb2)
                (try clear hk)
                (try clear hi)
                refine hK.out _ _ ⟨(blk_cell BK323.out 0).trans rfl, (blk_cell BK323.out 1).trans rfl, (blk_cell BK323.out 2).trans rfl, (blk_cell BK332.out 0).trans rfl, (blk_cell BK332.out 1).trans rfl, (blk_cell BK332.out 2).trans rfl⟩ (fun hHeld => ?_)
                clear hK K
                refine norm_ (a' := ?_) ?_ ?_
                rotate_left
                · show Act.put _ (some 42) _ = _
                  simp only [Act.put, List.setIfInBounds_toArray, List.set_cons_zero, List.set_cons_succ, i64_w, i32_w]
                  rfl
                refine pure_ (i := 4) (N := some 43) (v := ?_) (a' := ?_) #[true, true, true, true, true, false, false, false, false, false, false, false, false, false, false, false, false, false, false, false, false, false, false, false, false, false, false, false] rfl rfl (any_of HT_.out (by kernel_rfl)) (fun _ _ _ h => h) (Or.inl ⟨by rfl, ?_⟩) ?_ ?_
                rotate_left
                · intro w'
                  go_simp
                  with_reducible rfl
                rotate_left
                · simp only [Act.put, List.setIfInBounds_toArray, List.set_cons_zero, List.set_cons_succ, i64_w, i32_w]
                  rfl
                refine pure_ (i := 5) (N := some 44) (v := ?_) (a' := ?_) #[true, true, true, true, true, true, false, false, false, false, false, false, false, false, false, false, false, false, false, false, false, false, false, false, false, false, false, false] rfl rfl (any_of HT_.out (by kernel_rfl)) (fun _ _ _ h => h) (Or.inl ⟨by rfl, ?_⟩) ?_ ?_
                rotate_left
                · intro w'
                  go_simp
                  with_reducible rfl
                rotate_left
                · simp only [Act.put, List.setIfInBounds_toArray, List.set_cons_zero, List.set_cons_succ, i64_w, i32_w]
                  rfl
                refine take_ (i := 6) (N := some 45) (v := ?_) (a' := ?_) #[true, true, true, true, true, true, true, false, false, false, false, false, false, false, false, false, false, false, false, false, false, false, false, false, false, false, false, false] rfl rfl (take_ofW HT_.out HW_.out (by kernel_rfl)) (fun _ _ _ h => h) (Or.inl ⟨by rfl, ?_⟩) hHeld ?_ ?_
                rotate_left
                · rintro w' ⟨s0, s1, s2, s3, s4, s5⟩
                  go_simp
                  with_reducible rfl
                rotate_left
                · simp only [Act.put, List.setIfInBounds_toArray, List.set_cons_zero, List.set_cons_succ, i64_w, i32_w]
                  rfl
                refine take_ (i := 8) (N := some 47) (v := ?_) (a' := ?_) #[true, true, true, true, true, true, true, false, true, false, false, false, false, false, false, false, false, false, false, false, false, false, false, false, false, false, false, false] rfl rfl (take_ofW HT_.out HW_.out (by kernel_rfl)) (fun _ _ _ h => h) (Or.inl ⟨by rfl, ?_⟩) hHeld ?_ ?_
                rotate_left
                · rintro w' ⟨s0, s1, s2, s3, s4, s5⟩
                  go_simp
                  with_reducible rfl
                rotate_left
                · simp only [Act.put, List.setIfInBounds_toArray, List.set_cons_zero, List.set_cons_succ, i64_w, i32_w]
                  rfl
                refine one_ (i := 7) (N := some 46) #[true, true, true, true, true, true, true, true, true, false, false, false, false, false, false, false, false, false, false, false, false, false, false, false, false, false, false, false] rfl rfl (one_of HT_.out (by kernel_rfl)) (by decide) (fun K hK => ?_)
                refine goes_ Try.func15 (by kernel_rfl) rfl #[.agg #[.int .i64 t315, .slice Ao12 t316.length co12, .slice Ao13 t319.length co13]] (by rfl) rfl rfl (by (try simp only [List.map_toArray, List.map_cons, List.map_nil]); first | done | rfl | (simp only [List.length_drop, List.length_take]; rfl)) ?_
                with_reducible refine (threshold_Uses.calls k1 t315 _ _ t316 _ _ t319 t341 _ ?side1 ?side2 ?side3 ?side4 A38.out).mono ?_
                (case side1 => repeat (first | exact (Kd.R_reads' HO_324001.out).2.2 | (with_reducible refine Kd.C_alloc ?_ _) | (with_reducible refine Kd.C_drewN ?_ _) | (with_reducible refine Kd.C_drew ?_)))
                (case side2 => exact (Kd.R_reads' HO_324001.out).2.1)
                (case side3 => repeat (first | exact (Kd.R_reads' HO_324002.out).2.2 | (with_reducible refine Kd.C_alloc ?_ _) | (with_reducible refine Kd.C_drewN ?_ _) | (with_reducible refine Kd.C_drew ?_)))
                (case side4 => exact (Kd.R_reads' HO_324002.out).2.1)
                rintro e w50 ⟨rfl, hb⟩
                refine ⟨_, rfl, ?_⟩
                have n0_ := Aside0.mk (Kd.R_below (by (with_reducible repeat (first | apply Kd.R_alloc | apply Kd.R_drewN | apply Kd.R_drew)); exact HO_324001.out) hb)
                have n1_ := Aside0.mk (Kd.R_below (by (with_reducible repeat (first | apply Kd.R_alloc | apply Kd.R_drewN | apply Kd.R_drew)); exact HO_324002.out) hb)
                have n2_ := Aside0.mk (Kd.R_below (by (with_reducible repeat (first | apply Kd.R_alloc | apply Kd.R_drewN | apply Kd.R_drew)); exact HO_333001.out) hb)
                have n3_ := Aside0.mk (Kd.R_below (by (with_reducible repeat (first | apply Kd.R_alloc | apply Kd.R_drewN | apply Kd.R_drew)); exact HO_333002.out) hb)
                have n4_ := Aside0.mk (blk_below (g := gb323) (o := .cells #[.int .i64 t315, .slice Ao12 t316.length co12, .slice Ao13 t319.length co13] 27 (0, 0)) (by (with_reducible repeat (first | refine blk_drewN ?_ _ | refine blk_drew ?_ | refine blk_alloc ?_ _)); exact BK323.out) hb)
                have n5_ := Aside0.mk (blk_below (g := gb332) (o := .cells #[.int .i64 t324, .slice Ao19 t325.length co19, .slice Ao20 t328.length co20] 27 (0, 0)) (by (with_reducible repeat (first | refine blk_drewN ?_ _ | refine blk_drew ?_ | refine blk_alloc ?_ _)); exact BK332.out) hb)
                have n6_ := Aside0.mk (IsS43.below (by repeat (first | (with_reducible first | exact HI312.out | apply IsS43.alloc | apply IsS43.drewN | apply IsS43.drew | apply IsS43.set_1 | refine IsS43.far ?_ NB312_323.out _ | refine IsS43.far ?_ NB312_332.out _) | exact HI312.out)) hb)
                have n7_ := Aside0.mk (below_step (by repeat (first | (with_reducible first | exact HB.out | apply below_alloc | apply pw_below_drewN | apply below_drew1 | refine below_set ?_ (IsS43.ge HI312.out) | refine below_set ?_ GE323.out | refine below_set ?_ GE332.out) | exact HB.out)) hb)
                clear HO_324001
                clear HO_324002
                clear HO_333001
                clear HO_333002
                clear BK323
                clear BK332
                clear HI312
                clear HB
                have HO_324001 := n0_
                have HO_324002 := n1_
                have HO_333001 := n2_
                have HO_333002 := n3_
                have BK323 := n4_
                have BK332 := n5_
                have HI312 := n6_
                have HB := n7_
                clear n0_ n1_ n2_ n3_ n4_ n5_ n6_ n7_
                (try clear hb)
                (try clear hb2)
                (try clear hk)
                (try clear hi)
                refine hK.out _ _ ⟨(blk_cell BK323.out 0).trans rfl, (blk_cell BK323.out 1).trans rfl, (blk_cell BK323.out 2).trans rfl, (blk_cell BK332.out 0).trans rfl, (blk_cell BK332.out 1).trans rfl, (blk_cell BK332.out 2).trans rfl⟩ (fun hHeld => ?_)
                clear hK K
                refine norm_ (a' := ?_) ?_ ?_
                rotate_left
                · show Act.put _ (some 46) _ = _
                  simp only [Act.put, List.setIfInBounds_toArray, List.set_cons_zero, List.set_cons_succ, i64_w, i32_w]
                  rfl
                refine one_ (i := 9) (N := some 48) #[true, true, true, true, true, true, true, true, true, true, false, false, false, false, false, false, false, false, false, false, false, false, false, false, false, false, false, false] rfl rfl (one_of HT_.out (by kernel_rfl)) (by decide) (fun K hK => ?_)
                refine goes_ Try.func15 (by kernel_rfl) rfl #[.agg #[.int .i64 t324, .slice Ao19 t325.length co19, .slice Ao20 t328.length co20]] (by rfl) rfl rfl (by (try simp only [List.map_toArray, List.map_cons, List.map_nil]); first | done | rfl | (simp only [List.length_drop, List.length_take]; rfl)) ?_
                with_reducible refine (threshold_Uses.calls k1 t324 _ _ t325 _ _ t328 t342 _ ?side1 ?side2 ?side3 ?side4 A39.out).mono ?_
                (case side1 => repeat (first | exact (Kd.R_reads' HO_333001.out).2.2 | (with_reducible refine Kd.C_alloc ?_ _) | (with_reducible refine Kd.C_drewN ?_ _) | (with_reducible refine Kd.C_drew ?_)))
                (case side2 => exact (Kd.R_reads' HO_333001.out).2.1)
                (case side3 => repeat (first | exact (Kd.R_reads' HO_333002.out).2.2 | (with_reducible refine Kd.C_alloc ?_ _) | (with_reducible refine Kd.C_drewN ?_ _) | (with_reducible refine Kd.C_drew ?_)))
                (case side4 => exact (Kd.R_reads' HO_333002.out).2.1)
                rintro e w51 ⟨rfl, hb⟩
                refine ⟨_, rfl, ?_⟩
                have n0_ := Aside0.mk (Kd.R_below (by (with_reducible repeat (first | apply Kd.R_alloc | apply Kd.R_drewN | apply Kd.R_drew)); exact HO_324001.out) hb)
                have n1_ := Aside0.mk (Kd.R_below (by (with_reducible repeat (first | apply Kd.R_alloc | apply Kd.R_drewN | apply Kd.R_drew)); exact HO_324002.out) hb)
                have n2_ := Aside0.mk (Kd.R_below (by (with_reducible repeat (first | apply Kd.R_alloc | apply Kd.R_drewN | apply Kd.R_drew)); exact HO_333001.out) hb)
                have n3_ := Aside0.mk (Kd.R_below (by (with_reducible repeat (first | apply Kd.R_alloc | apply Kd.R_drewN | apply Kd.R_drew)); exact HO_333002.out) hb)
                have n4_ := Aside0.mk (blk_below (g := gb323) (o := .cells #[.int .i64 t315, .slice Ao12 t316.length co12, .slice Ao13 t319.length co13] 27 (0, 0)) (by (with_reducible repeat (first | refine blk_drewN ?_ _ | refine blk_drew ?_ | refine blk_alloc ?_ _)); exact BK323.out) hb)
                have n5_ := Aside0.mk (blk_below (g := gb332) (o := .cells #[.int .i64 t324, .slice Ao19 t325.length co19, .slice Ao20 t328.length co20] 27 (0, 0)) (by (with_reducible repeat (first | refine blk_drewN ?_ _ | refine blk_drew ?_ | refine blk_alloc ?_ _)); exact BK332.out) hb)
                have n6_ := Aside0.mk (IsS43.below (by repeat (first | (with_reducible first | exact HI312.out | apply IsS43.alloc | apply IsS43.drewN | apply IsS43.drew | apply IsS43.set_1 | refine IsS43.far ?_ NB312_323.out _ | refine IsS43.far ?_ NB312_332.out _) | exact HI312.out)) hb)
                have n7_ := Aside0.mk (below_step (by repeat (first | (with_reducible first | exact HB.out | apply below_alloc | apply pw_below_drewN | apply below_drew1 | refine below_set ?_ (IsS43.ge HI312.out) | refine below_set ?_ GE323.out | refine below_set ?_ GE332.out) | exact HB.out)) hb)
                clear HO_324001
                clear HO_324002
                clear HO_333001
                clear HO_333002
                clear BK323
                clear BK332
                clear HI312
                clear HB
                have HO_324001 := n0_
                have HO_324002 := n1_
                have HO_333001 := n2_
                have HO_333002 := n3_
                have BK323 := n4_
                have BK332 := n5_
                have HI312 := n6_
                have HB := n7_
                clear n0_ n1_ n2_ n3_ n4_ n5_ n6_ n7_
                (try clear hb)
                (try clear hb2)
                (try clear hk)
                (try clear hi)
                refine hK.out _ _ ⟨(blk_cell BK323.out 0).trans rfl, (blk_cell BK323.out 1).trans rfl, (blk_cell BK323.out 2).trans rfl, (blk_cell BK332.out 0).trans rfl, (blk_cell BK332.out 1).trans rfl, (blk_cell BK332.out 2).trans rfl⟩ (fun hHeld => ?_)
                clear hK K
                refine norm_ (a' := ?_) ?_ ?_
                rotate_left
                · show Act.put _ (some 48) _ = _
                  simp only [Act.put, List.setIfInBounds_toArray, List.set_cons_zero, List.set_cons_succ, i64_w, i32_w]
                  rfl
                refine pure_ (i := 10) (N := some 49) (v := ?_) (a' := ?_) #[true, true, true, true, true, true, true, true, true, true, true, false, false, false, false, false, false, false, false, false, false, false, false, false, false, false, false, false] rfl rfl (any_of HT_.out (by kernel_rfl)) (fun _ _ _ h => h) (Or.inl ⟨by rfl, ?_⟩) ?_ ?_
                rotate_left
                · intro w'
                  go_simp
                  with_reducible rfl
                rotate_left
                · simp only [Act.put, List.setIfInBounds_toArray, List.set_cons_zero, List.set_cons_succ, i64_w, i32_w]
                  rfl
                refine pure_ (i := 11) (N := some 50) (v := ?_) (a' := ?_) #[true, true, true, true, true, true, true, true, true, true, true, true, false, false, false, false, false, false, false, false, false, false, false, false, false, false, false, false] rfl rfl (any_of HT_.out (by kernel_rfl)) (fun _ _ _ h => h) (Or.inl ⟨by rfl, ?_⟩) ?_ ?_
                rotate_left
                · intro w'
                  go_simp
                  with_reducible rfl
                rotate_left
                · simp only [Act.put, List.setIfInBounds_toArray, List.set_cons_zero, List.set_cons_succ, i64_w, i32_w]
                  rfl
                refine pure_ (i := 12) (N := some 51) (v := ?_) (a' := ?_) #[true, true, true, true, true, true, true, true, true, true, true, true, true, false, false, false, false, false, false, false, false, false, false, false, false, false, false, false] rfl rfl (any_of HT_.out (by kernel_rfl)) (fun _ _ _ h => h) (Or.inl ⟨by rfl, ?_⟩) ?_ ?_
                rotate_left
                · intro w'
                  go_simp
                  with_reducible rfl
                rotate_left
                · simp only [Act.put, List.setIfInBounds_toArray, List.set_cons_zero, List.set_cons_succ, i64_w, i32_w]
                  rfl
                refine take_ (i := 13) (N := some 52) (v := ?_) (a' := ?_) #[true, true, true, true, true, true, true, true, true, true, true, true, true, true, false, false, false, false, false, false, false, false, false, false, false, false, false, false] rfl rfl (take_ofW HT_.out HW_.out (by kernel_rfl)) (fun _ _ _ h => h) (Or.inl ⟨by rfl, ?_⟩) hHeld ?_ ?_
                rotate_left
                · rintro w' ⟨s0, s1, s2, s3, s4, s5⟩
                  go_simp
                  with_reducible rfl
                rotate_left
                · simp only [Act.put, List.setIfInBounds_toArray, List.set_cons_zero, List.set_cons_succ, i64_w, i32_w]
                  rfl
                refine take_ (i := 15) (N := some 54) (v := ?_) (a' := ?_) #[true, true, true, true, true, true, true, true, true, true, true, true, true, true, false, true, false, false, false, false, false, false, false, false, false, false, false, false] rfl rfl (take_ofW HT_.out HW_.out (by kernel_rfl)) (fun _ _ _ h => h) (Or.inl ⟨by rfl, ?_⟩) hHeld ?_ ?_
                rotate_left
                · rintro w' ⟨s0, s1, s2, s3, s4, s5⟩
                  go_simp
                  with_reducible rfl
                rotate_left
                · simp only [Act.put, List.setIfInBounds_toArray, List.set_cons_zero, List.set_cons_succ, i64_w, i32_w]
                  rfl
                refine one_ (i := 14) (N := some 53) #[true, true, true, true, true, true, true, true, true, true, true, true, true, true, true, true, false, false, false, false, false, false, false, false, false, false, false, false] rfl rfl (one_of HT_.out (by kernel_rfl)) (by decide) (fun K hK => ?_)
                refine goes_ Try.func18 (by kernel_rfl) rfl #[.agg #[.int .i64 t315, .slice Ao12 t316.length co12, .slice Ao13 t319.length co13]] (by rfl) rfl rfl (by (try simp only [List.map_toArray, List.map_cons, List.map_nil]); first | done | rfl | (simp only [List.length_drop, List.length_take]; rfl)) ?_
                with_reducible refine (threshold_Depth.calls k1 t315 _ _ t316 _ _ t319 t343 _ ?side1 ?side2 ?side3 ?side4 A41.out).mono ?_
                (case side1 => repeat (first | exact (Kd.R_reads' HO_324001.out).2.2 | (with_reducible refine Kd.C_alloc ?_ _) | (with_reducible refine Kd.C_drewN ?_ _) | (with_reducible refine Kd.C_drew ?_)))
                (case side2 => exact (Kd.R_reads' HO_324001.out).2.1)
                (case side3 => repeat (first | exact (Kd.R_reads' HO_324002.out).2.2 | (with_reducible refine Kd.C_alloc ?_ _) | (with_reducible refine Kd.C_drewN ?_ _) | (with_reducible refine Kd.C_drew ?_)))
                (case side4 => exact (Kd.R_reads' HO_324002.out).2.1)
                rintro e w52 ⟨rfl, hb⟩
                refine ⟨_, rfl, ?_⟩
                have n0_ := Aside0.mk (Kd.R_below (by (with_reducible repeat (first | apply Kd.R_alloc | apply Kd.R_drewN | apply Kd.R_drew)); exact HO_324001.out) hb)
                have n1_ := Aside0.mk (Kd.R_below (by (with_reducible repeat (first | apply Kd.R_alloc | apply Kd.R_drewN | apply Kd.R_drew)); exact HO_324002.out) hb)
                have n2_ := Aside0.mk (Kd.R_below (by (with_reducible repeat (first | apply Kd.R_alloc | apply Kd.R_drewN | apply Kd.R_drew)); exact HO_333001.out) hb)
                have n3_ := Aside0.mk (Kd.R_below (by (with_reducible repeat (first | apply Kd.R_alloc | apply Kd.R_drewN | apply Kd.R_drew)); exact HO_333002.out) hb)
                have n4_ := Aside0.mk (blk_below (g := gb323) (o := .cells #[.int .i64 t315, .slice Ao12 t316.length co12, .slice Ao13 t319.length co13] 27 (0, 0)) (by (with_reducible repeat (first | refine blk_drewN ?_ _ | refine blk_drew ?_ | refine blk_alloc ?_ _)); exact BK323.out) hb)
                have n5_ := Aside0.mk (blk_below (g := gb332) (o := .cells #[.int .i64 t324, .slice Ao19 t325.length co19, .slice Ao20 t328.length co20] 27 (0, 0)) (by (with_reducible repeat (first | refine blk_drewN ?_ _ | refine blk_drew ?_ | refine blk_alloc ?_ _)); exact BK332.out) hb)
                have n6_ := Aside0.mk (IsS43.below (by repeat (first | (with_reducible first | exact HI312.out | apply IsS43.alloc | apply IsS43.drewN | apply IsS43.drew | apply IsS43.set_1 | refine IsS43.far ?_ NB312_323.out _ | refine IsS43.far ?_ NB312_332.out _) | exact HI312.out)) hb)
                have n7_ := Aside0.mk (below_step (by repeat (first | (with_reducible first | exact HB.out | apply below_alloc | apply pw_below_drewN | apply below_drew1 | refine below_set ?_ (IsS43.ge HI312.out) | refine below_set ?_ GE323.out | refine below_set ?_ GE332.out) | exact HB.out)) hb)
                clear HO_324001
                clear HO_324002
                clear HO_333001
                clear HO_333002
                clear BK323
                clear BK332
                clear HI312
                clear HB
                have HO_324001 := n0_
                have HO_324002 := n1_
                have HO_333001 := n2_
                have HO_333002 := n3_
                have BK323 := n4_
                have BK332 := n5_
                have HI312 := n6_
                have HB := n7_
                clear n0_ n1_ n2_ n3_ n4_ n5_ n6_ n7_
                (try clear hb)
                (try clear hb2)
                (try clear hk)
                (try clear hi)
                refine hK.out _ _ ⟨(blk_cell BK323.out 0).trans rfl, (blk_cell BK323.out 1).trans rfl, (blk_cell BK323.out 2).trans rfl, (blk_cell BK332.out 0).trans rfl, (blk_cell BK332.out 1).trans rfl, (blk_cell BK332.out 2).trans rfl⟩ (fun hHeld => ?_)
                clear hK K
                refine norm_ (a' := ?_) ?_ ?_
                rotate_left
                · show Act.put _ (some 53) _ = _
                  simp only [Act.put, List.setIfInBounds_toArray, List.set_cons_zero, List.set_cons_succ, i64_w, i32_w]
                  rfl
                refine one_ (i := 16) (N := some 55) #[true, true, true, true, true, true, true, true, true, true, true, true, true, true, true, true, true, false, false, false, false, false, false, false, false, false, false, false] rfl rfl (one_of HT_.out (by kernel_rfl)) (by decide) (fun K hK => ?_)
                refine goes_ Try.func18 (by kernel_rfl) rfl #[.agg #[.int .i64 t324, .slice Ao19 t325.length co19, .slice Ao20 t328.length co20]] (by rfl) rfl rfl (by (try simp only [List.map_toArray, List.map_cons, List.map_nil]); first | done | rfl | (simp only [List.length_drop, List.length_take]; rfl)) ?_
                with_reducible refine (threshold_Depth.calls k1 t324 _ _ t325 _ _ t328 t344 _ ?side1 ?side2 ?side3 ?side4 A42.out).mono ?_
                (case side1 => repeat (first | exact (Kd.R_reads' HO_333001.out).2.2 | (with_reducible refine Kd.C_alloc ?_ _) | (with_reducible refine Kd.C_drewN ?_ _) | (with_reducible refine Kd.C_drew ?_)))
                (case side2 => exact (Kd.R_reads' HO_333001.out).2.1)
                (case side3 => repeat (first | exact (Kd.R_reads' HO_333002.out).2.2 | (with_reducible refine Kd.C_alloc ?_ _) | (with_reducible refine Kd.C_drewN ?_ _) | (with_reducible refine Kd.C_drew ?_)))
                (case side4 => exact (Kd.R_reads' HO_333002.out).2.1)
                rintro e w53 ⟨rfl, hb⟩
                refine ⟨_, rfl, ?_⟩
                have n0_ := Aside0.mk (Kd.R_below (by (with_reducible repeat (first | apply Kd.R_alloc | apply Kd.R_drewN | apply Kd.R_drew)); exact HO_324001.out) hb)
                have n1_ := Aside0.mk (Kd.R_below (by (with_reducible repeat (first | apply Kd.R_alloc | apply Kd.R_drewN | apply Kd.R_drew)); exact HO_324002.out) hb)
                have n2_ := Aside0.mk (Kd.R_below (by (with_reducible repeat (first | apply Kd.R_alloc | apply Kd.R_drewN | apply Kd.R_drew)); exact HO_333001.out) hb)
                have n3_ := Aside0.mk (Kd.R_below (by (with_reducible repeat (first | apply Kd.R_alloc | apply Kd.R_drewN | apply Kd.R_drew)); exact HO_333002.out) hb)
                have n4_ := Aside0.mk (blk_below (g := gb323) (o := .cells #[.int .i64 t315, .slice Ao12 t316.length co12, .slice Ao13 t319.length co13] 27 (0, 0)) (by (with_reducible repeat (first | refine blk_drewN ?_ _ | refine blk_drew ?_ | refine blk_alloc ?_ _)); exact BK323.out) hb)
                have n5_ := Aside0.mk (blk_below (g := gb332) (o := .cells #[.int .i64 t324, .slice Ao19 t325.length co19, .slice Ao20 t328.length co20] 27 (0, 0)) (by (with_reducible repeat (first | refine blk_drewN ?_ _ | refine blk_drew ?_ | refine blk_alloc ?_ _)); exact BK332.out) hb)
                have n6_ := Aside0.mk (IsS43.below (by repeat (first | (with_reducible first | exact HI312.out | apply IsS43.alloc | apply IsS43.drewN | apply IsS43.drew | apply IsS43.set_1 | refine IsS43.far ?_ NB312_323.out _ | refine IsS43.far ?_ NB312_332.out _) | exact HI312.out)) hb)
                have n7_ := Aside0.mk (below_step (by repeat (first | (with_reducible first | exact HB.out | apply below_alloc | apply pw_below_drewN | apply below_drew1 | refine below_set ?_ (IsS43.ge HI312.out) | refine below_set ?_ GE323.out | refine below_set ?_ GE332.out) | exact HB.out)) hb)
                clear HO_324001
                clear HO_324002
                clear HO_333001
                clear HO_333002
                clear BK323
                clear BK332
                clear HI312
                clear HB
                have HO_324001 := n0_
                have HO_324002 := n1_
                have HO_333001 := n2_
                have HO_333002 := n3_
                have BK323 := n4_
                have BK332 := n5_
                have HI312 := n6_
                have HB := n7_
                clear n0_ n1_ n2_ n3_ n4_ n5_ n6_ n7_
                (try clear hb)
                (try clear hb2)
                (try clear hk)
                (try clear hi)
                refine hK.out _ _ ⟨(blk_cell BK323.out 0).trans rfl, (blk_cell BK323.out 1).trans rfl, (blk_cell BK323.out 2).trans rfl, (blk_cell BK332.out 0).trans rfl, (blk_cell BK332.out 1).trans rfl, (blk_cell BK332.out 2).trans rfl⟩ (fun hHeld => ?_)
                clear hK K
                refine norm_ (a' := ?_) ?_ ?_
                rotate_left
                · show Act.put _ (some 55) _ = _
                  simp only [Act.put, List.setIfInBounds_toArray, List.set_cons_zero, List.set_cons_succ, i64_w, i32_w]
                  rfl
                refine pure_ (i := 17) (N := some 56) (v := ?_) (a' := ?_) #[true, true, true, true, true, true, true, true, true, true, true, true, true, true, true, true, true, true, false, false, false, false, false, false, false, false, false, false] rfl rfl (any_of HT_.out (by kernel_rfl)) (fun _ _ _ h => h) (Or.inl ⟨by rfl, ?_⟩) ?_ ?_
                rotate_left
                · intro w'
                  go_simp
                  with_reducible rfl
                rotate_left
                · simp only [Act.put, List.setIfInBounds_toArray, List.set_cons_zero, List.set_cons_succ, i64_w, i32_w]
                  rfl
                refine pure_ (i := 18) (N := some 57) (v := ?_) (a' := ?_) #[true, true, true, true, true, true, true, true, true, true, true, true, true, true, true, true, true, true, true, false, false, false, false, false, false, false, false, false] rfl rfl (any_of HT_.out (by kernel_rfl)) (fun _ _ _ h => h) (Or.inl ⟨by rfl, ?_⟩) ?_ ?_
                rotate_left
                · intro w'
                  go_simp
                  with_reducible rfl
                rotate_left
                · simp only [Act.put, List.setIfInBounds_toArray, List.set_cons_zero, List.set_cons_succ, i64_w, i32_w]
                  rfl
                refine pure_ (i := 19) (N := some 58) (v := ?_) (a' := ?_) #[true, true, true, true, true, true, true, true, true, true, true, true, true, true, true, true, true, true, true, true, false, false, false, false, false, false, false, false] rfl rfl (any_of HT_.out (by kernel_rfl)) (fun _ _ _ h => h) (Or.inl ⟨by rfl, ?_⟩) ?_ ?_
                rotate_left
                · intro w'
                  go_simp
                  with_reducible rfl
                rotate_left
                · simp only [Act.put, List.setIfInBounds_toArray, List.set_cons_zero, List.set_cons_succ, i64_w, i32_w]
                  rfl
                refine take_ (i := 20) (N := some 59) (v := ?_) (a' := ?_) #[true, true, true, true, true, true, true, true, true, true, true, true, true, true, true, true, true, true, true, true, true, false, false, false, false, false, false, false] rfl rfl (take_ofW HT_.out HW_.out (by kernel_rfl)) (fun _ _ _ h => h) (Or.inl ⟨by rfl, ?_⟩) hHeld ?_ ?_
                rotate_left
                · rintro w' ⟨s0, s1, s2, s3, s4, s5⟩
                  go_simp
                  with_reducible rfl
                rotate_left
                · simp only [Act.put, List.setIfInBounds_toArray, List.set_cons_zero, List.set_cons_succ, i64_w, i32_w]
                  rfl
                refine one_ (i := 21) (N := some 60) #[true, true, true, true, true, true, true, true, true, true, true, true, true, true, true, true, true, true, true, true, true, true, false, false, false, false, false, false] rfl rfl (one_of HT_.out (by kernel_rfl)) (by decide) (fun K hK => ?_)
                refine goes_ Try.func19 (by kernel_rfl) rfl #[.agg #[.int .i64 t324, .slice Ao19 t325.length co19, .slice Ao20 t328.length co20]] (by rfl) rfl rfl (by (try simp only [List.map_toArray, List.map_cons, List.map_nil]); first | done | rfl | (simp only [List.length_drop, List.length_take]; rfl)) ?_
                with_reducible refine (threshold_Valid.calls k1 t324 _ _ t325 _ _ t328 t345 _ ?side1 ?side2 ?side3 ?side4 A44.out).mono ?_
                (case side1 => repeat (first | exact (Kd.R_reads' HO_333001.out).2.2 | (with_reducible refine Kd.C_alloc ?_ _) | (with_reducible refine Kd.C_drewN ?_ _) | (with_reducible refine Kd.C_drew ?_)))
                (case side2 => exact (Kd.R_reads' HO_333001.out).2.1)
                (case side3 => repeat (first | exact (Kd.R_reads' HO_333002.out).2.2 | (with_reducible refine Kd.C_alloc ?_ _) | (with_reducible refine Kd.C_drewN ?_ _) | (with_reducible refine Kd.C_drew ?_)))
                (case side4 => exact (Kd.R_reads' HO_333002.out).2.1)
                rintro e w54 ⟨rfl, hb⟩
                refine ⟨_, rfl, ?_⟩
                have n0_ := Aside0.mk (Kd.R_below (by (with_reducible repeat (first | apply Kd.R_alloc | apply Kd.R_drewN | apply Kd.R_drew)); exact HO_324001.out) hb)
                have n1_ := Aside0.mk (Kd.R_below (by (with_reducible repeat (first | apply Kd.R_alloc | apply Kd.R_drewN | apply Kd.R_drew)); exact HO_324002.out) hb)
                have n2_ := Aside0.mk (Kd.R_below (by (with_reducible repeat (first | apply Kd.R_alloc | apply Kd.R_drewN | apply Kd.R_drew)); exact HO_333001.out) hb)
                have n3_ := Aside0.mk (Kd.R_below (by (with_reducible repeat (first | apply Kd.R_alloc | apply Kd.R_drewN | apply Kd.R_drew)); exact HO_333002.out) hb)
                have n4_ := Aside0.mk (blk_below (g := gb323) (o := .cells #[.int .i64 t315, .slice Ao12 t316.length co12, .slice Ao13 t319.length co13] 27 (0, 0)) (by (with_reducible repeat (first | refine blk_drewN ?_ _ | refine blk_drew ?_ | refine blk_alloc ?_ _)); exact BK323.out) hb)
                have n5_ := Aside0.mk (blk_below (g := gb332) (o := .cells #[.int .i64 t324, .slice Ao19 t325.length co19, .slice Ao20 t328.length co20] 27 (0, 0)) (by (with_reducible repeat (first | refine blk_drewN ?_ _ | refine blk_drew ?_ | refine blk_alloc ?_ _)); exact BK332.out) hb)
                have n6_ := Aside0.mk (IsS43.below (by repeat (first | (with_reducible first | exact HI312.out | apply IsS43.alloc | apply IsS43.drewN | apply IsS43.drew | apply IsS43.set_1 | refine IsS43.far ?_ NB312_323.out _ | refine IsS43.far ?_ NB312_332.out _) | exact HI312.out)) hb)
                have n7_ := Aside0.mk (below_step (by repeat (first | (with_reducible first | exact HB.out | apply below_alloc | apply pw_below_drewN | apply below_drew1 | refine below_set ?_ (IsS43.ge HI312.out) | refine below_set ?_ GE323.out | refine below_set ?_ GE332.out) | exact HB.out)) hb)
                clear HO_324001
                clear HO_324002
                clear HO_333001
                clear HO_333002
                clear BK323
                clear BK332
                clear HI312
                clear HB
                have HO_324001 := n0_
                have HO_324002 := n1_
                have HO_333001 := n2_
                have HO_333002 := n3_
                have BK323 := n4_
                have BK332 := n5_
                have HI312 := n6_
                have HB := n7_
                clear n0_ n1_ n2_ n3_ n4_ n5_ n6_ n7_
                (try clear hb)
                (try clear hb2)
                (try clear hk)
                (try clear hi)
                refine hK.out _ _ ⟨(blk_cell BK323.out 0).trans rfl, (blk_cell BK323.out 1).trans rfl, (blk_cell BK323.out 2).trans rfl, (blk_cell BK332.out 0).trans rfl, (blk_cell BK332.out 1).trans rfl, (blk_cell BK332.out 2).trans rfl⟩ (fun hHeld => ?_)
                clear hK K
                refine norm_ (a' := ?_) ?_ ?_
                rotate_left
                · show Act.put _ (some 60) _ = _
                  simp only [Act.put, List.setIfInBounds_toArray, List.set_cons_zero, List.set_cons_succ, i64_w, i32_w]
                  rfl
                refine pure_ (i := 22) (N := some 61) (v := ?_) (a' := ?_) #[true, true, true, true, true, true, true, true, true, true, true, true, true, true, true, true, true, true, true, true, true, true, true, false, false, false, false, false] rfl rfl (any_of HT_.out (by kernel_rfl)) (fun _ _ _ h => h) (Or.inl ⟨by rfl, ?_⟩) ?_ ?_
                rotate_left
                · intro w'
                  go_simp
                  with_reducible rfl
                rotate_left
                · simp only [Act.put, List.setIfInBounds_toArray, List.set_cons_zero, List.set_cons_succ, i64_w, i32_w]
                  rfl
                refine pure_ (i := 23) (N := some 62) (v := ?_) (a' := ?_) #[true, true, true, true, true, true, true, true, true, true, true, true, true, true, true, true, true, true, true, true, true, true, true, true, false, false, false, false] rfl rfl (any_of HT_.out (by kernel_rfl)) (fun _ _ _ h => h) (Or.inl ⟨by rfl, ?_⟩) ?_ ?_
                rotate_left
                · intro w'
                  go_simp
                  with_reducible rfl
                rotate_left
                · simp only [Act.put, List.setIfInBounds_toArray, List.set_cons_zero, List.set_cons_succ, i64_w, i32_w]
                  rfl
                refine pure_ (i := 24) (N := some 63) (v := ?_) (a' := ?_) #[true, true, true, true, true, true, true, true, true, true, true, true, true, true, true, true, true, true, true, true, true, true, true, true, true, false, false, false] rfl rfl (any_of HT_.out (by kernel_rfl)) (fun _ _ _ h => h) (Or.inl ⟨by rfl, ?_⟩) ?_ ?_
                rotate_left
                · intro w'
                  go_simp
                  with_reducible rfl
                rotate_left
                · simp only [Act.put, List.setIfInBounds_toArray, List.set_cons_zero, List.set_cons_succ, i64_w, i32_w]
                  rfl
                refine one_ (i := 25) (N := some 64) #[true, true, true, true, true, true, true, true, true, true, true, true, true, true, true, true, true, true, true, true, true, true, true, true, true, true, false, false] rfl rfl (one_of HT_.out (by kernel_rfl)) (by decide) (fun K hK => ?_)
                refine goes_ Try.func14 (by kernel_rfl) rfl #[] (by rfl) rfl rfl (by (try simp only [List.map_toArray, List.map_cons, List.map_nil]); first | done | rfl | (simp only [List.length_drop, List.length_take]; rfl)) ?_
                with_reducible refine (trustquorumlaw02_awake.calls k1  t346 _ A46.out).mono ?_
                rintro e w55 ⟨rfl, hb⟩
                refine ⟨_, rfl, ?_⟩
                have n0_ := Aside0.mk (Kd.R_below (by (with_reducible repeat (first | apply Kd.R_alloc | apply Kd.R_drewN | apply Kd.R_drew)); exact HO_324001.out) hb)
                have n1_ := Aside0.mk (Kd.R_below (by (with_reducible repeat (first | apply Kd.R_alloc | apply Kd.R_drewN | apply Kd.R_drew)); exact HO_324002.out) hb)
                have n2_ := Aside0.mk (Kd.R_below (by (with_reducible repeat (first | apply Kd.R_alloc | apply Kd.R_drewN | apply Kd.R_drew)); exact HO_333001.out) hb)
                have n3_ := Aside0.mk (Kd.R_below (by (with_reducible repeat (first | apply Kd.R_alloc | apply Kd.R_drewN | apply Kd.R_drew)); exact HO_333002.out) hb)
                have n4_ := Aside0.mk (blk_below (g := gb323) (o := .cells #[.int .i64 t315, .slice Ao12 t316.length co12, .slice Ao13 t319.length co13] 27 (0, 0)) (by (with_reducible repeat (first | refine blk_drewN ?_ _ | refine blk_drew ?_ | refine blk_alloc ?_ _)); exact BK323.out) hb)
                have n5_ := Aside0.mk (blk_below (g := gb332) (o := .cells #[.int .i64 t324, .slice Ao19 t325.length co19, .slice Ao20 t328.length co20] 27 (0, 0)) (by (with_reducible repeat (first | refine blk_drewN ?_ _ | refine blk_drew ?_ | refine blk_alloc ?_ _)); exact BK332.out) hb)
                have n6_ := Aside0.mk (IsS43.below (by repeat (first | (with_reducible first | exact HI312.out | apply IsS43.alloc | apply IsS43.drewN | apply IsS43.drew | apply IsS43.set_1 | refine IsS43.far ?_ NB312_323.out _ | refine IsS43.far ?_ NB312_332.out _) | exact HI312.out)) hb)
                have n7_ := Aside0.mk (below_step (by repeat (first | (with_reducible first | exact HB.out | apply below_alloc | apply pw_below_drewN | apply below_drew1 | refine below_set ?_ (IsS43.ge HI312.out) | refine below_set ?_ GE323.out | refine below_set ?_ GE332.out) | exact HB.out)) hb)
                clear HO_324001
                clear HO_324002
                clear HO_333001
                clear HO_333002
                clear BK323
                clear BK332
                clear HI312
                clear HB
                have HO_324001 := n0_
                have HO_324002 := n1_
                have HO_333001 := n2_
                have HO_333002 := n3_
                have BK323 := n4_
                have BK332 := n5_
                have HI312 := n6_
                have HB := n7_
                clear n0_ n1_ n2_ n3_ n4_ n5_ n6_ n7_
                (try clear hb)
                (try clear hb2)
                (try clear hk)
                (try clear hi)
                refine hK.out _ _ ⟨(blk_cell BK323.out 0).trans rfl, (blk_cell BK323.out 1).trans rfl, (blk_cell BK323.out 2).trans rfl, (blk_cell BK332.out 0).trans rfl, (blk_cell BK332.out 1).trans rfl, (blk_cell BK332.out 2).trans rfl⟩ (fun hHeld => ?_)
                clear hK K
                refine norm_ (a' := ?_) ?_ ?_
                rotate_left
                · show Act.put _ (some 64) _ = _
                  simp only [Act.put, List.setIfInBounds_toArray, List.set_cons_zero, List.set_cons_succ, i64_w, i32_w]
                  rfl
                refine pure_ (i := 26) (N := some 65) (v := ?_) (a' := ?_) #[true, true, true, true, true, true, true, true, true, true, true, true, true, true, true, true, true, true, true, true, true, true, true, true, true, true, true, false] rfl rfl (any_of HT_.out (by kernel_rfl)) (fun _ _ _ h => h) (Or.inl ⟨by rfl, ?_⟩) ?_ ?_
                rotate_left
                · intro w'
                  go_simp
                  with_reducible rfl
                rotate_left
                · simp only [Act.put, List.setIfInBounds_toArray, List.set_cons_zero, List.set_cons_succ, i64_w, i32_w]
                  rfl
                refine pure_ (i := 27) (N := some 2) (v := ?_) (a' := ?_) #[true, true, true, true, true, true, true, true, true, true, true, true, true, true, true, true, true, true, true, true, true, true, true, true, true, true, true, true] rfl rfl (any_of HT_.out (by kernel_rfl)) (fun _ _ _ h => h) (Or.inl ⟨by rfl, ?_⟩) ?_ ?_
                rotate_left
                · intro w'
                  go_simp
                  with_reducible rfl
                rotate_left
                · simp only [Act.put, List.setIfInBounds_toArray, List.set_cons_zero, List.set_cons_succ, i64_w, i32_w]
                  rfl
                refine done_ (done_of HT_.out (by kernel_rfl)) ?_
                try go_wp2
                go_ret
                exact ⟨by first | rfl | (simp [errW_none, errW_some] <;> rfl) | (simp [*, errW_none, errW_some] <;> rfl), by repeat (first | (with_reducible first | exact HB.out | apply below_alloc | apply pw_below_drewN | apply below_drew1 | refine below_set ?_ (IsS43.ge HI312.out) | refine below_set ?_ GE323.out | refine below_set ?_ GE332.out) | exact HB.out)⟩
              · rw [if_neg c45] at H
                have c45b0 : (t345 == 0) = false := beq_eq_false_iff_ne.mpr c45
                have c45b1 : (t345 != 0) = true := bne_iff_ne.mpr c45
                exact absurd ((Option.some.inj H).trans HRT.out) (by decide)
            · rw [if_neg c43] at H
              have c43b0 : (t343 == t344) = false := beq_eq_false_iff_ne.mpr c43
              have c43b1 : (t343 != t344) = true := bne_iff_ne.mpr c43
              exact absurd ((Option.some.inj H).trans HRT.out) (by decide)
          · rw [if_neg c40] at H
            have c40b0 : (t341 == t342) = false := beq_eq_false_iff_ne.mpr c40
            have c40b1 : (t341 != t342) = true := bne_iff_ne.mpr c40
            exact absurd ((Option.some.inj H).trans HRT.out) (by decide)
        · rw [if_neg c37] at H
          have c37b0 : (t339 == t340) = false := beq_eq_false_iff_ne.mpr c37
          have c37b1 : (t339 != t340) = true := bne_iff_ne.mpr c37
          exact absurd ((Option.some.inj H).trans HRT.out) (by decide)

/-- THE ONE PURE STATEMENT of trustquorumlaw02_ThresholdOrder: yours. -/
def trustquorumlaw02_ThresholdOrder.Pure : Prop := ∀ (l0 : List Int), l0.length ≤ maxLen → l0.length * 8 ≤ 140737488351232 → (∀ x ∈ l0, (Lit.int .i64 x).wf = true) → ∃ k, trustquorumlaw02_ThresholdOrder.f k l0 = some true
theorem trustquorumlaw02_ThresholdOrder.walk (P : trustquorumlaw02_ThresholdOrder.Pure) (a0 : Option Addr) (len0 cap0 : Nat) (z0 : List Int) (w : World) (w0 : (a0 = none ∧ len0 = 0 ∧ cap0 = 0 ∧ z0 = []) ∨ ∃ x, a0 = some x ∧ len0 ≤ cap0 ∧ cap0 ≤ maxLen ∧ z0.length = cap0 ∧ (∀ i, i < z0.length → w.cell? (x.add i) = some (.int .i64 (z0.getD i 0))) ∧ ∀ n ∈ z0, (Lit.int .i64 n).wf = true) (y0 : len0 * 8 ≤ 140737488351232) :
    Calls Try.prog 5 #[.slice a0 len0 cap0] w fun e w' => e = .returned (.bool true) ∧ Below w.heap.size w w' := by
  obtain ⟨l0, rfl, hr0, hm0, hw0, hc0⟩ := ReadsInt.ofRowC w0
  obtain ⟨k, h⟩ := P l0 hm0 y0 hw0
  refine (trustquorumlaw02_ThresholdOrder.calls k _ _ l0 true w (Kd.C_of_reads (d := (0 : Int)) (h1 := fun _ => rfl) hr0) hc0 ⟨rfl⟩ h).mono ?_
  rintro e w' ⟨rfl, hd⟩
  exact ⟨rfl, hd⟩

end Go.Proofs.Yteljoemeogeidaa.QThresholdOrder
