/- Lean functions that answer as the Go functions do which the law reaches, and proofs that the Go code comes to exactly these answers. Conditions: those that each theorem names. -/
import Derived.Test.YteljoemeogeidaaQThresholdMeetsx0
import Derived.Test.YteljoemeogeidaaQThresholdMeetsx1
import Derived.Test.YteljoemeogeidaaQThresholdMeetsx2
import Derived.Test.YteljoemeogeidaaQThresholdMeetsx4
import Derived.Test.YteljoemeogeidaaQThresholdMeetsx5
import Derived.Test.YteljoemeogeidaaQThresholdMeetsx7
namespace Go.Proofs.Yteljoemeogeidaa.QThresholdMeets
open Go.RowKit Go.Proofs.YteljoemeogeidaaW.PrintWords Go.Proofs.YteljoemeogeidaaW.PrintLast Go.Proofs.YteljoemeogeidaaW.PrintMore
attribute [local go_sem] max2_int min2_int max_two min_two max_three min_three max_four min_four   -- for this text's walks alone
set_option linter.unusedVariables false
set_option linter.unusedSimpArgs false

/-! ### trustquorumlaw02_ThresholdMeets: function 3 -/
mutual
def trustquorumlaw02_ThresholdMeets.j0 : Nat → Bool → List Int → Int → Int → List Int → List (S27) → Option (Bool)
  | 0, _, _, _, _, _, _ => none
  | k + 1, x29, x253000, x253001, x264000, x264001, x264002 => if x29 = true then (some false) else (trustquorumlaw02_ThresholdMeets.l0 k 0 x253000 x253001 x264000 x264001 x264002)
def trustquorumlaw02_ThresholdMeets.l0 : Nat → Int → List Int → Int → Int → List Int → List (S27) → Option (Bool)
  | 0, _, _, _, _, _, _ => none
  | k + 1, x5, x253000, x253001, x264000, x264001, x264002 => if x5 < 12 then ((trustquorummake_Tape_N.f x253000 x253001 1024).bind fun bt269 => ((trustquorummake_Tape_N.f x253000 bt269.2 1024).bind fun bt271 => ((threshold_Satisfied.f k x264000 x264001 x264002 bt269.1).bind fun t273 => (if t273 = true then ((threshold_Blocked.f k x264000 x264001 x264002 bt271.1).bind fun t274 => (if t274 = true then (trustquorumlaw02_ThresholdMeets.j2 k x5 bt269.1 ((Go.bits .and .i64 bt269.1 bt271.1) == 0) x253000 bt271.2 x264000 x264001 x264002) else (trustquorumlaw02_ThresholdMeets.j2 k x5 bt269.1 false x253000 bt271.2 x264000 x264001 x264002))) else (trustquorumlaw02_ThresholdMeets.j2 k x5 bt269.1 false x253000 bt271.2 x264000 x264001 x264002))))) else ((trustquorumlaw02_awake.f k).bind fun t268 => (some t268))
def trustquorumlaw02_ThresholdMeets.j2 : Nat → Int → Int → Bool → List Int → Int → Int → List Int → List (S27) → Option (Bool)
  | 0, _, _, _, _, _, _, _, _ => none
  | k + 1, x5, x6, x51, x253000, x253001, x264000, x264001, x264002 => if x51 = true then (some false) else ((threshold_Satisfied.f k x264000 x264001 x264002 x6).bind fun t275 => ((threshold_Blocked.f k x264000 x264001 x264002 (wrap64 (1023 - x6))).bind fun t276 => (if (t275 == t276) = true then (some false) else (trustquorumlaw02_ThresholdMeets.l0 k (wrap64 (x5 + 1)) x253000 x253001 x264000 x264001 x264002))))
end
def trustquorumlaw02_ThresholdMeets.f (k : Nat) (l0 : List Int) : Option (Bool) := (trustquorummake_New.f l0).bind fun bt250 => ((trustquorummake_Tape_Range.f bt250.1 bt250.2 1 10).bind fun bt253 => ((trustquorummake_Trust.f k bt250.1 bt253.2 bt253.1 4).bind fun bt255 => ((threshold_Satisfied.f k bt255.1 bt255.2.1 bt255.2.2.1 1023).bind fun t264 => (if t264 = true then ((threshold_Satisfied.f k bt255.1 bt255.2.1 bt255.2.2.1 0).bind fun t265 => (if t265 = true then (trustquorumlaw02_ThresholdMeets.j0 k true bt250.1 bt255.2.2.2 bt255.1 bt255.2.1 bt255.2.2.1) else ((threshold_Blocked.f k bt255.1 bt255.2.1 bt255.2.2.1 1023).bind fun t266 => (if t266 = true then ((threshold_Blocked.f k bt255.1 bt255.2.1 bt255.2.2.1 0).bind fun t267 => (trustquorumlaw02_ThresholdMeets.j0 k t267 bt250.1 bt255.2.2.2 bt255.1 bt255.2.1 bt255.2.2.1)) else (trustquorumlaw02_ThresholdMeets.j0 k true bt250.1 bt255.2.2.2 bt255.1 bt255.2.1 bt255.2.2.1))))) else (trustquorumlaw02_ThresholdMeets.j0 k true bt250.1 bt255.2.2.2 bt255.1 bt255.2.1 bt255.2.2.1)))))
theorem trustquorumlaw02_ThresholdMeets.mono_l : ∀ k, (∀ y0 y1 y2 y3 y4 y5, LeO (trustquorumlaw02_ThresholdMeets.j0 k y0 y1 y2 y3 y4 y5) (trustquorumlaw02_ThresholdMeets.j0 (k + 1) y0 y1 y2 y3 y4 y5)) ∧ (∀ y0 y1 y2 y3 y4 y5, LeO (trustquorumlaw02_ThresholdMeets.l0 k y0 y1 y2 y3 y4 y5) (trustquorumlaw02_ThresholdMeets.l0 (k + 1) y0 y1 y2 y3 y4 y5)) ∧ (∀ y0 y1 y2 y3 y4 y5 y6 y7, LeO (trustquorumlaw02_ThresholdMeets.j2 k y0 y1 y2 y3 y4 y5 y6 y7) (trustquorumlaw02_ThresholdMeets.j2 (k + 1) y0 y1 y2 y3 y4 y5 y6 y7))
  | 0 => ⟨fun _ _ _ _ _ _ r h => by simp [trustquorumlaw02_ThresholdMeets.j0] at h, fun _ _ _ _ _ _ r h => by simp [trustquorumlaw02_ThresholdMeets.l0] at h, fun _ _ _ _ _ _ _ _ r h => by simp [trustquorumlaw02_ThresholdMeets.j2] at h⟩
  | k + 1 => by
    obtain ⟨ih0, ih1, ih2⟩ := trustquorumlaw02_ThresholdMeets.mono_l k
    refine ⟨?_, ?_, ?_⟩
    · intro y0 y1 y2 y3 y4 y5
      unfold trustquorumlaw02_ThresholdMeets.j0
      repeat' first
      | (with_reducible exact ih0 _ _ _ _ _ _)
      | (with_reducible exact ih1 _ _ _ _ _ _)
      | (with_reducible exact ih2 _ _ _ _ _ _ _ _)
      | (with_reducible exact threshold_Blocked.mono _ _ _ _ _)
      | (with_reducible exact threshold_Satisfied.mono _ _ _ _ _)
      | (with_reducible exact trustquorumlaw02_awake.mono _)
      | (with_reducible exact trustquorummake_Trust.mono _ _ _ _ _)
      | (with_reducible exact LeO.refl _)
      | (with_reducible exact LeO.none _)
      | (with_reducible refine LeO.ite ?_ ?_)
      | (with_reducible refine LeO.bind ?_ (fun _ => ?_))
      | exact ih0 _ _ _ _ _ _
      | exact ih1 _ _ _ _ _ _
      | exact ih2 _ _ _ _ _ _ _ _
      | exact threshold_Blocked.mono _ _ _ _ _
      | exact threshold_Satisfied.mono _ _ _ _ _
      | exact trustquorumlaw02_awake.mono _
      | exact trustquorummake_Trust.mono _ _ _ _ _
      | exact LeO.none _
      | refine LeO.ite ?_ ?_
      | refine LeO.bind ?_ (fun _ => ?_)
    · intro y0 y1 y2 y3 y4 y5
      unfold trustquorumlaw02_ThresholdMeets.l0
      repeat' first
      | (with_reducible exact ih0 _ _ _ _ _ _)
      | (with_reducible exact ih1 _ _ _ _ _ _)
      | (with_reducible exact ih2 _ _ _ _ _ _ _ _)
      | (with_reducible exact threshold_Blocked.mono _ _ _ _ _)
      | (with_reducible exact threshold_Satisfied.mono _ _ _ _ _)
      | (with_reducible exact trustquorumlaw02_awake.mono _)
      | (with_reducible exact trustquorummake_Trust.mono _ _ _ _ _)
      | (with_reducible exact LeO.refl _)
      | (with_reducible exact LeO.none _)
      | (with_reducible refine LeO.ite ?_ ?_)
      | (with_reducible refine LeO.bind ?_ (fun _ => ?_))
      | exact ih0 _ _ _ _ _ _
      | exact ih1 _ _ _ _ _ _
      | exact ih2 _ _ _ _ _ _ _ _
      | exact threshold_Blocked.mono _ _ _ _ _
      | exact threshold_Satisfied.mono _ _ _ _ _
      | exact trustquorumlaw02_awake.mono _
      | exact trustquorummake_Trust.mono _ _ _ _ _
      | exact LeO.none _
      | refine LeO.ite ?_ ?_
      | refine LeO.bind ?_ (fun _ => ?_)
    · intro y0 y1 y2 y3 y4 y5 y6 y7
      unfold trustquorumlaw02_ThresholdMeets.j2
      repeat' first
      | (with_reducible exact ih0 _ _ _ _ _ _)
      | (with_reducible exact ih1 _ _ _ _ _ _)
      | (with_reducible exact ih2 _ _ _ _ _ _ _ _)
      | (with_reducible exact threshold_Blocked.mono _ _ _ _ _)
      | (with_reducible exact threshold_Satisfied.mono _ _ _ _ _)
      | (with_reducible exact trustquorumlaw02_awake.mono _)
      | (with_reducible exact trustquorummake_Trust.mono _ _ _ _ _)
      | (with_reducible exact LeO.refl _)
      | (with_reducible exact LeO.none _)
      | (with_reducible refine LeO.ite ?_ ?_)
      | (with_reducible refine LeO.bind ?_ (fun _ => ?_))
      | exact ih0 _ _ _ _ _ _
      | exact ih1 _ _ _ _ _ _
      | exact ih2 _ _ _ _ _ _ _ _
      | exact threshold_Blocked.mono _ _ _ _ _
      | exact threshold_Satisfied.mono _ _ _ _ _
      | exact trustquorumlaw02_awake.mono _
      | exact trustquorummake_Trust.mono _ _ _ _ _
      | exact LeO.none _
      | refine LeO.ite ?_ ?_
      | refine LeO.bind ?_ (fun _ => ?_)
theorem trustquorumlaw02_ThresholdMeets.mono : ∀ a0 k, LeO (trustquorumlaw02_ThresholdMeets.f k a0) (trustquorumlaw02_ThresholdMeets.f (k + 1) a0) := by
  intro a0 k
  obtain ⟨ih0, ih1, ih2⟩ := trustquorumlaw02_ThresholdMeets.mono_l k
  unfold trustquorumlaw02_ThresholdMeets.f
  repeat' first
      | (with_reducible exact ih0 _ _ _ _ _ _)
      | (with_reducible exact ih1 _ _ _ _ _ _)
      | (with_reducible exact ih2 _ _ _ _ _ _ _ _)
      | (with_reducible exact threshold_Blocked.mono _ _ _ _ _)
      | (with_reducible exact threshold_Satisfied.mono _ _ _ _ _)
      | (with_reducible exact trustquorumlaw02_awake.mono _)
      | (with_reducible exact trustquorummake_Trust.mono _ _ _ _ _)
      | (with_reducible exact LeO.refl _)
      | (with_reducible exact LeO.none _)
      | (with_reducible refine LeO.ite ?_ ?_)
      | (with_reducible refine LeO.bind ?_ (fun _ => ?_))
      | exact ih0 _ _ _ _ _ _
      | exact ih1 _ _ _ _ _ _
      | exact ih2 _ _ _ _ _ _ _ _
      | exact threshold_Blocked.mono _ _ _ _ _
      | exact threshold_Satisfied.mono _ _ _ _ _
      | exact trustquorumlaw02_awake.mono _
      | exact trustquorummake_Trust.mono _ _ _ _ _
      | exact LeO.none _
      | refine LeO.ite ?_ ?_
      | refine LeO.bind ?_ (fun _ => ?_)
def trustquorumlaw02_ThresholdMeets.T11 : Bool × List (List Nat × List Nat) := (true, [([], []), ([], []), ([0, 1], [0, 1]), ([], []), ([], []), ([4], [4]), ([3, 5, 2], [3, 5]), ([2, 6], [2, 6])])
def trustquorumlaw02_ThresholdMeets.B11 : List Nat := [0, 0, 3, 0, 0, 16, 63, 127]
theorem trustquorumlaw02_ThresholdMeets.tab11 : rtab .any (opsOf Try.f3 11) = trustquorumlaw02_ThresholdMeets.T11 := by kernel_rfl
theorem trustquorumlaw02_ThresholdMeets.bits11 : waitsOk trustquorumlaw02_ThresholdMeets.T11.2 trustquorumlaw02_ThresholdMeets.B11 = true := by kernel_rfl
set_option maxHeartbeats 8000000 in
set_option maxRecDepth 100000 in
theorem trustquorumlaw02_ThresholdMeets.calls (k : Nat) (A0 : Option Addr) (c0 : Nat) (l0 : List Int) (r : Bool) (w : World) (hr0 : Kd.C (Kd.int .i64) w A0 l0.length l0) (hc0 : l0.length ≤ c0) (h : trustquorumlaw02_ThresholdMeets.f k l0 = some r) :
    Calls Try.prog 3 #[.slice A0 l0.length c0] w fun e w' => e = .returned (.bool r) ∧ Below w.heap.size w w' := by
  have hu27 := Try.underlying27
  have HR0 := Aside0.mk hr0
  have HC0 := Aside0.mk hc0
  clear hr0 hc0
  have HB := Aside0.mk (Below.refl w.heap.size w)
  have H : ((trustquorummake_New.f l0).bind fun bt250 => ((trustquorummake_Tape_Range.f bt250.1 bt250.2 1 10).bind fun bt253 => ((trustquorummake_Trust.f k bt250.1 bt253.2 bt253.1 4).bind fun bt255 => ((threshold_Satisfied.f k bt255.1 bt255.2.1 bt255.2.2.1 1023).bind fun t264 => (if t264 = true then ((threshold_Satisfied.f k bt255.1 bt255.2.1 bt255.2.2.1 0).bind fun t265 => (if t265 = true then (trustquorumlaw02_ThresholdMeets.j0 k true bt250.1 bt255.2.2.2 bt255.1 bt255.2.1 bt255.2.2.1) else ((threshold_Blocked.f k bt255.1 bt255.2.1 bt255.2.2.1 1023).bind fun t266 => (if t266 = true then ((threshold_Blocked.f k bt255.1 bt255.2.1 bt255.2.2.1 0).bind fun t267 => (trustquorumlaw02_ThresholdMeets.j0 k t267 bt250.1 bt255.2.2.2 bt255.1 bt255.2.1 bt255.2.2.1)) else (trustquorumlaw02_ThresholdMeets.j0 k true bt250.1 bt255.2.2.2 bt255.1 bt255.2.1 bt255.2.2.1))))) else (trustquorumlaw02_ThresholdMeets.j0 k true bt250.1 bt255.2.2.2 bt255.1 bt255.2.1 bt255.2.2.1)))))) = some r := h
  clear h
  replace H := Option.bind_eq_some_iff.mp H
  obtain ⟨⟨t250, t251⟩, A20, H⟩ := H
  replace H : ((trustquorummake_Tape_Range.f t250 t251 1 10).bind fun bt253 => ((trustquorummake_Trust.f k t250 bt253.2 bt253.1 4).bind fun bt255 => ((threshold_Satisfied.f k bt255.1 bt255.2.1 bt255.2.2.1 1023).bind fun t264 => (if t264 = true then ((threshold_Satisfied.f k bt255.1 bt255.2.1 bt255.2.2.1 0).bind fun t265 => (if t265 = true then (trustquorumlaw02_ThresholdMeets.j0 k true t250 bt255.2.2.2 bt255.1 bt255.2.1 bt255.2.2.1) else ((threshold_Blocked.f k bt255.1 bt255.2.1 bt255.2.2.1 1023).bind fun t266 => (if t266 = true then ((threshold_Blocked.f k bt255.1 bt255.2.1 bt255.2.2.1 0).bind fun t267 => (trustquorumlaw02_ThresholdMeets.j0 k t267 t250 bt255.2.2.2 bt255.1 bt255.2.1 bt255.2.2.1)) else (trustquorumlaw02_ThresholdMeets.j0 k true t250 bt255.2.2.2 bt255.1 bt255.2.1 bt255.2.2.1))))) else (trustquorumlaw02_ThresholdMeets.j0 k true t250 bt255.2.2.2 bt255.1 bt255.2.1 bt255.2.2.1))))) = some r := H
  have A2 := Aside0.mk A20
  clear A20
  replace H := Option.bind_eq_some_iff.mp H
  obtain ⟨⟨t253, t254⟩, A30, H⟩ := H
  replace H : ((trustquorummake_Trust.f k t250 t254 t253 4).bind fun bt255 => ((threshold_Satisfied.f k bt255.1 bt255.2.1 bt255.2.2.1 1023).bind fun t264 => (if t264 = true then ((threshold_Satisfied.f k bt255.1 bt255.2.1 bt255.2.2.1 0).bind fun t265 => (if t265 = true then (trustquorumlaw02_ThresholdMeets.j0 k true t250 bt255.2.2.2 bt255.1 bt255.2.1 bt255.2.2.1) else ((threshold_Blocked.f k bt255.1 bt255.2.1 bt255.2.2.1 1023).bind fun t266 => (if t266 = true then ((threshold_Blocked.f k bt255.1 bt255.2.1 bt255.2.2.1 0).bind fun t267 => (trustquorumlaw02_ThresholdMeets.j0 k t267 t250 bt255.2.2.2 bt255.1 bt255.2.1 bt255.2.2.1)) else (trustquorumlaw02_ThresholdMeets.j0 k true t250 bt255.2.2.2 bt255.1 bt255.2.1 bt255.2.2.1))))) else (trustquorumlaw02_ThresholdMeets.j0 k true t250 bt255.2.2.2 bt255.1 bt255.2.1 bt255.2.2.1)))) = some r := H
  have A3 := Aside0.mk A30
  clear A30
  replace H := Option.bind_eq_some_iff.mp H
  obtain ⟨⟨t255, t256, t259, t262⟩, A40, H⟩ := H
  replace H : ((threshold_Satisfied.f k t255 t256 t259 1023).bind fun t264 => (if t264 = true then ((threshold_Satisfied.f k t255 t256 t259 0).bind fun t265 => (if t265 = true then (trustquorumlaw02_ThresholdMeets.j0 k true t250 t262 t255 t256 t259) else ((threshold_Blocked.f k t255 t256 t259 1023).bind fun t266 => (if t266 = true then ((threshold_Blocked.f k t255 t256 t259 0).bind fun t267 => (trustquorumlaw02_ThresholdMeets.j0 k t267 t250 t262 t255 t256 t259)) else (trustquorumlaw02_ThresholdMeets.j0 k true t250 t262 t255 t256 t259))))) else (trustquorumlaw02_ThresholdMeets.j0 k true t250 t262 t255 t256 t259))) = some r := H
  have A4 := Aside0.mk A40
  clear A40
  have HC5 := Aside0.mk H
  clear H
  go_enter Try.func3, Try.ntmps3
  go_upto_region 3 with (first | ((with_reducible refine gate_callee (f := 8) rfl ?_); refine goesL_ (some 9) rfl rfl Try.func8 (by kernel_rfl) rfl #[.slice A0 l0.length c0] rfl (by (try simp only [List.map_toArray, List.map_cons, List.map_nil]); first | done | rfl | (simp only [List.length_drop, List.length_take]; rfl)) ?_; (with_reducible refine (trustquorummake_New.calls _ _ l0 t250 t251 w _ ?side1 ?side2 ?side3 A2.out).mono ?_); (case side1 => repeat (first | (with_reducible first | exact HB.out | apply below_alloc | apply pw_below_drewN | apply below_drew1) | exact HB.out)); (case side2 => exact HR0.out); (case side3 => exact HC0.out); rintro e w6 ⟨g252, rfl, hi, hb, hb2⟩; refine ⟨_, rfl, ?_⟩; have n0_ := Aside0.mk (hb); have n1_ := Aside0.mk (hi); clear HB; have HB := n0_; have HI252 := n1_; clear n0_ n1_; (try clear hb); (try clear hb2); (try clear hk); (try clear hi)) | ((with_reducible refine gate_callee (f := 10) rfl ?_); refine goesL_ (some 12) rfl rfl Try.func10 (by kernel_rfl) rfl #[.pointer (some ⟨g252, 0, none⟩), .int .i64 1, .int .i64 10] rfl (by (try simp only [List.map_toArray, List.map_cons, List.map_nil]); first | done | rfl | (simp only [List.length_drop, List.length_take]; rfl)) ?_; (with_reducible refine (trustquorummake_Tape_Range.calls g252 t250 t251 1 10 t253 t254 w _ ?side1 ?side2 A3.out).mono ?_); (case side1 => repeat (first | (with_reducible first | exact HI252.out | apply IsS43.alloc | apply IsS43.drewN | apply IsS43.drew | apply IsS43.set_1) | exact HI252.out)); (case side2 => repeat (first | (with_reducible first | exact HB.out | apply below_alloc | apply pw_below_drewN | apply below_drew1 | refine below_set ?_ (IsS43.ge HI252.out)) | exact HB.out)); rintro e w7 ⟨rfl, hi, hb, hk⟩; refine ⟨_, rfl, ?_⟩; have n0_ := Aside0.mk (hb); have n1_ := Aside0.mk (hi); clear HB; clear HI252; have HB := n0_; have HI252 := n1_; clear n0_ n1_; (try clear hb); (try clear hb2); (try clear hk); (try clear hi)) | ((with_reducible refine gate_callee (f := 9) rfl ?_); refine goesL_ (some 13) rfl rfl Try.func9 (by kernel_rfl) rfl #[.pointer (some ⟨g252, 0, none⟩), .int .i64 t253, .int .i64 4] rfl (by (try simp only [List.map_toArray, List.map_cons, List.map_nil]); first | done | rfl | (simp only [List.length_drop, List.length_take]; rfl)) ?_; (with_reducible refine (trustquorummake_Trust.calls k g252 t250 t254 t253 4 t255 t256 t259 t262 w _ ?side1 ?side2 A4.out).mono ?_); (case side1 => repeat (first | (with_reducible first | exact HI252.out | apply IsS43.alloc | apply IsS43.drewN | apply IsS43.drew | apply IsS43.set_1) | exact HI252.out)); (case side2 => repeat (first | (with_reducible first | exact HB.out | apply below_alloc | apply pw_below_drewN | apply below_drew1 | refine below_set ?_ (IsS43.ge HI252.out)) | exact HB.out)); rintro e w8 ⟨v257, v260, rfl, ho0, ho1, hi, hb, hk⟩; refine ⟨_, rfl, ?_⟩; have n0_ := Aside0.mk (Kd.R_lower ho0 (below_size (by repeat (first | (with_reducible first | exact HB.out | apply below_alloc | apply pw_below_drewN | apply below_drew1 | refine below_set ?_ (IsS43.ge HI252.out)) | exact HB.out)))); have n1_ := Aside0.mk (Kd.R_lower ho1 (below_size (by repeat (first | (with_reducible first | exact HB.out | apply below_alloc | apply pw_below_drewN | apply below_drew1 | refine below_set ?_ (IsS43.ge HI252.out)) | exact HB.out)))); have n2_ := Aside0.mk (hb); have n3_ := Aside0.mk (hi); clear HB; clear HI252; have HO258 := n0_; have HO261 := n1_; have HB := n2_; have HI252 := n3_; clear n0_ n1_ n2_ n3_; (try clear hb); (try clear hb2); (try clear hk); (try clear hi); (try clear ho0); (try clear ho1)) | ((with_reducible refine gate_dst (N := 4) rfl ?_); refine box_event ?hg (N := 4) ?hd (cs := #[.int .i64 0, .slice none 0 0, .slice none 0 0]) (t := 27) ?hr ?_; (case hd => rfl); (case hg => rfl); (case hr => first | (go_simp; done) | (go_simp; rfl)); intro gb263 hg w9 hbox hb; have n0_ := Aside0.mk (Kd.R_below (by (with_reducible repeat (first | apply Kd.R_alloc | apply Kd.R_drewN | apply Kd.R_drew)); exact HO258.out) hb); have n1_ := Aside0.mk (Kd.R_below (Kd.R_elderB (by (with_reducible repeat (first | apply Kd.R_alloc | apply Kd.R_drewN | apply Kd.R_drew)); exact HO261.out) gb263 (Nat.le_of_eq hg.symm)) hb); have n2_ := Aside0.mk (IsS43.below (by repeat (first | (with_reducible first | exact HI252.out | apply IsS43.alloc | apply IsS43.drewN | apply IsS43.drew | apply IsS43.set_1) | exact HI252.out)) hb); have n3_ := Aside0.mk (below_step (by repeat (first | (with_reducible first | exact HB.out | apply below_alloc | apply pw_below_drewN | apply below_drew1 | refine below_set ?_ (IsS43.ge HI252.out)) | exact HB.out)) hb); have n4_ := Aside0.mk (hbox); have n5_ := Aside0.mk ((by rw [hg]; exact (below_size (by repeat (first | (with_reducible first | exact HB.out | apply below_alloc | apply pw_below_drewN | apply below_drew1 | refine below_set ?_ (IsS43.ge HI252.out)) | exact HB.out))) : w.heap.size ≤ gb263)); have n6_ := Aside0.mk ((by rw [hg]; exact (below_size (by repeat (first | (with_reducible first | exact HB.out | apply below_alloc | apply pw_below_drewN | apply below_drew1 | refine below_set ?_ (IsS43.ge HI252.out)) | exact HB.out))) : w.heap.size ≤ gb263)); have n7_ := Aside0.mk ((by rw [hg]; exact Nat.ne_of_lt (IsS43.lt (show IsS43 w _ g252 t250 t262 from by repeat (first | (with_reducible first | exact HI252.out | apply IsS43.alloc | apply IsS43.drewN | apply IsS43.drew | apply IsS43.set_1) | exact HI252.out))) : g252 ≠ gb263)); have n8_ := Aside0.mk ((by rw [hg]; exact Nat.ne_of_gt (IsS43.lt (show IsS43 w _ g252 t250 t262 from by repeat (first | (with_reducible first | exact HI252.out | apply IsS43.alloc | apply IsS43.drewN | apply IsS43.drew | apply IsS43.set_1) | exact HI252.out))) : gb263 ≠ g252)); clear HO258; clear HO261; clear HI252; clear HB; have HO258 := n0_; have HO261 := n1_; have HI252 := n2_; have HB := n3_; have BK263 := n4_; have GW263 := n5_; have GE263 := n6_; have NB252_263 := n7_; have NB263_252 := n8_; clear n0_ n1_ n2_ n3_ n4_ n5_ n6_ n7_ n8_; clear hb hbox hg; have hnb10 := NB263_252.out; have hnc10 := NB252_263.out; have hcz11_0 : w9.cell? ⟨gb263, 0, none⟩ = some (.int .i64 0) := (blk_cell BK263.out 0).trans rfl; have hcz11_1 : w9.cell? ⟨gb263, 1, none⟩ = some (.slice none 0 0) := (blk_cell BK263.out 1).trans rfl; have hcz11_2 : w9.cell? ⟨gb263, 2, none⟩ = some (.slice none 0 0) := (blk_cell BK263.out 2).trans rfl; have hfz11_0 := blk_frozen BK263.out 0; have hfz11_1 := blk_frozen BK263.out 1; have hfz11_2 := blk_frozen BK263.out 2; obtain ⟨Ao12, co12, eo12⟩ := Kd.R_slice HO258.out; subst eo12; obtain ⟨Ao13, co13, eo13⟩ := Kd.R_slice HO261.out; subst eo13))
  (try simp only [Act.put, List.setIfInBounds_toArray, List.set_cons_zero, List.set_cons_succ])
  go_cut [29] (fun v29 wc => ∃ (kq : Nat) (x29_4 : Bool), v29 = .bool x29_4 ∧ Aside0 (trustquorumlaw02_ThresholdMeets.j0 kq x29_4 t250 t262 t255 t256 t259 = some r) ∧ Aside0 (kq ≤ k) ∧ Aside0 (Kd.R (Kd.int .i64) 3 wc w.heap.size (fun _ => True) (.slice Ao12 t256.length co12) t256) ∧ Aside0 (Kd.R k27 27 wc w.heap.size (fun k_ => some k_ ≠ ((.slice Ao12 t256.length co12) : Value).ownBlock ∧ k_ ≠ gb263) (.slice Ao13 t259.length co13) t259) ∧ Aside0 (wc.heap[gb263]? = some (.cells #[.int .i64 t255, (.slice Ao12 t256.length co12), (.slice Ao13 t259.length co13)] 27 (0, 0))) ∧ Aside0 (IsS43 w wc g252 t250 t262) ∧ Aside0 (Below w.heap.size w wc))
  case first =>
    have H := HC5.out
    clear HC5
    replace H := Option.bind_eq_some_iff.mp H
    obtain ⟨t264, A140, H⟩ := H
    replace H : (if t264 = true then ((threshold_Satisfied.f k t255 t256 t259 0).bind fun t265 => (if t265 = true then (trustquorumlaw02_ThresholdMeets.j0 k true t250 t262 t255 t256 t259) else ((threshold_Blocked.f k t255 t256 t259 1023).bind fun t266 => (if t266 = true then ((threshold_Blocked.f k t255 t256 t259 0).bind fun t267 => (trustquorumlaw02_ThresholdMeets.j0 k t267 t250 t262 t255 t256 t259)) else (trustquorumlaw02_ThresholdMeets.j0 k true t250 t262 t255 t256 t259))))) else (trustquorumlaw02_ThresholdMeets.j0 k true t250 t262 t255 t256 t259)) = some r := H
    have A14 := Aside0.mk A140
    clear A140
    by_cases c15 : t264 = true
    · subst c15
      have H1 : ((threshold_Satisfied.f k t255 t256 t259 0).bind fun t265 => (if t265 = true then (trustquorumlaw02_ThresholdMeets.j0 k true t250 t262 t255 t256 t259) else ((threshold_Blocked.f k t255 t256 t259 1023).bind fun t266 => (if t266 = true then ((threshold_Blocked.f k t255 t256 t259 0).bind fun t267 => (trustquorumlaw02_ThresholdMeets.j0 k t267 t250 t262 t255 t256 t259)) else (trustquorumlaw02_ThresholdMeets.j0 k true t250 t262 t255 t256 t259))))) = some r := by rw [if_pos rfl] at H; exact H
      clear H
      have H := H1
      clear H1
      replace H := Option.bind_eq_some_iff.mp H
      obtain ⟨t265, A160, H⟩ := H
      replace H : (if t265 = true then (trustquorumlaw02_ThresholdMeets.j0 k true t250 t262 t255 t256 t259) else ((threshold_Blocked.f k t255 t256 t259 1023).bind fun t266 => (if t266 = true then ((threshold_Blocked.f k t255 t256 t259 0).bind fun t267 => (trustquorumlaw02_ThresholdMeets.j0 k t267 t250 t262 t255 t256 t259)) else (trustquorumlaw02_ThresholdMeets.j0 k true t250 t262 t255 t256 t259)))) = some r := H
      have A16 := Aside0.mk A160
      clear A160
      by_cases c17 : t265 = true
      · subst c17
        have H1 : (trustquorumlaw02_ThresholdMeets.j0 k true t250 t262 t255 t256 t259) = some r := by rw [if_pos rfl] at H; exact H
        clear H
        have H := H1
        clear H1
        have H' := Aside0.mk H
        clear H
        have hnb18 := NB263_252.out
        have hnc18 := NB252_263.out
        have hcz19_0 : w9.cell? ⟨gb263, 0, none⟩ = some (.int .i64 0) := (blk_cell BK263.out 0).trans rfl
        have hcz19_1 : w9.cell? ⟨gb263, 1, none⟩ = some (.slice none 0 0) := (blk_cell BK263.out 1).trans rfl
        have hcz19_2 : w9.cell? ⟨gb263, 2, none⟩ = some (.slice none 0 0) := (blk_cell BK263.out 2).trans rfl
        have hfz19_0 := blk_frozen BK263.out 0
        have hfz19_1 := blk_frozen BK263.out 1
        have hfz19_2 := blk_frozen BK263.out 2
        go_wp2_with (first | ((with_reducible refine gate_callee (f := 11) rfl ?_); refine goesL_ (some 15) rfl rfl Try.func11 (by kernel_rfl) rfl #[.agg #[.int .i64 t255, .slice Ao12 t256.length co12, .slice Ao13 t259.length co13], .int .i64 1023] rfl (by (try simp only [List.map_toArray, List.map_cons, List.map_nil]); first | done | rfl | (simp only [List.length_drop, List.length_take]; rfl)) ?_; (with_reducible refine (threshold_Satisfied.calls k t255 _ _ t256 _ _ t259 1023 true _ ?side1 ?side2 ?side3 ?side4 A14.out).mono ?_); (case side1 => refine (Kd.R_reads' (e := 3) (base := w.heap.size) (ok := fun k_ => True) (n := t256.length) (c := co12) ?_).2.2; exact (by (with_reducible repeat (first | apply Kd.R_alloc | apply Kd.R_drewN | apply Kd.R_drew)); exact (Kd.R_mono (Kd.R_far (p := ⟨gb263, 2, none⟩) (Kd.R_far (p := ⟨gb263, 1, none⟩) (Kd.R_far (p := ⟨gb263, 0, none⟩) (Kd.R_types HO258.out BK263.out (by decide)) (fun _ hk => hk.2) (.int .i64 t255)) (fun _ hk => hk.2) (.slice Ao12 t256.length co12)) (fun _ hk => hk.2) (.slice Ao13 t259.length co13)) (fun _ h_ => h_.1)))); (case side2 => exact (Kd.R_reads' HO258.out).2.1); (case side3 => refine (Kd.R_reads' (e := 27) (base := w.heap.size) (ok := fun k_ => (some k_ ≠ (.slice Ao12 t256.length co12 : Value).ownBlock ∧ k_ ≠ gb263)) (n := t259.length) (c := co13) ?_).2.2; exact (by (with_reducible repeat (first | apply Kd.R_alloc | apply Kd.R_drewN | apply Kd.R_drew)); exact (Kd.R_mono (Kd.R_far (p := ⟨gb263, 2, none⟩) (Kd.R_far (p := ⟨gb263, 1, none⟩) (Kd.R_far (p := ⟨gb263, 0, none⟩) (Kd.R_mono HO261.out (fun k_ hk => (⟨hk, hk.2⟩ : _ ∧ k_ ≠ gb263))) (fun _ hk => hk.2) (.int .i64 t255)) (fun _ hk => hk.2) (.slice Ao12 t256.length co12)) (fun _ hk => hk.2) (.slice Ao13 t259.length co13)) (fun _ h_ => h_.1)))); (case side4 => exact (Kd.R_reads' HO261.out).2.1); rintro e w20 ⟨rfl, hb⟩; refine ⟨_, rfl, ?_⟩; have n0_ := Aside0.mk (Kd.R_below (by (with_reducible repeat (first | apply Kd.R_alloc | apply Kd.R_drewN | apply Kd.R_drew)); exact (Kd.R_mono (Kd.R_far (p := ⟨gb263, 2, none⟩) (Kd.R_far (p := ⟨gb263, 1, none⟩) (Kd.R_far (p := ⟨gb263, 0, none⟩) (Kd.R_types HO258.out BK263.out (by decide)) (fun _ hk => hk.2) (.int .i64 t255)) (fun _ hk => hk.2) (.slice Ao12 t256.length co12)) (fun _ hk => hk.2) (.slice Ao13 t259.length co13)) (fun _ h_ => h_.1))) hb); have n1_ := Aside0.mk (Kd.R_below (by (with_reducible repeat (first | apply Kd.R_alloc | apply Kd.R_drewN | apply Kd.R_drew)); exact (Kd.R_mono (Kd.R_far (p := ⟨gb263, 2, none⟩) (Kd.R_far (p := ⟨gb263, 1, none⟩) (Kd.R_far (p := ⟨gb263, 0, none⟩) (Kd.R_mono HO261.out (fun k_ hk => (⟨hk, hk.2⟩ : _ ∧ k_ ≠ gb263))) (fun _ hk => hk.2) (.int .i64 t255)) (fun _ hk => hk.2) (.slice Ao12 t256.length co12)) (fun _ hk => hk.2) (.slice Ao13 t259.length co13)) (fun _ h_ => h_.1))) hb); have n2_ := Aside0.mk (IsS43.below (show IsS43 w (((w9.setCell ⟨gb263, 0, none⟩ (.int .i64 t255)).setCell ⟨gb263, 1, none⟩ (.slice Ao12 t256.length co12)).setCell ⟨gb263, 2, none⟩ (.slice Ao13 t259.length co13)) g252 t250 t262 from by repeat (first | (with_reducible first | exact HI252.out | apply IsS43.alloc | apply IsS43.drewN | apply IsS43.drew | apply IsS43.set_1 | refine IsS43.far ?_ NB252_263.out _) | exact HI252.out)) hb); have n3_ := Aside0.mk (blk_below (g := gb263) (o := .cells #[.int .i64 t255, .slice Ao12 t256.length co12, .slice Ao13 t259.length co13] 27 (0, 0)) (by (with_reducible repeat (first | refine blk_drewN ?_ _ | refine blk_drew ?_ | refine blk_alloc ?_ _)); refine blk_put (cs := #[.int .i64 t255, .slice Ao12 t256.length co12, .slice none 0 0]) ?_ 2 _ rfl; (with_reducible repeat (first | refine blk_drewN ?_ _ | refine blk_drew ?_ | refine blk_alloc ?_ _)); refine blk_put (cs := #[.int .i64 t255, .slice none 0 0, .slice none 0 0]) ?_ 1 _ rfl; (with_reducible repeat (first | refine blk_drewN ?_ _ | refine blk_drew ?_ | refine blk_alloc ?_ _)); refine blk_put (cs := #[.int .i64 0, .slice none 0 0, .slice none 0 0]) ?_ 0 _ rfl; (with_reducible repeat (first | refine blk_drewN ?_ _ | refine blk_drew ?_ | refine blk_alloc ?_ _)); exact BK263.out) hb); have n4_ := Aside0.mk (below_step (by repeat (first | (with_reducible first | exact HB.out | apply below_alloc | apply pw_below_drewN | apply below_drew1 | refine below_set ?_ (IsS43.ge HI252.out) | refine below_set ?_ GE263.out) | exact HB.out)) hb); clear HO258; clear HO261; clear HI252; clear BK263; clear HB; have HO258 := n0_; have HO261 := n1_; have HI252 := n2_; have BK263 := n3_; have HB := n4_; clear n0_ n1_ n2_ n3_ n4_; (try clear hb); (try clear hb2); (try clear hk); (try clear hi); have hcz21_0 : w20.cell? ⟨gb263, 0, none⟩ = some (.int .i64 t255) := (blk_cell BK263.out 0).trans rfl; have hcz21_1 : w20.cell? ⟨gb263, 1, none⟩ = some (.slice Ao12 t256.length co12) := (blk_cell BK263.out 1).trans rfl; have hcz21_2 : w20.cell? ⟨gb263, 2, none⟩ = some (.slice Ao13 t259.length co13) := (blk_cell BK263.out 2).trans rfl; have hfz21_0 := blk_frozen BK263.out 0; have hfz21_1 := blk_frozen BK263.out 1; have hfz21_2 := blk_frozen BK263.out 2) | (go_at_call 11; (with_reducible refine (threshold_Satisfied.calls k t255 _ _ t256 _ _ t259 0 true _ ?side1 ?side2 ?side3 ?side4 A16.out).mono ?_); (case side1 => repeat (first | exact (Kd.R_reads' HO258.out).2.2 | (with_reducible refine Kd.C_alloc ?_ _) | (with_reducible refine Kd.C_drewN ?_ _) | (with_reducible refine Kd.C_drew ?_))); (case side2 => exact (Kd.R_reads' HO258.out).2.1); (case side3 => repeat (first | exact (Kd.R_reads' HO261.out).2.2 | (with_reducible refine Kd.C_alloc ?_ _) | (with_reducible refine Kd.C_drewN ?_ _) | (with_reducible refine Kd.C_drew ?_))); (case side4 => exact (Kd.R_reads' HO261.out).2.1); rintro e w22 ⟨rfl, hb⟩; have n0_ := Aside0.mk (Kd.R_below (by (with_reducible repeat (first | apply Kd.R_alloc | apply Kd.R_drewN | apply Kd.R_drew)); exact HO258.out) hb); have n1_ := Aside0.mk (Kd.R_below (by (with_reducible repeat (first | apply Kd.R_alloc | apply Kd.R_drewN | apply Kd.R_drew)); exact HO261.out) hb); have n2_ := Aside0.mk (IsS43.below (by repeat (first | (with_reducible first | exact HI252.out | apply IsS43.alloc | apply IsS43.drewN | apply IsS43.drew | apply IsS43.set_1 | refine IsS43.far ?_ NB252_263.out _) | exact HI252.out)) hb); have n3_ := Aside0.mk (blk_below (g := gb263) (o := .cells #[.int .i64 t255, .slice Ao12 t256.length co12, .slice Ao13 t259.length co13] 27 (0, 0)) (by (with_reducible repeat (first | refine blk_drewN ?_ _ | refine blk_drew ?_ | refine blk_alloc ?_ _)); exact BK263.out) hb); have n4_ := Aside0.mk (below_step (by repeat (first | (with_reducible first | exact HB.out | apply below_alloc | apply pw_below_drewN | apply below_drew1 | refine below_set ?_ (IsS43.ge HI252.out) | refine below_set ?_ GE263.out) | exact HB.out)) hb); clear HO258; clear HO261; clear HI252; clear BK263; clear HB; have HO258 := n0_; have HO261 := n1_; have HI252 := n2_; have BK263 := n3_; have HB := n4_; clear n0_ n1_ n2_ n3_ n4_; (try clear hb); (try clear hb2); (try clear hk); (try clear hi)))
        go_meet
        case rel => exact ⟨_, (true), (by first | rfl | (simp; done) | (simp [*]; done)), H', ⟨by first | omega | exact Nat.le_refl _⟩, ⟨by (with_reducible repeat (first | apply Kd.R_alloc | apply Kd.R_drewN | apply Kd.R_drew)); exact HO258.out⟩, ⟨by (with_reducible repeat (first | apply Kd.R_alloc | apply Kd.R_drewN | apply Kd.R_drew)); exact HO261.out⟩, ⟨by (with_reducible repeat (first | refine blk_drewN ?_ _ | refine blk_drew ?_ | refine blk_alloc ?_ _)); exact BK263.out⟩, ⟨by repeat (first | (with_reducible first | exact HI252.out | apply IsS43.alloc | apply IsS43.drewN | apply IsS43.drew | apply IsS43.set_1 | refine IsS43.far ?_ NB252_263.out _) | exact HI252.out)⟩, ⟨by repeat (first | (with_reducible first | exact HB.out | apply below_alloc | apply pw_below_drewN | apply below_drew1 | refine below_set ?_ (IsS43.ge HI252.out) | refine below_set ?_ GE263.out) | exact HB.out)⟩⟩
      · replace c17 := Bool.eq_false_iff.mpr c17
        subst c17
        have H1 : ((threshold_Blocked.f k t255 t256 t259 1023).bind fun t266 => (if t266 = true then ((threshold_Blocked.f k t255 t256 t259 0).bind fun t267 => (trustquorumlaw02_ThresholdMeets.j0 k t267 t250 t262 t255 t256 t259)) else (trustquorumlaw02_ThresholdMeets.j0 k true t250 t262 t255 t256 t259))) = some r := by rw [if_neg (show ¬ (false = true) by decide)] at H; exact H
        clear H
        have H := H1
        clear H1
        replace H := Option.bind_eq_some_iff.mp H
        obtain ⟨t266, A230, H⟩ := H
        replace H : (if t266 = true then ((threshold_Blocked.f k t255 t256 t259 0).bind fun t267 => (trustquorumlaw02_ThresholdMeets.j0 k t267 t250 t262 t255 t256 t259)) else (trustquorumlaw02_ThresholdMeets.j0 k true t250 t262 t255 t256 t259)) = some r := H
        have A23 := Aside0.mk A230
        clear A230
        by_cases c24 : t266 = true
        · subst c24
          have H1 : ((threshold_Blocked.f k t255 t256 t259 0).bind fun t267 => (trustquorumlaw02_ThresholdMeets.j0 k t267 t250 t262 t255 t256 t259)) = some r := by rw [if_pos rfl] at H; exact H
          clear H
          have H := H1
          clear H1
          replace H := Option.bind_eq_some_iff.mp H
          obtain ⟨t267, A250, H⟩ := H
          replace H : (trustquorumlaw02_ThresholdMeets.j0 k t267 t250 t262 t255 t256 t259) = some r := H
          have A25 := Aside0.mk A250
          clear A250
          have H' := Aside0.mk H
          clear H
          have hnb26 := NB263_252.out
          have hnc26 := NB252_263.out
          have hcz27_0 : w9.cell? ⟨gb263, 0, none⟩ = some (.int .i64 0) := (blk_cell BK263.out 0).trans rfl
          have hcz27_1 : w9.cell? ⟨gb263, 1, none⟩ = some (.slice none 0 0) := (blk_cell BK263.out 1).trans rfl
          have hcz27_2 : w9.cell? ⟨gb263, 2, none⟩ = some (.slice none 0 0) := (blk_cell BK263.out 2).trans rfl
          have hfz27_0 := blk_frozen BK263.out 0
          have hfz27_1 := blk_frozen BK263.out 1
          have hfz27_2 := blk_frozen BK263.out 2
          go_wp2_with (first | ((with_reducible refine gate_callee (f := 11) rfl ?_); refine goesL_ (some 15) rfl rfl Try.func11 (by kernel_rfl) rfl #[.agg #[.int .i64 t255, .slice Ao12 t256.length co12, .slice Ao13 t259.length co13], .int .i64 1023] rfl (by (try simp only [List.map_toArray, List.map_cons, List.map_nil]); first | done | rfl | (simp only [List.length_drop, List.length_take]; rfl)) ?_; (with_reducible refine (threshold_Satisfied.calls k t255 _ _ t256 _ _ t259 1023 true _ ?side1 ?side2 ?side3 ?side4 A14.out).mono ?_); (case side1 => refine (Kd.R_reads' (e := 3) (base := w.heap.size) (ok := fun k_ => True) (n := t256.length) (c := co12) ?_).2.2; exact (by (with_reducible repeat (first | apply Kd.R_alloc | apply Kd.R_drewN | apply Kd.R_drew)); exact (Kd.R_mono (Kd.R_far (p := ⟨gb263, 2, none⟩) (Kd.R_far (p := ⟨gb263, 1, none⟩) (Kd.R_far (p := ⟨gb263, 0, none⟩) (Kd.R_types HO258.out BK263.out (by decide)) (fun _ hk => hk.2) (.int .i64 t255)) (fun _ hk => hk.2) (.slice Ao12 t256.length co12)) (fun _ hk => hk.2) (.slice Ao13 t259.length co13)) (fun _ h_ => h_.1)))); (case side2 => exact (Kd.R_reads' HO258.out).2.1); (case side3 => refine (Kd.R_reads' (e := 27) (base := w.heap.size) (ok := fun k_ => (some k_ ≠ (.slice Ao12 t256.length co12 : Value).ownBlock ∧ k_ ≠ gb263)) (n := t259.length) (c := co13) ?_).2.2; exact (by (with_reducible repeat (first | apply Kd.R_alloc | apply Kd.R_drewN | apply Kd.R_drew)); exact (Kd.R_mono (Kd.R_far (p := ⟨gb263, 2, none⟩) (Kd.R_far (p := ⟨gb263, 1, none⟩) (Kd.R_far (p := ⟨gb263, 0, none⟩) (Kd.R_mono HO261.out (fun k_ hk => (⟨hk, hk.2⟩ : _ ∧ k_ ≠ gb263))) (fun _ hk => hk.2) (.int .i64 t255)) (fun _ hk => hk.2) (.slice Ao12 t256.length co12)) (fun _ hk => hk.2) (.slice Ao13 t259.length co13)) (fun _ h_ => h_.1)))); (case side4 => exact (Kd.R_reads' HO261.out).2.1); rintro e w28 ⟨rfl, hb⟩; refine ⟨_, rfl, ?_⟩; have n0_ := Aside0.mk (Kd.R_below (by (with_reducible repeat (first | apply Kd.R_alloc | apply Kd.R_drewN | apply Kd.R_drew)); exact (Kd.R_mono (Kd.R_far (p := ⟨gb263, 2, none⟩) (Kd.R_far (p := ⟨gb263, 1, none⟩) (Kd.R_far (p := ⟨gb263, 0, none⟩) (Kd.R_types HO258.out BK263.out (by decide)) (fun _ hk => hk.2) (.int .i64 t255)) (fun _ hk => hk.2) (.slice Ao12 t256.length co12)) (fun _ hk => hk.2) (.slice Ao13 t259.length co13)) (fun _ h_ => h_.1))) hb); have n1_ := Aside0.mk (Kd.R_below (by (with_reducible repeat (first | apply Kd.R_alloc | apply Kd.R_drewN | apply Kd.R_drew)); exact (Kd.R_mono (Kd.R_far (p := ⟨gb263, 2, none⟩) (Kd.R_far (p := ⟨gb263, 1, none⟩) (Kd.R_far (p := ⟨gb263, 0, none⟩) (Kd.R_mono HO261.out (fun k_ hk => (⟨hk, hk.2⟩ : _ ∧ k_ ≠ gb263))) (fun _ hk => hk.2) (.int .i64 t255)) (fun _ hk => hk.2) (.slice Ao12 t256.length co12)) (fun _ hk => hk.2) (.slice Ao13 t259.length co13)) (fun _ h_ => h_.1))) hb); have n2_ := Aside0.mk (IsS43.below (show IsS43 w (((w9.setCell ⟨gb263, 0, none⟩ (.int .i64 t255)).setCell ⟨gb263, 1, none⟩ (.slice Ao12 t256.length co12)).setCell ⟨gb263, 2, none⟩ (.slice Ao13 t259.length co13)) g252 t250 t262 from by repeat (first | (with_reducible first | exact HI252.out | apply IsS43.alloc | apply IsS43.drewN | apply IsS43.drew | apply IsS43.set_1 | refine IsS43.far ?_ NB252_263.out _) | exact HI252.out)) hb); have n3_ := Aside0.mk (blk_below (g := gb263) (o := .cells #[.int .i64 t255, .slice Ao12 t256.length co12, .slice Ao13 t259.length co13] 27 (0, 0)) (by (with_reducible repeat (first | refine blk_drewN ?_ _ | refine blk_drew ?_ | refine blk_alloc ?_ _)); refine blk_put (cs := #[.int .i64 t255, .slice Ao12 t256.length co12, .slice none 0 0]) ?_ 2 _ rfl; (with_reducible repeat (first | refine blk_drewN ?_ _ | refine blk_drew ?_ | refine blk_alloc ?_ _)); refine blk_put (cs := #[.int .i64 t255, .slice none 0 0, .slice none 0 0]) ?_ 1 _ rfl; (with_reducible repeat (first | refine blk_drewN ?_ _ | refine blk_drew ?_ | refine blk_alloc ?_ _)); refine blk_put (cs := #[.int .i64 0, .slice none 0 0, .slice none 0 0]) ?_ 0 _ rfl; (with_reducible repeat (first | refine blk_drewN ?_ _ | refine blk_drew ?_ | refine blk_alloc ?_ _)); exact BK263.out) hb); have n4_ := Aside0.mk (below_step (by repeat (first | (with_reducible first | exact HB.out | apply below_alloc | apply pw_below_drewN | apply below_drew1 | refine below_set ?_ (IsS43.ge HI252.out) | refine below_set ?_ GE263.out) | exact HB.out)) hb); clear HO258; clear HO261; clear HI252; clear BK263; clear HB; have HO258 := n0_; have HO261 := n1_; have HI252 := n2_; have BK263 := n3_; have HB := n4_; clear n0_ n1_ n2_ n3_ n4_; (try clear hb); (try clear hb2); (try clear hk); (try clear hi); have hcz29_0 : w28.cell? ⟨gb263, 0, none⟩ = some (.int .i64 t255) := (blk_cell BK263.out 0).trans rfl; have hcz29_1 : w28.cell? ⟨gb263, 1, none⟩ = some (.slice Ao12 t256.length co12) := (blk_cell BK263.out 1).trans rfl; have hcz29_2 : w28.cell? ⟨gb263, 2, none⟩ = some (.slice Ao13 t259.length co13) := (blk_cell BK263.out 2).trans rfl; have hfz29_0 := blk_frozen BK263.out 0; have hfz29_1 := blk_frozen BK263.out 1; have hfz29_2 := blk_frozen BK263.out 2) | (go_at_call 11; (with_reducible refine (threshold_Satisfied.calls k t255 _ _ t256 _ _ t259 0 false _ ?side1 ?side2 ?side3 ?side4 A16.out).mono ?_); (case side1 => repeat (first | exact (Kd.R_reads' HO258.out).2.2 | (with_reducible refine Kd.C_alloc ?_ _) | (with_reducible refine Kd.C_drewN ?_ _) | (with_reducible refine Kd.C_drew ?_))); (case side2 => exact (Kd.R_reads' HO258.out).2.1); (case side3 => repeat (first | exact (Kd.R_reads' HO261.out).2.2 | (with_reducible refine Kd.C_alloc ?_ _) | (with_reducible refine Kd.C_drewN ?_ _) | (with_reducible refine Kd.C_drew ?_))); (case side4 => exact (Kd.R_reads' HO261.out).2.1); rintro e w30 ⟨rfl, hb⟩; have n0_ := Aside0.mk (Kd.R_below (by (with_reducible repeat (first | apply Kd.R_alloc | apply Kd.R_drewN | apply Kd.R_drew)); exact HO258.out) hb); have n1_ := Aside0.mk (Kd.R_below (by (with_reducible repeat (first | apply Kd.R_alloc | apply Kd.R_drewN | apply Kd.R_drew)); exact HO261.out) hb); have n2_ := Aside0.mk (IsS43.below (by repeat (first | (with_reducible first | exact HI252.out | apply IsS43.alloc | apply IsS43.drewN | apply IsS43.drew | apply IsS43.set_1 | refine IsS43.far ?_ NB252_263.out _) | exact HI252.out)) hb); have n3_ := Aside0.mk (blk_below (g := gb263) (o := .cells #[.int .i64 t255, .slice Ao12 t256.length co12, .slice Ao13 t259.length co13] 27 (0, 0)) (by (with_reducible repeat (first | refine blk_drewN ?_ _ | refine blk_drew ?_ | refine blk_alloc ?_ _)); exact BK263.out) hb); have n4_ := Aside0.mk (below_step (by repeat (first | (with_reducible first | exact HB.out | apply below_alloc | apply pw_below_drewN | apply below_drew1 | refine below_set ?_ (IsS43.ge HI252.out) | refine below_set ?_ GE263.out) | exact HB.out)) hb); clear HO258; clear HO261; clear HI252; clear BK263; clear HB; have HO258 := n0_; have HO261 := n1_; have HI252 := n2_; have BK263 := n3_; have HB := n4_; clear n0_ n1_ n2_ n3_ n4_; (try clear hb); (try clear hb2); (try clear hk); (try clear hi); have hcz31_0 : w30.cell? ⟨gb263, 0, none⟩ = some (.int .i64 t255) := (blk_cell BK263.out 0).trans rfl; have hcz31_1 : w30.cell? ⟨gb263, 1, none⟩ = some (.slice Ao12 t256.length co12) := (blk_cell BK263.out 1).trans rfl; have hcz31_2 : w30.cell? ⟨gb263, 2, none⟩ = some (.slice Ao13 t259.length co13) := (blk_cell BK263.out 2).trans rfl; have hfz31_0 := blk_frozen BK263.out 0; have hfz31_1 := blk_frozen BK263.out 1; have hfz31_2 := blk_frozen BK263.out 2) | (go_at_call 12; (with_reducible refine (threshold_Blocked.calls k t255 _ _ t256 _ _ t259 1023 true _ ?side1 ?side2 ?side3 ?side4 A23.out).mono ?_); (case side1 => repeat (first | exact (Kd.R_reads' HO258.out).2.2 | (with_reducible refine Kd.C_alloc ?_ _) | (with_reducible refine Kd.C_drewN ?_ _) | (with_reducible refine Kd.C_drew ?_))); (case side2 => exact (Kd.R_reads' HO258.out).2.1); (case side3 => repeat (first | exact (Kd.R_reads' HO261.out).2.2 | (with_reducible refine Kd.C_alloc ?_ _) | (with_reducible refine Kd.C_drewN ?_ _) | (with_reducible refine Kd.C_drew ?_))); (case side4 => exact (Kd.R_reads' HO261.out).2.1); rintro e w32 ⟨rfl, hb⟩; have n0_ := Aside0.mk (Kd.R_below (by (with_reducible repeat (first | apply Kd.R_alloc | apply Kd.R_drewN | apply Kd.R_drew)); exact HO258.out) hb); have n1_ := Aside0.mk (Kd.R_below (by (with_reducible repeat (first | apply Kd.R_alloc | apply Kd.R_drewN | apply Kd.R_drew)); exact HO261.out) hb); have n2_ := Aside0.mk (IsS43.below (by repeat (first | (with_reducible first | exact HI252.out | apply IsS43.alloc | apply IsS43.drewN | apply IsS43.drew | apply IsS43.set_1 | refine IsS43.far ?_ NB252_263.out _) | exact HI252.out)) hb); have n3_ := Aside0.mk (blk_below (g := gb263) (o := .cells #[.int .i64 t255, .slice Ao12 t256.length co12, .slice Ao13 t259.length co13] 27 (0, 0)) (by (with_reducible repeat (first | refine blk_drewN ?_ _ | refine blk_drew ?_ | refine blk_alloc ?_ _)); exact BK263.out) hb); have n4_ := Aside0.mk (below_step (by repeat (first | (with_reducible first | exact HB.out | apply below_alloc | apply pw_below_drewN | apply below_drew1 | refine below_set ?_ (IsS43.ge HI252.out) | refine below_set ?_ GE263.out) | exact HB.out)) hb); clear HO258; clear HO261; clear HI252; clear BK263; clear HB; have HO258 := n0_; have HO261 := n1_; have HI252 := n2_; have BK263 := n3_; have HB := n4_; clear n0_ n1_ n2_ n3_ n4_; (try clear hb); (try clear hb2); (try clear hk); (try clear hi); have hcz33_0 : w32.cell? ⟨gb263, 0, none⟩ = some (.int .i64 t255) := (blk_cell BK263.out 0).trans rfl; have hcz33_1 : w32.cell? ⟨gb263, 1, none⟩ = some (.slice Ao12 t256.length co12) := (blk_cell BK263.out 1).trans rfl; have hcz33_2 : w32.cell? ⟨gb263, 2, none⟩ = some (.slice Ao13 t259.length co13) := (blk_cell BK263.out 2).trans rfl; have hfz33_0 := blk_frozen BK263.out 0; have hfz33_1 := blk_frozen BK263.out 1; have hfz33_2 := blk_frozen BK263.out 2) | (go_at_call 12; (with_reducible refine (threshold_Blocked.calls k t255 _ _ t256 _ _ t259 0 t267 _ ?side1 ?side2 ?side3 ?side4 A25.out).mono ?_); (case side1 => repeat (first | exact (Kd.R_reads' HO258.out).2.2 | (with_reducible refine Kd.C_alloc ?_ _) | (with_reducible refine Kd.C_drewN ?_ _) | (with_reducible refine Kd.C_drew ?_))); (case side2 => exact (Kd.R_reads' HO258.out).2.1); (case side3 => repeat (first | exact (Kd.R_reads' HO261.out).2.2 | (with_reducible refine Kd.C_alloc ?_ _) | (with_reducible refine Kd.C_drewN ?_ _) | (with_reducible refine Kd.C_drew ?_))); (case side4 => exact (Kd.R_reads' HO261.out).2.1); rintro e w34 ⟨rfl, hb⟩; have n0_ := Aside0.mk (Kd.R_below (by (with_reducible repeat (first | apply Kd.R_alloc | apply Kd.R_drewN | apply Kd.R_drew)); exact HO258.out) hb); have n1_ := Aside0.mk (Kd.R_below (by (with_reducible repeat (first | apply Kd.R_alloc | apply Kd.R_drewN | apply Kd.R_drew)); exact HO261.out) hb); have n2_ := Aside0.mk (IsS43.below (by repeat (first | (with_reducible first | exact HI252.out | apply IsS43.alloc | apply IsS43.drewN | apply IsS43.drew | apply IsS43.set_1 | refine IsS43.far ?_ NB252_263.out _) | exact HI252.out)) hb); have n3_ := Aside0.mk (blk_below (g := gb263) (o := .cells #[.int .i64 t255, .slice Ao12 t256.length co12, .slice Ao13 t259.length co13] 27 (0, 0)) (by (with_reducible repeat (first | refine blk_drewN ?_ _ | refine blk_drew ?_ | refine blk_alloc ?_ _)); exact BK263.out) hb); have n4_ := Aside0.mk (below_step (by repeat (first | (with_reducible first | exact HB.out | apply below_alloc | apply pw_below_drewN | apply below_drew1 | refine below_set ?_ (IsS43.ge HI252.out) | refine below_set ?_ GE263.out) | exact HB.out)) hb); clear HO258; clear HO261; clear HI252; clear BK263; clear HB; have HO258 := n0_; have HO261 := n1_; have HI252 := n2_; have BK263 := n3_; have HB := n4_; clear n0_ n1_ n2_ n3_ n4_; (try clear hb); (try clear hb2); (try clear hk); (try clear hi)))
          go_meet
          case rel => exact ⟨_, (t267), (by first | rfl | (simp; done) | (simp [*]; done)), H', ⟨by first | omega | exact Nat.le_refl _⟩, ⟨by (with_reducible repeat (first | apply Kd.R_alloc | apply Kd.R_drewN | apply Kd.R_drew)); exact HO258.out⟩, ⟨by (with_reducible repeat (first | apply Kd.R_alloc | apply Kd.R_drewN | apply Kd.R_drew)); exact HO261.out⟩, ⟨by (with_reducible repeat (first | refine blk_drewN ?_ _ | refine blk_drew ?_ | refine blk_alloc ?_ _)); exact BK263.out⟩, ⟨by repeat (first | (with_reducible first | exact HI252.out | apply IsS43.alloc | apply IsS43.drewN | apply IsS43.drew | apply IsS43.set_1 | refine IsS43.far ?_ NB252_263.out _) | exact HI252.out)⟩, ⟨by repeat (first | (with_reducible first | exact HB.out | apply below_alloc | apply pw_below_drewN | apply below_drew1 | refine below_set ?_ (IsS43.ge HI252.out) | refine below_set ?_ GE263.out) | exact HB.out)⟩⟩
        · replace c24 := Bool.eq_false_iff.mpr c24
          subst c24
          have H1 : (trustquorumlaw02_ThresholdMeets.j0 k true t250 t262 t255 t256 t259) = some r := by rw [if_neg (show ¬ (false = true) by decide)] at H; exact H
          clear H
          have H := H1
          clear H1
          have H' := Aside0.mk H
          clear H
          have hnb35 := NB263_252.out
          have hnc35 := NB252_263.out
          have hcz36_0 : w9.cell? ⟨gb263, 0, none⟩ = some (.int .i64 0) := (blk_cell BK263.out 0).trans rfl
          have hcz36_1 : w9.cell? ⟨gb263, 1, none⟩ = some (.slice none 0 0) := (blk_cell BK263.out 1).trans rfl
          have hcz36_2 : w9.cell? ⟨gb263, 2, none⟩ = some (.slice none 0 0) := (blk_cell BK263.out 2).trans rfl
          have hfz36_0 := blk_frozen BK263.out 0
          have hfz36_1 := blk_frozen BK263.out 1
          have hfz36_2 := blk_frozen BK263.out 2
          go_wp2_with (first | ((with_reducible refine gate_callee (f := 11) rfl ?_); refine goesL_ (some 15) rfl rfl Try.func11 (by kernel_rfl) rfl #[.agg #[.int .i64 t255, .slice Ao12 t256.length co12, .slice Ao13 t259.length co13], .int .i64 1023] rfl (by (try simp only [List.map_toArray, List.map_cons, List.map_nil]); first | done | rfl | (simp only [List.length_drop, List.length_take]; rfl)) ?_; (with_reducible refine (threshold_Satisfied.calls k t255 _ _ t256 _ _ t259 1023 true _ ?side1 ?side2 ?side3 ?side4 A14.out).mono ?_); (case side1 => refine (Kd.R_reads' (e := 3) (base := w.heap.size) (ok := fun k_ => True) (n := t256.length) (c := co12) ?_).2.2; exact (by (with_reducible repeat (first | apply Kd.R_alloc | apply Kd.R_drewN | apply Kd.R_drew)); exact (Kd.R_mono (Kd.R_far (p := ⟨gb263, 2, none⟩) (Kd.R_far (p := ⟨gb263, 1, none⟩) (Kd.R_far (p := ⟨gb263, 0, none⟩) (Kd.R_types HO258.out BK263.out (by decide)) (fun _ hk => hk.2) (.int .i64 t255)) (fun _ hk => hk.2) (.slice Ao12 t256.length co12)) (fun _ hk => hk.2) (.slice Ao13 t259.length co13)) (fun _ h_ => h_.1)))); (case side2 => exact (Kd.R_reads' HO258.out).2.1); (case side3 => refine (Kd.R_reads' (e := 27) (base := w.heap.size) (ok := fun k_ => (some k_ ≠ (.slice Ao12 t256.length co12 : Value).ownBlock ∧ k_ ≠ gb263)) (n := t259.length) (c := co13) ?_).2.2; exact (by (with_reducible repeat (first | apply Kd.R_alloc | apply Kd.R_drewN | apply Kd.R_drew)); exact (Kd.R_mono (Kd.R_far (p := ⟨gb263, 2, none⟩) (Kd.R_far (p := ⟨gb263, 1, none⟩) (Kd.R_far (p := ⟨gb263, 0, none⟩) (Kd.R_mono HO261.out (fun k_ hk => (⟨hk, hk.2⟩ : _ ∧ k_ ≠ gb263))) (fun _ hk => hk.2) (.int .i64 t255)) (fun _ hk => hk.2) (.slice Ao12 t256.length co12)) (fun _ hk => hk.2) (.slice Ao13 t259.length co13)) (fun _ h_ => h_.1)))); (case side4 => exact (Kd.R_reads' HO261.out).2.1); rintro e w37 ⟨rfl, hb⟩; refine ⟨_, rfl, ?_⟩; have n0_ := Aside0.mk (Kd.R_below (by (with_reducible repeat (first | apply Kd.R_alloc | apply Kd.R_drewN | apply Kd.R_drew)); exact (Kd.R_mono (Kd.R_far (p := ⟨gb263, 2, none⟩) (Kd.R_far (p := ⟨gb263, 1, none⟩) (Kd.R_far (p := ⟨gb263, 0, none⟩) (Kd.R_types HO258.out BK263.out (by decide)) (fun _ hk => hk.2) (.int .i64 t255)) (fun _ hk => hk.2) (.slice Ao12 t256.length co12)) (fun _ hk => hk.2) (.slice Ao13 t259.length co13)) (fun _ h_ => h_.1))) hb); have n1_ := Aside0.mk (Kd.R_below (by (with_reducible repeat (first | apply Kd.R_alloc | apply Kd.R_drewN | apply Kd.R_drew)); exact (Kd.R_mono (Kd.R_far (p := ⟨gb263, 2, none⟩) (Kd.R_far (p := ⟨gb263, 1, none⟩) (Kd.R_far (p := ⟨gb263, 0, none⟩) (Kd.R_mono HO261.out (fun k_ hk => (⟨hk, hk.2⟩ : _ ∧ k_ ≠ gb263))) (fun _ hk => hk.2) (.int .i64 t255)) (fun _ hk => hk.2) (.slice Ao12 t256.length co12)) (fun _ hk => hk.2) (.slice Ao13 t259.length co13)) (fun _ h_ => h_.1))) hb); have n2_ := Aside0.mk (IsS43.below (show IsS43 w (((w9.setCell ⟨gb263, 0, none⟩ (.int .i64 t255)).setCell ⟨gb263, 1, none⟩ (.slice Ao12 t256.length co12)).setCell ⟨gb263, 2, none⟩ (.slice Ao13 t259.length co13)) g252 t250 t262 from by repeat (first | (with_reducible first | exact HI252.out | apply IsS43.alloc | apply IsS43.drewN | apply IsS43.drew | apply IsS43.set_1 | refine IsS43.far ?_ NB252_263.out _) | exact HI252.out)) hb); have n3_ := Aside0.mk (blk_below (g := gb263) (o := .cells #[.int .i64 t255, .slice Ao12 t256.length co12, .slice Ao13 t259.length co13] 27 (0, 0)) (by (with_reducible repeat (first | refine blk_drewN ?_ _ | refine blk_drew ?_ | refine blk_alloc ?_ _)); refine blk_put (cs := #[.int .i64 t255, .slice Ao12 t256.length co12, .slice none 0 0]) ?_ 2 _ rfl; (with_reducible repeat (first | refine blk_drewN ?_ _ | refine blk_drew ?_ | refine blk_alloc ?_ _)); refine blk_put (cs := #[.int .i64 t255, .slice none 0 0, .slice none 0 0]) ?_ 1 _ rfl; (with_reducible repeat (first | refine blk_drewN ?_ _ | refine blk_drew ?_ | refine blk_alloc ?_ _)); refine blk_put (cs := #[.int .i64 0, .slice none 0 0, .slice none 0 0]) ?_ 0 _ rfl; (with_reducible repeat (first | refine blk_drewN ?_ _ | refine blk_drew ?_ | refine blk_alloc ?_ _)); exact BK263.out) hb); have n4_ := Aside0.mk (below_step (by repeat (first | (with_reducible first | exact HB.out | apply below_alloc | apply pw_below_drewN | apply below_drew1 | refine below_set ?_ (IsS43.ge HI252.out) | refine below_set ?_ GE263.out) | exact HB.out)) hb); clear HO258; clear HO261; clear HI252; clear BK263; clear HB; have HO258 := n0_; have HO261 := n1_; have HI252 := n2_; have BK263 := n3_; have HB := n4_; clear n0_ n1_ n2_ n3_ n4_; (try clear hb); (try clear hb2); (try clear hk); (try clear hi); have hcz38_0 : w37.cell? ⟨gb263, 0, none⟩ = some (.int .i64 t255) := (blk_cell BK263.out 0).trans rfl; have hcz38_1 : w37.cell? ⟨gb263, 1, none⟩ = some (.slice Ao12 t256.length co12) := (blk_cell BK263.out 1).trans rfl; have hcz38_2 : w37.cell? ⟨gb263, 2, none⟩ = some (.slice Ao13 t259.length co13) := (blk_cell BK263.out 2).trans rfl; have hfz38_0 := blk_frozen BK263.out 0; have hfz38_1 := blk_frozen BK263.out 1; have hfz38_2 := blk_frozen BK263.out 2) | (go_at_call 11; (with_reducible refine (threshold_Satisfied.calls k t255 _ _ t256 _ _ t259 0 false _ ?side1 ?side2 ?side3 ?side4 A16.out).mono ?_); (case side1 => repeat (first | exact (Kd.R_reads' HO258.out).2.2 | (with_reducible refine Kd.C_alloc ?_ _) | (with_reducible refine Kd.C_drewN ?_ _) | (with_reducible refine Kd.C_drew ?_))); (case side2 => exact (Kd.R_reads' HO258.out).2.1); (case side3 => repeat (first | exact (Kd.R_reads' HO261.out).2.2 | (with_reducible refine Kd.C_alloc ?_ _) | (with_reducible refine Kd.C_drewN ?_ _) | (with_reducible refine Kd.C_drew ?_))); (case side4 => exact (Kd.R_reads' HO261.out).2.1); rintro e w39 ⟨rfl, hb⟩; have n0_ := Aside0.mk (Kd.R_below (by (with_reducible repeat (first | apply Kd.R_alloc | apply Kd.R_drewN | apply Kd.R_drew)); exact HO258.out) hb); have n1_ := Aside0.mk (Kd.R_below (by (with_reducible repeat (first | apply Kd.R_alloc | apply Kd.R_drewN | apply Kd.R_drew)); exact HO261.out) hb); have n2_ := Aside0.mk (IsS43.below (by repeat (first | (with_reducible first | exact HI252.out | apply IsS43.alloc | apply IsS43.drewN | apply IsS43.drew | apply IsS43.set_1 | refine IsS43.far ?_ NB252_263.out _) | exact HI252.out)) hb); have n3_ := Aside0.mk (blk_below (g := gb263) (o := .cells #[.int .i64 t255, .slice Ao12 t256.length co12, .slice Ao13 t259.length co13] 27 (0, 0)) (by (with_reducible repeat (first | refine blk_drewN ?_ _ | refine blk_drew ?_ | refine blk_alloc ?_ _)); exact BK263.out) hb); have n4_ := Aside0.mk (below_step (by repeat (first | (with_reducible first | exact HB.out | apply below_alloc | apply pw_below_drewN | apply below_drew1 | refine below_set ?_ (IsS43.ge HI252.out) | refine below_set ?_ GE263.out) | exact HB.out)) hb); clear HO258; clear HO261; clear HI252; clear BK263; clear HB; have HO258 := n0_; have HO261 := n1_; have HI252 := n2_; have BK263 := n3_; have HB := n4_; clear n0_ n1_ n2_ n3_ n4_; (try clear hb); (try clear hb2); (try clear hk); (try clear hi); have hcz40_0 : w39.cell? ⟨gb263, 0, none⟩ = some (.int .i64 t255) := (blk_cell BK263.out 0).trans rfl; have hcz40_1 : w39.cell? ⟨gb263, 1, none⟩ = some (.slice Ao12 t256.length co12) := (blk_cell BK263.out 1).trans rfl; have hcz40_2 : w39.cell? ⟨gb263, 2, none⟩ = some (.slice Ao13 t259.length co13) := (blk_cell BK263.out 2).trans rfl; have hfz40_0 := blk_frozen BK263.out 0; have hfz40_1 := blk_frozen BK263.out 1; have hfz40_2 := blk_frozen BK263.out 2) | (go_at_call 12; (with_reducible refine (threshold_Blocked.calls k t255 _ _ t256 _ _ t259 1023 false _ ?side1 ?side2 ?side3 ?side4 A23.out).mono ?_); (case side1 => repeat (first | exact (Kd.R_reads' HO258.out).2.2 | (with_reducible refine Kd.C_alloc ?_ _) | (with_reducible refine Kd.C_drewN ?_ _) | (with_reducible refine Kd.C_drew ?_))); (case side2 => exact (Kd.R_reads' HO258.out).2.1); (case side3 => repeat (first | exact (Kd.R_reads' HO261.out).2.2 | (with_reducible refine Kd.C_alloc ?_ _) | (with_reducible refine Kd.C_drewN ?_ _) | (with_reducible refine Kd.C_drew ?_))); (case side4 => exact (Kd.R_reads' HO261.out).2.1); rintro e w41 ⟨rfl, hb⟩; have n0_ := Aside0.mk (Kd.R_below (by (with_reducible repeat (first | apply Kd.R_alloc | apply Kd.R_drewN | apply Kd.R_drew)); exact HO258.out) hb); have n1_ := Aside0.mk (Kd.R_below (by (with_reducible repeat (first | apply Kd.R_alloc | apply Kd.R_drewN | apply Kd.R_drew)); exact HO261.out) hb); have n2_ := Aside0.mk (IsS43.below (by repeat (first | (with_reducible first | exact HI252.out | apply IsS43.alloc | apply IsS43.drewN | apply IsS43.drew | apply IsS43.set_1 | refine IsS43.far ?_ NB252_263.out _) | exact HI252.out)) hb); have n3_ := Aside0.mk (blk_below (g := gb263) (o := .cells #[.int .i64 t255, .slice Ao12 t256.length co12, .slice Ao13 t259.length co13] 27 (0, 0)) (by (with_reducible repeat (first | refine blk_drewN ?_ _ | refine blk_drew ?_ | refine blk_alloc ?_ _)); exact BK263.out) hb); have n4_ := Aside0.mk (below_step (by repeat (first | (with_reducible first | exact HB.out | apply below_alloc | apply pw_below_drewN | apply below_drew1 | refine below_set ?_ (IsS43.ge HI252.out) | refine below_set ?_ GE263.out) | exact HB.out)) hb); clear HO258; clear HO261; clear HI252; clear BK263; clear HB; have HO258 := n0_; have HO261 := n1_; have HI252 := n2_; have BK263 := n3_; have HB := n4_; clear n0_ n1_ n2_ n3_ n4_; (try clear hb); (try clear hb2); (try clear hk); (try clear hi)))
          go_meet
          case rel => exact ⟨_, (true), (by first | rfl | (simp; done) | (simp [*]; done)), H', ⟨by first | omega | exact Nat.le_refl _⟩, ⟨by (with_reducible repeat (first | apply Kd.R_alloc | apply Kd.R_drewN | apply Kd.R_drew)); exact HO258.out⟩, ⟨by (with_reducible repeat (first | apply Kd.R_alloc | apply Kd.R_drewN | apply Kd.R_drew)); exact HO261.out⟩, ⟨by (with_reducible repeat (first | refine blk_drewN ?_ _ | refine blk_drew ?_ | refine blk_alloc ?_ _)); exact BK263.out⟩, ⟨by repeat (first | (with_reducible first | exact HI252.out | apply IsS43.alloc | apply IsS43.drewN | apply IsS43.drew | apply IsS43.set_1 | refine IsS43.far ?_ NB252_263.out _) | exact HI252.out)⟩, ⟨by repeat (first | (with_reducible first | exact HB.out | apply below_alloc | apply pw_below_drewN | apply below_drew1 | refine below_set ?_ (IsS43.ge HI252.out) | refine below_set ?_ GE263.out) | exact HB.out)⟩⟩
    · replace c15 := Bool.eq_false_iff.mpr c15
      subst c15
      have H1 : (trustquorumlaw02_ThresholdMeets.j0 k true t250 t262 t255 t256 t259) = some r := by rw [if_neg (show ¬ (false = true) by decide)] at H; exact H
      clear H
      have H := H1
      clear H1
      have H' := Aside0.mk H
      clear H
      have hnb42 := NB263_252.out
      have hnc42 := NB252_263.out
      have hcz43_0 : w9.cell? ⟨gb263, 0, none⟩ = some (.int .i64 0) := (blk_cell BK263.out 0).trans rfl
      have hcz43_1 : w9.cell? ⟨gb263, 1, none⟩ = some (.slice none 0 0) := (blk_cell BK263.out 1).trans rfl
      have hcz43_2 : w9.cell? ⟨gb263, 2, none⟩ = some (.slice none 0 0) := (blk_cell BK263.out 2).trans rfl
      have hfz43_0 := blk_frozen BK263.out 0
      have hfz43_1 := blk_frozen BK263.out 1
      have hfz43_2 := blk_frozen BK263.out 2
      go_wp2_with (first | ((with_reducible refine gate_callee (f := 11) rfl ?_); refine goesL_ (some 15) rfl rfl Try.func11 (by kernel_rfl) rfl #[.agg #[.int .i64 t255, .slice Ao12 t256.length co12, .slice Ao13 t259.length co13], .int .i64 1023] rfl (by (try simp only [List.map_toArray, List.map_cons, List.map_nil]); first | done | rfl | (simp only [List.length_drop, List.length_take]; rfl)) ?_; (with_reducible refine (threshold_Satisfied.calls k t255 _ _ t256 _ _ t259 1023 false _ ?side1 ?side2 ?side3 ?side4 A14.out).mono ?_); (case side1 => refine (Kd.R_reads' (e := 3) (base := w.heap.size) (ok := fun k_ => True) (n := t256.length) (c := co12) ?_).2.2; exact (by (with_reducible repeat (first | apply Kd.R_alloc | apply Kd.R_drewN | apply Kd.R_drew)); exact (Kd.R_mono (Kd.R_far (p := ⟨gb263, 2, none⟩) (Kd.R_far (p := ⟨gb263, 1, none⟩) (Kd.R_far (p := ⟨gb263, 0, none⟩) (Kd.R_types HO258.out BK263.out (by decide)) (fun _ hk => hk.2) (.int .i64 t255)) (fun _ hk => hk.2) (.slice Ao12 t256.length co12)) (fun _ hk => hk.2) (.slice Ao13 t259.length co13)) (fun _ h_ => h_.1)))); (case side2 => exact (Kd.R_reads' HO258.out).2.1); (case side3 => refine (Kd.R_reads' (e := 27) (base := w.heap.size) (ok := fun k_ => (some k_ ≠ (.slice Ao12 t256.length co12 : Value).ownBlock ∧ k_ ≠ gb263)) (n := t259.length) (c := co13) ?_).2.2; exact (by (with_reducible repeat (first | apply Kd.R_alloc | apply Kd.R_drewN | apply Kd.R_drew)); exact (Kd.R_mono (Kd.R_far (p := ⟨gb263, 2, none⟩) (Kd.R_far (p := ⟨gb263, 1, none⟩) (Kd.R_far (p := ⟨gb263, 0, none⟩) (Kd.R_mono HO261.out (fun k_ hk => (⟨hk, hk.2⟩ : _ ∧ k_ ≠ gb263))) (fun _ hk => hk.2) (.int .i64 t255)) (fun _ hk => hk.2) (.slice Ao12 t256.length co12)) (fun _ hk => hk.2) (.slice Ao13 t259.length co13)) (fun _ h_ => h_.1)))); (case side4 => exact (Kd.R_reads' HO261.out).2.1); rintro e w44 ⟨rfl, hb⟩; refine ⟨_, rfl, ?_⟩; have n0_ := Aside0.mk (Kd.R_below (by (with_reducible repeat (first | apply Kd.R_alloc | apply Kd.R_drewN | apply Kd.R_drew)); exact (Kd.R_mono (Kd.R_far (p := ⟨gb263, 2, none⟩) (Kd.R_far (p := ⟨gb263, 1, none⟩) (Kd.R_far (p := ⟨gb263, 0, none⟩) (Kd.R_types HO258.out BK263.out (by decide)) (fun _ hk => hk.2) (.int .i64 t255)) (fun _ hk => hk.2) (.slice Ao12 t256.length co12)) (fun _ hk => hk.2) (.slice Ao13 t259.length co13)) (fun _ h_ => h_.1))) hb); have n1_ := Aside0.mk (Kd.R_below (by (with_reducible repeat (first | apply Kd.R_alloc | apply Kd.R_drewN | apply Kd.R_drew)); exact (Kd.R_mono (Kd.R_far (p := ⟨gb263, 2, none⟩) (Kd.R_far (p := ⟨gb263, 1, none⟩) (Kd.R_far (p := ⟨gb263, 0, none⟩) (Kd.R_mono HO261.out (fun k_ hk => (⟨hk, hk.2⟩ : _ ∧ k_ ≠ gb263))) (fun _ hk => hk.2) (.int .i64 t255)) (fun _ hk => hk.2) (.slice Ao12 t256.length co12)) (fun _ hk => hk.2) (.slice Ao13 t259.length co13)) (fun _ h_ => h_.1))) hb); have n2_ := Aside0.mk (IsS43.below (show IsS43 w (((w9.setCell ⟨gb263, 0, none⟩ (.int .i64 t255)).setCell ⟨gb263, 1, none⟩ (.slice Ao12 t256.length co12)).setCell ⟨gb263, 2, none⟩ (.slice Ao13 t259.length co13)) g252 t250 t262 from by repeat (first | (with_reducible first | exact HI252.out | apply IsS43.alloc | apply IsS43.drewN | apply IsS43.drew | apply IsS43.set_1 | refine IsS43.far ?_ NB252_263.out _) | exact HI252.out)) hb); have n3_ := Aside0.mk (blk_below (g := gb263) (o := .cells #[.int .i64 t255, .slice Ao12 t256.length co12, .slice Ao13 t259.length co13] 27 (0, 0)) (by (with_reducible repeat (first | refine blk_drewN ?_ _ | refine blk_drew ?_ | refine blk_alloc ?_ _)); refine blk_put (cs := #[.int .i64 t255, .slice Ao12 t256.length co12, .slice none 0 0]) ?_ 2 _ rfl; (with_reducible repeat (first | refine blk_drewN ?_ _ | refine blk_drew ?_ | refine blk_alloc ?_ _)); refine blk_put (cs := #[.int .i64 t255, .slice none 0 0, .slice none 0 0]) ?_ 1 _ rfl; (with_reducible repeat (first | refine blk_drewN ?_ _ | refine blk_drew ?_ | refine blk_alloc ?_ _)); refine blk_put (cs := #[.int .i64 0, .slice none 0 0, .slice none 0 0]) ?_ 0 _ rfl; (with_reducible repeat (first | refine blk_drewN ?_ _ | refine blk_drew ?_ | refine blk_alloc ?_ _)); exact BK263.out) hb); have n4_ := Aside0.mk (below_step (by repeat (first | (with_reducible first | exact HB.out | apply below_alloc | apply pw_below_drewN | apply below_drew1 | refine below_set ?_ (IsS43.ge HI252.out) | refine below_set ?_ GE263.out) | exact HB.out)) hb); clear HO258; clear HO261; clear HI252; clear BK263; clear HB; have HO258 := n0_; have HO261 := n1_; have HI252 := n2_; have BK263 := n3_; have HB := n4_; clear n0_ n1_ n2_ n3_ n4_; (try clear hb); (try clear hb2); (try clear hk); (try clear hi)))
      go_meet
      case rel => exact ⟨_, (true), (by first | rfl | (simp; done) | (simp [*]; done)), H', ⟨by first | omega | exact Nat.le_refl _⟩, ⟨by (with_reducible repeat (first | apply Kd.R_alloc | apply Kd.R_drewN | apply Kd.R_drew)); exact HO258.out⟩, ⟨by (with_reducible repeat (first | apply Kd.R_alloc | apply Kd.R_drewN | apply Kd.R_drew)); exact HO261.out⟩, ⟨by (with_reducible repeat (first | refine blk_drewN ?_ _ | refine blk_drew ?_ | refine blk_alloc ?_ _)); exact BK263.out⟩, ⟨by repeat (first | (with_reducible first | exact HI252.out | apply IsS43.alloc | apply IsS43.drewN | apply IsS43.drew | apply IsS43.set_1 | refine IsS43.far ?_ NB252_263.out _) | exact HI252.out)⟩, ⟨by repeat (first | (with_reducible first | exact HB.out | apply below_alloc | apply pw_below_drewN | apply below_drew1 | refine below_set ?_ (IsS43.ge HI252.out) | refine below_set ?_ GE263.out) | exact HB.out)⟩⟩
  case rest =>
    clear HC5
    try clear c1
    try clear c2
    try clear p2
    try clear c3
    try clear c4
    try clear c8
    try clear c9
    try clear c10
    try clear c11
    try clear c15
    try clear c17
    try clear c18
    try clear c24
    try clear c26
    try clear c35
    try clear c42
    try clear hcz11_0
    try clear hcz11_1
    try clear hcz11_2
    try clear hcz19_0
    try clear hcz19_1
    try clear hcz19_2
    try clear hcz21_0
    try clear hcz21_1
    try clear hcz21_2
    try clear hcz27_0
    try clear hcz27_1
    try clear hcz27_2
    try clear hcz29_0
    try clear hcz29_1
    try clear hcz29_2
    try clear hcz31_0
    try clear hcz31_1
    try clear hcz31_2
    try clear hcz33_0
    try clear hcz33_1
    try clear hcz33_2
    try clear hcz36_0
    try clear hcz36_1
    try clear hcz36_2
    try clear hcz38_0
    try clear hcz38_1
    try clear hcz38_2
    try clear hcz40_0
    try clear hcz40_1
    try clear hcz40_2
    try clear hcz43_0
    try clear hcz43_1
    try clear hcz43_2
    try clear hfz11_0
    try clear hfz11_1
    try clear hfz11_2
    try clear hfz19_0
    try clear hfz19_1
    try clear hfz19_2
    try clear hfz21_0
    try clear hfz21_1
    try clear hfz21_2
    try clear hfz27_0
    try clear hfz27_1
    try clear hfz27_2
    try clear hfz29_0
    try clear hfz29_1
    try clear hfz29_2
    try clear hfz31_0
    try clear hfz31_1
    try clear hfz31_2
    try clear hfz33_0
    try clear hfz33_1
    try clear hfz33_2
    try clear hfz36_0
    try clear hfz36_1
    try clear hfz36_2
    try clear hfz38_0
    try clear hfz38_1
    try clear hfz38_2
    try clear hfz40_0
    try clear hfz40_1
    try clear hfz40_2
    try clear hfz43_0
    try clear hfz43_1
    try clear hfz43_2
    obtain ⟨kq, x29_4, rfl, HA, HJ4, HO_264001, HO_264002, BK263, HI252, HB⟩ := hcut
    cases kq with
    | zero => exact absurd HA.out (by simp [trustquorumlaw02_ThresholdMeets.j0])
    | succ kj4 =>
      have H := HA.out
      clear HA
      simp only [trustquorumlaw02_ThresholdMeets.j0] at H
      by_cases c45 : x29_4 = true
      · subst c45
        have H1 : (some false) = some r := by rw [if_pos rfl] at H; exact H
        clear H
        have H := H1
        clear H1
        obtain rfl := Option.some.inj H
        go_wp2
        go_ret
        exact ⟨by first | rfl | (simp [errW_none, errW_some] <;> rfl) | (simp [*, errW_none, errW_some] <;> rfl), by repeat (first | (with_reducible first | exact HB.out | apply below_alloc | apply pw_below_drewN | apply below_drew1 | refine below_set ?_ (IsS43.ge HI252.out) | refine below_set ?_ GE263.out) | exact HB.out)⟩
      · replace c45 := Bool.eq_false_iff.mpr c45
        subst c45
        have H1 : (trustquorumlaw02_ThresholdMeets.l0 kj4 0 t250 t262 t255 t256 t259) = some r := by rw [if_neg (show ¬ (false = true) by decide)] at H; exact H
        clear H
        have H := H1
        clear H1
        have H' := Aside0.mk H
        clear H
        go_wp2
        go_loopg [5] kj4 (fun kq v5 w' => ∃ (x5_2 : Int) (x253001_2 : Int), v5 = .int .i64 x5_2 ∧ Aside0 (trustquorumlaw02_ThresholdMeets.l0 kq x5_2 t250 x253001_2 t255 t256 t259 = some r) ∧ Aside0 (kq ≤ kj4) ∧ Aside0 (Kd.R (Kd.int .i64) 3 w' w.heap.size (fun _ => True) (.slice Ao12 t256.length co12) t256) ∧ Aside0 (Kd.R k27 27 w' w.heap.size (fun k_ => some k_ ≠ ((.slice Ao12 t256.length co12) : Value).ownBlock ∧ k_ ≠ gb263) (.slice Ao13 t259.length co13) t259) ∧ Aside0 (w'.heap[gb263]? = some (.cells #[.int .i64 t255, (.slice Ao12 t256.length co12), (.slice Ao13 t259.length co13)] 27 (0, 0))) ∧ Aside0 (IsS43 w w' g252 t250 x253001_2) ∧ Aside0 (Below w.heap.size w w'))
        case atStart => exact ⟨(0), (t262), (by first | rfl | (simp; done) | (simp [*]; done)), H', ⟨Nat.le_refl _⟩, ⟨by (with_reducible repeat (first | apply Kd.R_alloc | apply Kd.R_drewN | apply Kd.R_drew)); exact HO_264001.out⟩, ⟨by (with_reducible repeat (first | apply Kd.R_alloc | apply Kd.R_drewN | apply Kd.R_drew)); exact HO_264002.out⟩, ⟨by (with_reducible repeat (first | refine blk_drewN ?_ _ | refine blk_drew ?_ | refine blk_alloc ?_ _)); exact BK263.out⟩, ⟨by repeat (first | (with_reducible first | exact HI252.out | apply IsS43.alloc | apply IsS43.drewN | apply IsS43.drew | apply IsS43.set_1 | refine IsS43.far ?_ NB252_263.out _) | exact HI252.out)⟩, ⟨by repeat (first | (with_reducible first | exact HB.out | apply below_alloc | apply pw_below_drewN | apply below_drew1 | refine below_set ?_ (IsS43.ge HI252.out) | refine below_set ?_ GE263.out) | exact HB.out)⟩⟩
        case round =>
          clear H'
          try clear c1
          try clear c2
          try clear p2
          try clear c3
          try clear c4
          try clear c8
          try clear c9
          try clear c10
          try clear c11
          try clear c15
          try clear c17
          try clear c18
          try clear c24
          try clear c26
          try clear c35
          try clear c42
          try clear c45
          try clear hcz11_0
          try clear hcz11_1
          try clear hcz11_2
          try clear hcz19_0
          try clear hcz19_1
          try clear hcz19_2
          try clear hcz21_0
          try clear hcz21_1
          try clear hcz21_2
          try clear hcz27_0
          try clear hcz27_1
          try clear hcz27_2
          try clear hcz29_0
          try clear hcz29_1
          try clear hcz29_2
          try clear hcz31_0
          try clear hcz31_1
          try clear hcz31_2
          try clear hcz33_0
          try clear hcz33_1
          try clear hcz33_2
          try clear hcz36_0
          try clear hcz36_1
          try clear hcz36_2
          try clear hcz38_0
          try clear hcz38_1
          try clear hcz38_2
          try clear hcz40_0
          try clear hcz40_1
          try clear hcz40_2
          try clear hcz43_0
          try clear hcz43_1
          try clear hcz43_2
          try clear hfz11_0
          try clear hfz11_1
          try clear hfz11_2
          try clear hfz19_0
          try clear hfz19_1
          try clear hfz19_2
          try clear hfz21_0
          try clear hfz21_1
          try clear hfz21_2
          try clear hfz27_0
          try clear hfz27_1
          try clear hfz27_2
          try clear hfz29_0
          try clear hfz29_1
          try clear hfz29_2
          try clear hfz31_0
          try clear hfz31_1
          try clear hfz31_2
          try clear hfz33_0
          try clear hfz33_1
          try clear hfz33_2
          try clear hfz36_0
          try clear hfz36_1
          try clear hfz36_2
          try clear hfz38_0
          try clear hfz38_1
          try clear hfz38_2
          try clear hfz40_0
          try clear hfz40_1
          try clear hfz40_2
          try clear hfz43_0
          try clear hfz43_1
          try clear hfz43_2
          try clear p2
          obtain ⟨x5_2, x253001_2, rfl, HA, HK2, HO_264001, HO_264002, BK263, HI252, HB⟩ := hrel
          cases gk with
          | zero => exact absurd HA.out (by simp [trustquorumlaw02_ThresholdMeets.l0])
          | succ k2 =>
            have H := HA.out
            clear HA
            simp only [trustquorumlaw02_ThresholdMeets.l0] at H
            by_cases c46 : x5_2 < 12
            · rw [if_pos c46] at H
              have c46b0 : decide (x5_2 < 12) = true := decide_eq_true c46
              clear c46
              replace H := Option.bind_eq_some_iff.mp H
              obtain ⟨⟨t269, t270⟩, A470, H⟩ := H
              replace H : ((trustquorummake_Tape_N.f t250 t270 1024).bind fun bt271 => ((threshold_Satisfied.f k2 t255 t256 t259 t269).bind fun t273 => (if t273 = true then ((threshold_Blocked.f k2 t255 t256 t259 bt271.1).bind fun t274 => (if t274 = true then (trustquorumlaw02_ThresholdMeets.j2 k2 x5_2 t269 ((Go.bits .and .i64 t269 bt271.1) == 0) t250 bt271.2 t255 t256 t259) else (trustquorumlaw02_ThresholdMeets.j2 k2 x5_2 t269 false t250 bt271.2 t255 t256 t259))) else (trustquorumlaw02_ThresholdMeets.j2 k2 x5_2 t269 false t250 bt271.2 t255 t256 t259)))) = some r := H
              have A47 := Aside0.mk A470
              clear A470
              replace H := Option.bind_eq_some_iff.mp H
              obtain ⟨⟨t271, t272⟩, A480, H⟩ := H
              replace H : ((threshold_Satisfied.f k2 t255 t256 t259 t269).bind fun t273 => (if t273 = true then ((threshold_Blocked.f k2 t255 t256 t259 t271).bind fun t274 => (if t274 = true then (trustquorumlaw02_ThresholdMeets.j2 k2 x5_2 t269 ((Go.bits .and .i64 t269 t271) == 0) t250 t272 t255 t256 t259) else (trustquorumlaw02_ThresholdMeets.j2 k2 x5_2 t269 false t250 t272 t255 t256 t259))) else (trustquorumlaw02_ThresholdMeets.j2 k2 x5_2 t269 false t250 t272 t255 t256 t259))) = some r := H
              have A48 := Aside0.mk A480
              clear A480
              have HC49 := Aside0.mk H
              clear H
              go_upto_region 9 with (first | ((with_reducible refine gate_callee (f := 13) rfl ?_); refine goesL_ (some 35) rfl rfl Try.func13 (by kernel_rfl) rfl #[.pointer (some ⟨g252, 0, none⟩), .int .i64 1024] rfl (by (try simp only [List.map_toArray, List.map_cons, List.map_nil]); first | done | rfl | (simp only [List.length_drop, List.length_take]; rfl)) ?_; (with_reducible refine (trustquorummake_Tape_N.calls g252 t250 x253001_2 1024 t269 t270 w _ ?side1 ?side2 A47.out).mono ?_); (case side1 => repeat (first | (with_reducible first | exact HI252.out | apply IsS43.alloc | apply IsS43.drewN | apply IsS43.drew | apply IsS43.set_1 | refine IsS43.far ?_ NB252_263.out _) | exact HI252.out)); (case side2 => repeat (first | (with_reducible first | exact HB.out | apply below_alloc | apply pw_below_drewN | apply below_drew1 | refine below_set ?_ (IsS43.ge HI252.out) | refine below_set ?_ GE263.out) | exact HB.out)); rintro e w50 ⟨rfl, hi, hb, hk⟩; refine ⟨_, rfl, ?_⟩; have n0_ := Aside0.mk (Kd.R_mono (Kd.R_keep (IsS43.apart (show IsS43 w _ g252 t250 x253001_2 from by repeat (first | (with_reducible first | exact HI252.out | apply IsS43.alloc | apply IsS43.drewN | apply IsS43.drew | apply IsS43.set_1 | refine IsS43.far ?_ NB252_263.out _) | exact HI252.out)) (by (with_reducible repeat (first | apply Kd.R_alloc | apply Kd.R_drewN | apply Kd.R_drew)); exact HO_264001.out) (by decide)) hk (fun _ h => h.2)) (fun _ h => h.1)); have n1_ := Aside0.mk (Kd.R_mono (Kd.R_keep (IsS43.apart (show IsS43 w _ g252 t250 x253001_2 from by repeat (first | (with_reducible first | exact HI252.out | apply IsS43.alloc | apply IsS43.drewN | apply IsS43.drew | apply IsS43.set_1 | refine IsS43.far ?_ NB252_263.out _) | exact HI252.out)) (by (with_reducible repeat (first | apply Kd.R_alloc | apply Kd.R_drewN | apply Kd.R_drew)); exact HO_264002.out) (by decide)) hk (fun _ h => h.2)) (fun _ h => h.1)); have n2_ := Aside0.mk (KeepBut.blk hk (g' := gb263) (o := .cells #[.int .i64 t255, .slice Ao12 t256.length co12, .slice Ao13 t259.length co13] 27 (0, 0)) (by (with_reducible repeat (first | refine blk_drewN ?_ _ | refine blk_drew ?_ | refine blk_alloc ?_ _)); exact BK263.out) NB263_252.out (by simp)); have n3_ := Aside0.mk (hb); have n4_ := Aside0.mk (hi); clear HO_264001; clear HO_264002; clear BK263; clear HB; clear HI252; have HO_264001 := n0_; have HO_264002 := n1_; have BK263 := n2_; have HB := n3_; have HI252 := n4_; clear n0_ n1_ n2_ n3_ n4_; (try clear hb); (try clear hb2); (try clear hk); (try clear hi)) | ((with_reducible refine gate_callee (f := 13) rfl ?_); refine goesL_ (some 37) rfl rfl Try.func13 (by kernel_rfl) rfl #[.pointer (some ⟨g252, 0, none⟩), .int .i64 1024] rfl (by (try simp only [List.map_toArray, List.map_cons, List.map_nil]); first | done | rfl | (simp only [List.length_drop, List.length_take]; rfl)) ?_; (with_reducible refine (trustquorummake_Tape_N.calls g252 t250 t270 1024 t271 t272 w _ ?side1 ?side2 A48.out).mono ?_); (case side1 => repeat (first | (with_reducible first | exact HI252.out | apply IsS43.alloc | apply IsS43.drewN | apply IsS43.drew | apply IsS43.set_1 | refine IsS43.far ?_ NB252_263.out _) | exact HI252.out)); (case side2 => repeat (first | (with_reducible first | exact HB.out | apply below_alloc | apply pw_below_drewN | apply below_drew1 | refine below_set ?_ (IsS43.ge HI252.out) | refine below_set ?_ GE263.out) | exact HB.out)); rintro e w51 ⟨rfl, hi, hb, hk⟩; refine ⟨_, rfl, ?_⟩; have n0_ := Aside0.mk (Kd.R_mono (Kd.R_keep (IsS43.apart (show IsS43 w _ g252 t250 t270 from by repeat (first | (with_reducible first | exact HI252.out | apply IsS43.alloc | apply IsS43.drewN | apply IsS43.drew | apply IsS43.set_1 | refine IsS43.far ?_ NB252_263.out _) | exact HI252.out)) (by (with_reducible repeat (first | apply Kd.R_alloc | apply Kd.R_drewN | apply Kd.R_drew)); exact HO_264001.out) (by decide)) hk (fun _ h => h.2)) (fun _ h => h.1)); have n1_ := Aside0.mk (Kd.R_mono (Kd.R_keep (IsS43.apart (show IsS43 w _ g252 t250 t270 from by repeat (first | (with_reducible first | exact HI252.out | apply IsS43.alloc | apply IsS43.drewN | apply IsS43.drew | apply IsS43.set_1 | refine IsS43.far ?_ NB252_263.out _) | exact HI252.out)) (by (with_reducible repeat (first | apply Kd.R_alloc | apply Kd.R_drewN | apply Kd.R_drew)); exact HO_264002.out) (by decide)) hk (fun _ h => h.2)) (fun _ h => h.1)); have n2_ := Aside0.mk (KeepBut.blk hk (g' := gb263) (o := .cells #[.int .i64 t255, .slice Ao12 t256.length co12, .slice Ao13 t259.length co13] 27 (0, 0)) (by (with_reducible repeat (first | refine blk_drewN ?_ _ | refine blk_drew ?_ | refine blk_alloc ?_ _)); exact BK263.out) NB263_252.out (by simp)); have n3_ := Aside0.mk (hb); have n4_ := Aside0.mk (hi); clear HO_264001; clear HO_264002; clear BK263; clear HB; clear HI252; have HO_264001 := n0_; have HO_264002 := n1_; have BK263 := n2_; have HB := n3_; have HI252 := n4_; clear n0_ n1_ n2_ n3_ n4_; (try clear hb); (try clear hb2); (try clear hk); (try clear hi)))
              (try simp only [Act.put, List.setIfInBounds_toArray, List.set_cons_zero, List.set_cons_succ])
              go_cut [51] (fun v51 wc => ∃ (kq : Nat) (x51_48 : Bool), v51 = .bool x51_48 ∧ Aside0 (trustquorumlaw02_ThresholdMeets.j2 kq x5_2 t269 x51_48 t250 t272 t255 t256 t259 = some r) ∧ Aside0 (kq ≤ k2) ∧ Aside0 (Kd.R (Kd.int .i64) 3 wc w.heap.size (fun _ => True) (.slice Ao12 t256.length co12) t256) ∧ Aside0 (Kd.R k27 27 wc w.heap.size (fun k_ => some k_ ≠ ((.slice Ao12 t256.length co12) : Value).ownBlock ∧ k_ ≠ gb263) (.slice Ao13 t259.length co13) t259) ∧ Aside0 (wc.heap[gb263]? = some (.cells #[.int .i64 t255, (.slice Ao12 t256.length co12), (.slice Ao13 t259.length co13)] 27 (0, 0))) ∧ Aside0 (IsS43 w wc g252 t250 t272) ∧ Aside0 (Below w.heap.size w wc))
              case first =>
                have H := HC49.out
                clear HC49
                replace H := Option.bind_eq_some_iff.mp H
                obtain ⟨t273, A520, H⟩ := H
                replace H : (if t273 = true then ((threshold_Blocked.f k2 t255 t256 t259 t271).bind fun t274 => (if t274 = true then (trustquorumlaw02_ThresholdMeets.j2 k2 x5_2 t269 ((Go.bits .and .i64 t269 t271) == 0) t250 t272 t255 t256 t259) else (trustquorumlaw02_ThresholdMeets.j2 k2 x5_2 t269 false t250 t272 t255 t256 t259))) else (trustquorumlaw02_ThresholdMeets.j2 k2 x5_2 t269 false t250 t272 t255 t256 t259)) = some r := H
                have A52 := Aside0.mk A520
                clear A520
                by_cases c53 : t273 = true
                · subst c53
                  have H1 : ((threshold_Blocked.f k2 t255 t256 t259 t271).bind fun t274 => (if t274 = true then (trustquorumlaw02_ThresholdMeets.j2 k2 x5_2 t269 ((Go.bits .and .i64 t269 t271) == 0) t250 t272 t255 t256 t259) else (trustquorumlaw02_ThresholdMeets.j2 k2 x5_2 t269 false t250 t272 t255 t256 t259))) = some r := by rw [if_pos rfl] at H; exact H
                  clear H
                  have H := H1
                  clear H1
                  replace H := Option.bind_eq_some_iff.mp H
                  obtain ⟨t274, A540, H⟩ := H
                  replace H : (if t274 = true then (trustquorumlaw02_ThresholdMeets.j2 k2 x5_2 t269 ((Go.bits .and .i64 t269 t271) == 0) t250 t272 t255 t256 t259) else (trustquorumlaw02_ThresholdMeets.j2 k2 x5_2 t269 false t250 t272 t255 t256 t259)) = some r := H
                  have A54 := Aside0.mk A540
                  clear A540
                  by_cases c55 : t274 = true
                  · subst c55
                    have H1 : (trustquorumlaw02_ThresholdMeets.j2 k2 x5_2 t269 ((Go.bits .and .i64 t269 t271) == 0) t250 t272 t255 t256 t259) = some r := by rw [if_pos rfl] at H; exact H
                    clear H
                    have H := H1
                    clear H1
                    have H' := Aside0.mk H
                    clear H
                    have hnb56 := NB263_252.out
                    have hnc56 := NB252_263.out
                    have hcz57_0 : w51.cell? ⟨gb263, 0, none⟩ = some (.int .i64 t255) := (blk_cell BK263.out 0).trans rfl
                    have hcz57_1 : w51.cell? ⟨gb263, 1, none⟩ = some (.slice Ao12 t256.length co12) := (blk_cell BK263.out 1).trans rfl
                    have hcz57_2 : w51.cell? ⟨gb263, 2, none⟩ = some (.slice Ao13 t259.length co13) := (blk_cell BK263.out 2).trans rfl
                    have hfz57_0 := blk_frozen BK263.out 0
                    have hfz57_1 := blk_frozen BK263.out 1
                    have hfz57_2 := blk_frozen BK263.out 2
                    go_wp2_with (first | ((with_reducible refine gate_callee (f := 11) rfl ?_); refine goesL_ (some 40) rfl rfl Try.func11 (by kernel_rfl) rfl #[.agg #[.int .i64 t255, .slice Ao12 t256.length co12, .slice Ao13 t259.length co13], .int .i64 t269] rfl (by (try simp only [List.map_toArray, List.map_cons, List.map_nil]); first | done | rfl | (simp only [List.length_drop, List.length_take]; rfl)) ?_; (with_reducible refine (threshold_Satisfied.calls k2 t255 _ _ t256 _ _ t259 t269 true _ ?side1 ?side2 ?side3 ?side4 A52.out).mono ?_); (case side1 => repeat (first | exact (Kd.R_reads' HO_264001.out).2.2 | (with_reducible refine Kd.C_alloc ?_ _) | (with_reducible refine Kd.C_drewN ?_ _) | (with_reducible refine Kd.C_drew ?_))); (case side2 => exact (Kd.R_reads' HO_264001.out).2.1); (case side3 => repeat (first | exact (Kd.R_reads' HO_264002.out).2.2 | (with_reducible refine Kd.C_alloc ?_ _) | (with_reducible refine Kd.C_drewN ?_ _) | (with_reducible refine Kd.C_drew ?_))); (case side4 => exact (Kd.R_reads' HO_264002.out).2.1); rintro e w58 ⟨rfl, hb⟩; refine ⟨_, rfl, ?_⟩; have n0_ := Aside0.mk (Kd.R_below (by (with_reducible repeat (first | apply Kd.R_alloc | apply Kd.R_drewN | apply Kd.R_drew)); exact HO_264001.out) hb); have n1_ := Aside0.mk (Kd.R_below (by (with_reducible repeat (first | apply Kd.R_alloc | apply Kd.R_drewN | apply Kd.R_drew)); exact HO_264002.out) hb); have n2_ := Aside0.mk (blk_below (g := gb263) (o := .cells #[.int .i64 t255, .slice Ao12 t256.length co12, .slice Ao13 t259.length co13] 27 (0, 0)) (by (with_reducible repeat (first | refine blk_drewN ?_ _ | refine blk_drew ?_ | refine blk_alloc ?_ _)); exact BK263.out) hb); have n3_ := Aside0.mk (IsS43.below (by repeat (first | (with_reducible first | exact HI252.out | apply IsS43.alloc | apply IsS43.drewN | apply IsS43.drew | apply IsS43.set_1 | refine IsS43.far ?_ NB252_263.out _) | exact HI252.out)) hb); have n4_ := Aside0.mk (below_step (by repeat (first | (with_reducible first | exact HB.out | apply below_alloc | apply pw_below_drewN | apply below_drew1 | refine below_set ?_ (IsS43.ge HI252.out) | refine below_set ?_ GE263.out) | exact HB.out)) hb); clear HO_264001; clear HO_264002; clear BK263; clear HI252; clear HB; have HO_264001 := n0_; have HO_264002 := n1_; have BK263 := n2_; have HI252 := n3_; have HB := n4_; clear n0_ n1_ n2_ n3_ n4_; (try clear hb); (try clear hb2); (try clear hk); (try clear hi); have hcz59_0 : w58.cell? ⟨gb263, 0, none⟩ = some (.int .i64 t255) := (blk_cell BK263.out 0).trans rfl; have hcz59_1 : w58.cell? ⟨gb263, 1, none⟩ = some (.slice Ao12 t256.length co12) := (blk_cell BK263.out 1).trans rfl; have hcz59_2 : w58.cell? ⟨gb263, 2, none⟩ = some (.slice Ao13 t259.length co13) := (blk_cell BK263.out 2).trans rfl; have hfz59_0 := blk_frozen BK263.out 0; have hfz59_1 := blk_frozen BK263.out 1; have hfz59_2 := blk_frozen BK263.out 2) | (go_at_call 12; (with_reducible refine (threshold_Blocked.calls k2 t255 _ _ t256 _ _ t259 t271 true _ ?side1 ?side2 ?side3 ?side4 A54.out).mono ?_); (case side1 => repeat (first | exact (Kd.R_reads' HO_264001.out).2.2 | (with_reducible refine Kd.C_alloc ?_ _) | (with_reducible refine Kd.C_drewN ?_ _) | (with_reducible refine Kd.C_drew ?_))); (case side2 => exact (Kd.R_reads' HO_264001.out).2.1); (case side3 => repeat (first | exact (Kd.R_reads' HO_264002.out).2.2 | (with_reducible refine Kd.C_alloc ?_ _) | (with_reducible refine Kd.C_drewN ?_ _) | (with_reducible refine Kd.C_drew ?_))); (case side4 => exact (Kd.R_reads' HO_264002.out).2.1); rintro e w60 ⟨rfl, hb⟩; have n0_ := Aside0.mk (Kd.R_below (by (with_reducible repeat (first | apply Kd.R_alloc | apply Kd.R_drewN | apply Kd.R_drew)); exact HO_264001.out) hb); have n1_ := Aside0.mk (Kd.R_below (by (with_reducible repeat (first | apply Kd.R_alloc | apply Kd.R_drewN | apply Kd.R_drew)); exact HO_264002.out) hb); have n2_ := Aside0.mk (blk_below (g := gb263) (o := .cells #[.int .i64 t255, .slice Ao12 t256.length co12, .slice Ao13 t259.length co13] 27 (0, 0)) (by (with_reducible repeat (first | refine blk_drewN ?_ _ | refine blk_drew ?_ | refine blk_alloc ?_ _)); exact BK263.out) hb); have n3_ := Aside0.mk (IsS43.below (by repeat (first | (with_reducible first | exact HI252.out | apply IsS43.alloc | apply IsS43.drewN | apply IsS43.drew | apply IsS43.set_1 | refine IsS43.far ?_ NB252_263.out _) | exact HI252.out)) hb); have n4_ := Aside0.mk (below_step (by repeat (first | (with_reducible first | exact HB.out | apply below_alloc | apply pw_below_drewN | apply below_drew1 | refine below_set ?_ (IsS43.ge HI252.out) | refine below_set ?_ GE263.out) | exact HB.out)) hb); clear HO_264001; clear HO_264002; clear BK263; clear HI252; clear HB; have HO_264001 := n0_; have HO_264002 := n1_; have BK263 := n2_; have HI252 := n3_; have HB := n4_; clear n0_ n1_ n2_ n3_ n4_; (try clear hb); (try clear hb2); (try clear hk); (try clear hi)))
                    go_meet
                    case rel => exact ⟨_, (((Go.bits .and .i64 t269 t271) == 0)), (by first | rfl | (simp; done) | (simp [*]; done)), H', ⟨by have := HJ4.out; have := HK2.out; first | omega | exact Nat.le_refl _⟩, ⟨by (with_reducible repeat (first | apply Kd.R_alloc | apply Kd.R_drewN | apply Kd.R_drew)); exact HO_264001.out⟩, ⟨by (with_reducible repeat (first | apply Kd.R_alloc | apply Kd.R_drewN | apply Kd.R_drew)); exact HO_264002.out⟩, ⟨by (with_reducible repeat (first | refine blk_drewN ?_ _ | refine blk_drew ?_ | refine blk_alloc ?_ _)); exact BK263.out⟩, ⟨by repeat (first | (with_reducible first | exact HI252.out | apply IsS43.alloc | apply IsS43.drewN | apply IsS43.drew | apply IsS43.set_1 | refine IsS43.far ?_ NB252_263.out _) | exact HI252.out)⟩, ⟨by repeat (first | (with_reducible first | exact HB.out | apply below_alloc | apply pw_below_drewN | apply below_drew1 | refine below_set ?_ (IsS43.ge HI252.out) | refine below_set ?_ GE263.out) | exact HB.out)⟩⟩
                  · replace c55 := Bool.eq_false_iff.mpr c55
                    subst c55
                    have H1 : (trustquorumlaw02_ThresholdMeets.j2 k2 x5_2 t269 false t250 t272 t255 t256 t259) = some r := by rw [if_neg (show ¬ (false = true) by decide)] at H; exact H
                    clear H
                    have H := H1
                    clear H1
                    have H' := Aside0.mk H
                    clear H
                    have hnb61 := NB263_252.out
                    have hnc61 := NB252_263.out
                    have hcz62_0 : w51.cell? ⟨gb263, 0, none⟩ = some (.int .i64 t255) := (blk_cell BK263.out 0).trans rfl
                    have hcz62_1 : w51.cell? ⟨gb263, 1, none⟩ = some (.slice Ao12 t256.length co12) := (blk_cell BK263.out 1).trans rfl
                    have hcz62_2 : w51.cell? ⟨gb263, 2, none⟩ = some (.slice Ao13 t259.length co13) := (blk_cell BK263.out 2).trans rfl
                    have hfz62_0 := blk_frozen BK263.out 0
                    have hfz62_1 := blk_frozen BK263.out 1
                    have hfz62_2 := blk_frozen BK263.out 2
                    go_wp2_with (first | ((with_reducible refine gate_callee (f := 11) rfl ?_); refine goesL_ (some 40) rfl rfl Try.func11 (by kernel_rfl) rfl #[.agg #[.int .i64 t255, .slice Ao12 t256.length co12, .slice Ao13 t259.length co13], .int .i64 t269] rfl (by (try simp only [List.map_toArray, List.map_cons, List.map_nil]); first | done | rfl | (simp only [List.length_drop, List.length_take]; rfl)) ?_; (with_reducible refine (threshold_Satisfied.calls k2 t255 _ _ t256 _ _ t259 t269 true _ ?side1 ?side2 ?side3 ?side4 A52.out).mono ?_); (case side1 => repeat (first | exact (Kd.R_reads' HO_264001.out).2.2 | (with_reducible refine Kd.C_alloc ?_ _) | (with_reducible refine Kd.C_drewN ?_ _) | (with_reducible refine Kd.C_drew ?_))); (case side2 => exact (Kd.R_reads' HO_264001.out).2.1); (case side3 => repeat (first | exact (Kd.R_reads' HO_264002.out).2.2 | (with_reducible refine Kd.C_alloc ?_ _) | (with_reducible refine Kd.C_drewN ?_ _) | (with_reducible refine Kd.C_drew ?_))); (case side4 => exact (Kd.R_reads' HO_264002.out).2.1); rintro e w63 ⟨rfl, hb⟩; refine ⟨_, rfl, ?_⟩; have n0_ := Aside0.mk (Kd.R_below (by (with_reducible repeat (first | apply Kd.R_alloc | apply Kd.R_drewN | apply Kd.R_drew)); exact HO_264001.out) hb); have n1_ := Aside0.mk (Kd.R_below (by (with_reducible repeat (first | apply Kd.R_alloc | apply Kd.R_drewN | apply Kd.R_drew)); exact HO_264002.out) hb); have n2_ := Aside0.mk (blk_below (g := gb263) (o := .cells #[.int .i64 t255, .slice Ao12 t256.length co12, .slice Ao13 t259.length co13] 27 (0, 0)) (by (with_reducible repeat (first | refine blk_drewN ?_ _ | refine blk_drew ?_ | refine blk_alloc ?_ _)); exact BK263.out) hb); have n3_ := Aside0.mk (IsS43.below (by repeat (first | (with_reducible first | exact HI252.out | apply IsS43.alloc | apply IsS43.drewN | apply IsS43.drew | apply IsS43.set_1 | refine IsS43.far ?_ NB252_263.out _) | exact HI252.out)) hb); have n4_ := Aside0.mk (below_step (by repeat (first | (with_reducible first | exact HB.out | apply below_alloc | apply pw_below_drewN | apply below_drew1 | refine below_set ?_ (IsS43.ge HI252.out) | refine below_set ?_ GE263.out) | exact HB.out)) hb); clear HO_264001; clear HO_264002; clear BK263; clear HI252; clear HB; have HO_264001 := n0_; have HO_264002 := n1_; have BK263 := n2_; have HI252 := n3_; have HB := n4_; clear n0_ n1_ n2_ n3_ n4_; (try clear hb); (try clear hb2); (try clear hk); (try clear hi); have hcz64_0 : w63.cell? ⟨gb263, 0, none⟩ = some (.int .i64 t255) := (blk_cell BK263.out 0).trans rfl; have hcz64_1 : w63.cell? ⟨gb263, 1, none⟩ = some (.slice Ao12 t256.length co12) := (blk_cell BK263.out 1).trans rfl; have hcz64_2 : w63.cell? ⟨gb263, 2, none⟩ = some (.slice Ao13 t259.length co13) := (blk_cell BK263.out 2).trans rfl; have hfz64_0 := blk_frozen BK263.out 0; have hfz64_1 := blk_frozen BK263.out 1; have hfz64_2 := blk_frozen BK263.out 2) | (go_at_call 12; (with_reducible refine (threshold_Blocked.calls k2 t255 _ _ t256 _ _ t259 t271 false _ ?side1 ?side2 ?side3 ?side4 A54.out).mono ?_); (case side1 => repeat (first | exact (Kd.R_reads' HO_264001.out).2.2 | (with_reducible refine Kd.C_alloc ?_ _) | (with_reducible refine Kd.C_drewN ?_ _) | (with_reducible refine Kd.C_drew ?_))); (case side2 => exact (Kd.R_reads' HO_264001.out).2.1); (case side3 => repeat (first | exact (Kd.R_reads' HO_264002.out).2.2 | (with_reducible refine Kd.C_alloc ?_ _) | (with_reducible refine Kd.C_drewN ?_ _) | (with_reducible refine Kd.C_drew ?_))); (case side4 => exact (Kd.R_reads' HO_264002.out).2.1); rintro e w65 ⟨rfl, hb⟩; have n0_ := Aside0.mk (Kd.R_below (by (with_reducible repeat (first | apply Kd.R_alloc | apply Kd.R_drewN | apply Kd.R_drew)); exact HO_264001.out) hb); have n1_ := Aside0.mk (Kd.R_below (by (with_reducible repeat (first | apply Kd.R_alloc | apply Kd.R_drewN | apply Kd.R_drew)); exact HO_264002.out) hb); have n2_ := Aside0.mk (blk_below (g := gb263) (o := .cells #[.int .i64 t255, .slice Ao12 t256.length co12, .slice Ao13 t259.length co13] 27 (0, 0)) (by (with_reducible repeat (first | refine blk_drewN ?_ _ | refine blk_drew ?_ | refine blk_alloc ?_ _)); exact BK263.out) hb); have n3_ := Aside0.mk (IsS43.below (by repeat (first | (with_reducible first | exact HI252.out | apply IsS43.alloc | apply IsS43.drewN | apply IsS43.drew | apply IsS43.set_1 | refine IsS43.far ?_ NB252_263.out _) | exact HI252.out)) hb); have n4_ := Aside0.mk (below_step (by repeat (first | (with_reducible first | exact HB.out | apply below_alloc | apply pw_below_drewN | apply below_drew1 | refine below_set ?_ (IsS43.ge HI252.out) | refine below_set ?_ GE263.out) | exact HB.out)) hb); clear HO_264001; clear HO_264002; clear BK263; clear HI252; clear HB; have HO_264001 := n0_; have HO_264002 := n1_; have BK263 := n2_; have HI252 := n3_; have HB := n4_; clear n0_ n1_ n2_ n3_ n4_; (try clear hb); (try clear hb2); (try clear hk); (try clear hi)))
                    go_meet
                    case rel => exact ⟨_, (false), (by first | rfl | (simp; done) | (simp [*]; done)), H', ⟨by have := HJ4.out; have := HK2.out; first | omega | exact Nat.le_refl _⟩, ⟨by (with_reducible repeat (first | apply Kd.R_alloc | apply Kd.R_drewN | apply Kd.R_drew)); exact HO_264001.out⟩, ⟨by (with_reducible repeat (first | apply Kd.R_alloc | apply Kd.R_drewN | apply Kd.R_drew)); exact HO_264002.out⟩, ⟨by (with_reducible repeat (first | refine blk_drewN ?_ _ | refine blk_drew ?_ | refine blk_alloc ?_ _)); exact BK263.out⟩, ⟨by repeat (first | (with_reducible first | exact HI252.out | apply IsS43.alloc | apply IsS43.drewN | apply IsS43.drew | apply IsS43.set_1 | refine IsS43.far ?_ NB252_263.out _) | exact HI252.out)⟩, ⟨by repeat (first | (with_reducible first | exact HB.out | apply below_alloc | apply pw_below_drewN | apply below_drew1 | refine below_set ?_ (IsS43.ge HI252.out) | refine below_set ?_ GE263.out) | exact HB.out)⟩⟩
                · replace c53 := Bool.eq_false_iff.mpr c53
                  subst c53
                  have H1 : (trustquorumlaw02_ThresholdMeets.j2 k2 x5_2 t269 false t250 t272 t255 t256 t259) = some r := by rw [if_neg (show ¬ (false = true) by decide)] at H; exact H
                  clear H
                  have H := H1
                  clear H1
                  have H' := Aside0.mk H
                  clear H
                  have hnb66 := NB263_252.out
                  have hnc66 := NB252_263.out
                  have hcz67_0 : w51.cell? ⟨gb263, 0, none⟩ = some (.int .i64 t255) := (blk_cell BK263.out 0).trans rfl
                  have hcz67_1 : w51.cell? ⟨gb263, 1, none⟩ = some (.slice Ao12 t256.length co12) := (blk_cell BK263.out 1).trans rfl
                  have hcz67_2 : w51.cell? ⟨gb263, 2, none⟩ = some (.slice Ao13 t259.length co13) := (blk_cell BK263.out 2).trans rfl
                  have hfz67_0 := blk_frozen BK263.out 0
                  have hfz67_1 := blk_frozen BK263.out 1
                  have hfz67_2 := blk_frozen BK263.out 2
                  go_wp2_with (first | ((with_reducible refine gate_callee (f := 11) rfl ?_); refine goesL_ (some 40) rfl rfl Try.func11 (by kernel_rfl) rfl #[.agg #[.int .i64 t255, .slice Ao12 t256.length co12, .slice Ao13 t259.length co13], .int .i64 t269] rfl (by (try simp only [List.map_toArray, List.map_cons, List.map_nil]); first | done | rfl | (simp only [List.length_drop, List.length_take]; rfl)) ?_; (with_reducible refine (threshold_Satisfied.calls k2 t255 _ _ t256 _ _ t259 t269 false _ ?side1 ?side2 ?side3 ?side4 A52.out).mono ?_); (case side1 => repeat (first | exact (Kd.R_reads' HO_264001.out).2.2 | (with_reducible refine Kd.C_alloc ?_ _) | (with_reducible refine Kd.C_drewN ?_ _) | (with_reducible refine Kd.C_drew ?_))); (case side2 => exact (Kd.R_reads' HO_264001.out).2.1); (case side3 => repeat (first | exact (Kd.R_reads' HO_264002.out).2.2 | (with_reducible refine Kd.C_alloc ?_ _) | (with_reducible refine Kd.C_drewN ?_ _) | (with_reducible refine Kd.C_drew ?_))); (case side4 => exact (Kd.R_reads' HO_264002.out).2.1); rintro e w68 ⟨rfl, hb⟩; refine ⟨_, rfl, ?_⟩; have n0_ := Aside0.mk (Kd.R_below (by (with_reducible repeat (first | apply Kd.R_alloc | apply Kd.R_drewN | apply Kd.R_drew)); exact HO_264001.out) hb); have n1_ := Aside0.mk (Kd.R_below (by (with_reducible repeat (first | apply Kd.R_alloc | apply Kd.R_drewN | apply Kd.R_drew)); exact HO_264002.out) hb); have n2_ := Aside0.mk (blk_below (g := gb263) (o := .cells #[.int .i64 t255, .slice Ao12 t256.length co12, .slice Ao13 t259.length co13] 27 (0, 0)) (by (with_reducible repeat (first | refine blk_drewN ?_ _ | refine blk_drew ?_ | refine blk_alloc ?_ _)); exact BK263.out) hb); have n3_ := Aside0.mk (IsS43.below (by repeat (first | (with_reducible first | exact HI252.out | apply IsS43.alloc | apply IsS43.drewN | apply IsS43.drew | apply IsS43.set_1 | refine IsS43.far ?_ NB252_263.out _) | exact HI252.out)) hb); have n4_ := Aside0.mk (below_step (by repeat (first | (with_reducible first | exact HB.out | apply below_alloc | apply pw_below_drewN | apply below_drew1 | refine below_set ?_ (IsS43.ge HI252.out) | refine below_set ?_ GE263.out) | exact HB.out)) hb); clear HO_264001; clear HO_264002; clear BK263; clear HI252; clear HB; have HO_264001 := n0_; have HO_264002 := n1_; have BK263 := n2_; have HI252 := n3_; have HB := n4_; clear n0_ n1_ n2_ n3_ n4_; (try clear hb); (try clear hb2); (try clear hk); (try clear hi)))
                  go_meet
                  case rel => exact ⟨_, (false), (by first | rfl | (simp; done) | (simp [*]; done)), H', ⟨by have := HJ4.out; have := HK2.out; first | omega | exact Nat.le_refl _⟩, ⟨by (with_reducible repeat (first | apply Kd.R_alloc | apply Kd.R_drewN | apply Kd.R_drew)); exact HO_264001.out⟩, ⟨by (with_reducible repeat (first | apply Kd.R_alloc | apply Kd.R_drewN | apply Kd.R_drew)); exact HO_264002.out⟩, ⟨by (with_reducible repeat (first | refine blk_drewN ?_ _ | refine blk_drew ?_ | refine blk_alloc ?_ _)); exact BK263.out⟩, ⟨by repeat (first | (with_reducible first | exact HI252.out | apply IsS43.alloc | apply IsS43.drewN | apply IsS43.drew | apply IsS43.set_1 | refine IsS43.far ?_ NB252_263.out _) | exact HI252.out)⟩, ⟨by repeat (first | (with_reducible first | exact HB.out | apply below_alloc | apply pw_below_drewN | apply below_drew1 | refine below_set ?_ (IsS43.ge HI252.out) | refine below_set ?_ GE263.out) | exact HB.out)⟩⟩
              case rest =>
                clear HC49
                try clear c1
                try clear c2
                try clear p2
                try clear c3
                try clear c4
                try clear c5
                try clear c6
                try clear c8
                try clear c9
                try clear c10
                try clear c11
                try clear c13
                try clear c15
                try clear c17
                try clear c18
                try clear c24
                try clear c26
                try clear c35
                try clear c42
                try clear c45
                try clear c46
                try clear c46b0
                try clear c53
                try clear c55
                try clear c56
                try clear c61
                try clear c66
                try clear hcz11_0
                try clear hcz11_1
                try clear hcz11_2
                try clear hcz19_0
                try clear hcz19_1
                try clear hcz19_2
                try clear hcz21_0
                try clear hcz21_1
                try clear hcz21_2
                try clear hcz27_0
                try clear hcz27_1
                try clear hcz27_2
                try clear hcz29_0
                try clear hcz29_1
                try clear hcz29_2
                try clear hcz31_0
                try clear hcz31_1
                try clear hcz31_2
                try clear hcz33_0
                try clear hcz33_1
                try clear hcz33_2
                try clear hcz36_0
                try clear hcz36_1
                try clear hcz36_2
                try clear hcz38_0
                try clear hcz38_1
                try clear hcz38_2
                try clear hcz40_0
                try clear hcz40_1
                try clear hcz40_2
                try clear hcz43_0
                try clear hcz43_1
                try clear hcz43_2
                try clear hcz57_0
                try clear hcz57_1
                try clear hcz57_2
                try clear hcz59_0
                try clear hcz59_1
                try clear hcz59_2
                try clear hcz62_0
                try clear hcz62_1
                try clear hcz62_2
                try clear hcz64_0
                try clear hcz64_1
                try clear hcz64_2
                try clear hcz67_0
                try clear hcz67_1
                try clear hcz67_2
                try clear hfz11_0
                try clear hfz11_1
                try clear hfz11_2
                try clear hfz19_0
                try clear hfz19_1
                try clear hfz19_2
                try clear hfz21_0
                try clear hfz21_1
                try clear hfz21_2
                try clear hfz27_0
                try clear hfz27_1
                try clear hfz27_2
                try clear hfz29_0
                try clear hfz29_1
                try clear hfz29_2
                try clear hfz31_0
                try clear hfz31_1
                try clear hfz31_2
                try clear hfz33_0
                try clear hfz33_1
                try clear hfz33_2
                try clear hfz36_0
                try clear hfz36_1
                try clear hfz36_2
                try clear hfz38_0
                try clear hfz38_1
                try clear hfz38_2
                try clear hfz40_0
                try clear hfz40_1
                try clear hfz40_2
                try clear hfz43_0
                try clear hfz43_1
                try clear hfz43_2
                try clear hfz57_0
                try clear hfz57_1
                try clear hfz57_2
                try clear hfz59_0
                try clear hfz59_1
                try clear hfz59_2
                try clear hfz62_0
                try clear hfz62_1
                try clear hfz62_2
                try clear hfz64_0
                try clear hfz64_1
                try clear hfz64_2
                try clear hfz67_0
                try clear hfz67_1
                try clear hfz67_2
                try clear p2
                obtain ⟨kq, x51_48, rfl, HA, HJ48, HO_264001, HO_264002, BK263, HI252, HB⟩ := hcut
                cases kq with
                | zero => exact absurd HA.out (by simp [trustquorumlaw02_ThresholdMeets.j2])
                | succ kj48 =>
                  have H := HA.out
                  clear HA
                  simp only [trustquorumlaw02_ThresholdMeets.j2] at H
                  by_cases c69 : x51_48 = true
                  · subst c69
                    have H1 : (some false) = some r := by rw [if_pos rfl] at H; exact H
                    clear H
                    have H := H1
                    clear H1
                    obtain rfl := Option.some.inj H
                    go_wp2
                    go_ret
                    exact ⟨by first | rfl | (simp [errW_none, errW_some] <;> rfl) | (simp [*, errW_none, errW_some] <;> rfl), by repeat (first | (with_reducible first | exact HB.out | apply below_alloc | apply pw_below_drewN | apply below_drew1 | refine below_set ?_ (IsS43.ge HI252.out) | refine below_set ?_ GE263.out) | exact HB.out)⟩
                  · replace c69 := Bool.eq_false_iff.mpr c69
                    subst c69
                    have H1 : ((threshold_Satisfied.f kj48 t255 t256 t259 t269).bind fun t275 => ((threshold_Blocked.f kj48 t255 t256 t259 (wrap64 (1023 - t269))).bind fun t276 => (if (t275 == t276) = true then (some false) else (trustquorumlaw02_ThresholdMeets.l0 kj48 (wrap64 (x5_2 + 1)) t250 t272 t255 t256 t259)))) = some r := by rw [if_neg (show ¬ (false = true) by decide)] at H; exact H
                    clear H
                    have H := H1
                    clear H1
                    replace H := Option.bind_eq_some_iff.mp H
                    obtain ⟨t275, A700, H⟩ := H
                    replace H : ((threshold_Blocked.f kj48 t255 t256 t259 (wrap64 (1023 - t269))).bind fun t276 => (if (t275 == t276) = true then (some false) else (trustquorumlaw02_ThresholdMeets.l0 kj48 (wrap64 (x5_2 + 1)) t250 t272 t255 t256 t259))) = some r := H
                    have A70 := Aside0.mk A700
                    clear A700
                    replace H := Option.bind_eq_some_iff.mp H
                    obtain ⟨t276, A710, H⟩ := H
                    replace H : (if (t275 == t276) = true then (some false) else (trustquorumlaw02_ThresholdMeets.l0 kj48 (wrap64 (x5_2 + 1)) t250 t272 t255 t256 t259)) = some r := H
                    have A71 := Aside0.mk A710
                    clear A710
                    by_cases c72 : (t275 == t276) = true
                    · rw [if_pos c72] at H
                      have c72b0 : (t275 == t276) = true := c72
                      (try (have c72b1 : decide (t275 = t276) = true := by simpa using c72))
                      (try (have c72b2 : (t275 == t276) = true := by simpa using c72))
                      clear c72
                      obtain rfl := Option.some.inj H
                      try go_wp2
                      have n0_ := Aside0.mk (Kd.R_drew HO_264001.out)
                      have n1_ := Aside0.mk (Kd.R_drew HO_264002.out)
                      have n2_ := Aside0.mk (blk_drew BK263.out)
                      have n3_ := Aside0.mk (IsS43.drew HI252.out)
                      have n4_ := Aside0.mk (below_drew1 HB.out)
                      clear HO_264001
                      clear HO_264002
                      clear BK263
                      clear HI252
                      clear HB
                      have HO_264001 := n0_
                      have HO_264002 := n1_
                      have BK263 := n2_
                      have HI252 := n3_
                      have HB := n4_
                      clear n0_ n1_ n2_ n3_ n4_
                      refine start_ (n := 8) (S := fun w' => w'.cell? ⟨gb263, 0, none⟩ = some (.int .i64 t255) ∧ w'.cell? ⟨gb263, 1, none⟩ = some (.slice Ao12 t256.length co12) ∧ w'.cell? ⟨gb263, 2, none⟩ = some (.slice Ao13 t259.length co13)) (ds := []) #[false, false, false, false, false, false, false, false] (by kernel_rfl) rfl rfl ⟨(blk_cell BK263.out 0).trans rfl, (blk_cell BK263.out 1).trans rfl, (blk_cell BK263.out 2).trans rfl⟩ (fun hHeld => ?_); refine with_tabW trustquorumlaw02_ThresholdMeets.tab11 trustquorumlaw02_ThresholdMeets.bits11 (fun HT_ HW_ => ?_)
                      generalize wc.drew = w73 at HO_264001 HO_264002 BK263 HI252 HB hHeld ⊢
                      refine pure_ (i := 1) (N := some 53) (v := ?_) (a' := ?_) #[false, true, false, false, false, false, false, false] rfl rfl (any_of HT_.out (by kernel_rfl)) (fun _ _ _ h => h) (Or.inl ⟨by rfl, ?_⟩) ?_ ?_
                      rotate_left
                      · intro w'
                        go_simp
                        with_reducible rfl
                      rotate_left
                      · simp only [Act.put, List.setIfInBounds_toArray, List.set_cons_zero, List.set_cons_succ, i64_w, i32_w]
                        rfl
                      refine pure_ (i := 4) (N := some 56) (v := ?_) (a' := ?_) #[false, true, false, false, true, false, false, false] rfl rfl (any_of HT_.out (by kernel_rfl)) (fun _ _ _ h => h) (Or.inl ⟨by rfl, ?_⟩) ?_ ?_
                      rotate_left
                      · intro w'
                        go_simp
                        with_reducible rfl
                      rotate_left
                      · simp only [Act.put, List.setIfInBounds_toArray, List.set_cons_zero, List.set_cons_succ, i64_w, i32_w]
                        rfl
                      refine pure_ (i := 5) (N := some 57) (v := ?_) (a' := ?_) #[false, true, false, false, true, true, false, false] rfl rfl (any_of HT_.out (by kernel_rfl)) (fun _ _ _ h => h) (Or.inl ⟨by rfl, ?_⟩) ?_ ?_
                      rotate_left
                      · intro w'
                        go_simp
                        with_reducible rfl
                      rotate_left
                      · simp only [Act.put, List.setIfInBounds_toArray, List.set_cons_zero, List.set_cons_succ, i64_w, i32_w]
                        rfl
                      refine take_ (i := 0) (N := some 52) (v := ?_) (a' := ?_) #[true, true, false, false, true, true, false, false] rfl rfl (take_ofW HT_.out HW_.out (by kernel_rfl)) (fun _ _ _ h => h) (Or.inl ⟨by rfl, ?_⟩) hHeld ?_ ?_
                      rotate_left
                      · rintro w' ⟨s0, s1, s2⟩
                        go_simp
                        with_reducible rfl
                      rotate_left
                      · simp only [Act.put, List.setIfInBounds_toArray, List.set_cons_zero, List.set_cons_succ, i64_w, i32_w]
                        rfl
                      refine take_ (i := 3) (N := some 55) (v := ?_) (a' := ?_) #[true, true, false, true, true, true, false, false] rfl rfl (take_ofW HT_.out HW_.out (by kernel_rfl)) (fun _ _ _ h => h) (Or.inl ⟨by rfl, ?_⟩) hHeld ?_ ?_
                      rotate_left
                      · rintro w' ⟨s0, s1, s2⟩
                        go_simp
                        with_reducible rfl
                      rotate_left
                      · simp only [Act.put, List.setIfInBounds_toArray, List.set_cons_zero, List.set_cons_succ, i64_w, i32_w]
                        rfl
                      refine one_ (i := 2) (N := some 54) #[true, true, true, true, true, true, false, false] rfl rfl (one_of HT_.out (by kernel_rfl)) (by decide) (fun K hK => ?_)
                      refine goes_ Try.func11 (by kernel_rfl) rfl #[.agg #[.int .i64 t255, .slice Ao12 t256.length co12, .slice Ao13 t259.length co13], .int .i64 t269] (by rfl) rfl rfl (by (try simp only [List.map_toArray, List.map_cons, List.map_nil]); first | done | rfl | (simp only [List.length_drop, List.length_take]; rfl)) ?_
                      with_reducible refine (threshold_Satisfied.calls kj48 t255 _ _ t256 _ _ t259 t269 t275 _ ?side1 ?side2 ?side3 ?side4 A70.out).mono ?_
                      (case side1 => repeat (first | exact (Kd.R_reads' HO_264001.out).2.2 | (with_reducible refine Kd.C_alloc ?_ _) | (with_reducible refine Kd.C_drewN ?_ _) | (with_reducible refine Kd.C_drew ?_)))
                      (case side2 => exact (Kd.R_reads' HO_264001.out).2.1)
                      (case side3 => repeat (first | exact (Kd.R_reads' HO_264002.out).2.2 | (with_reducible refine Kd.C_alloc ?_ _) | (with_reducible refine Kd.C_drewN ?_ _) | (with_reducible refine Kd.C_drew ?_)))
                      (case side4 => exact (Kd.R_reads' HO_264002.out).2.1)
                      rintro e w74 ⟨rfl, hb⟩
                      refine ⟨_, rfl, ?_⟩
                      have n0_ := Aside0.mk (Kd.R_below (by (with_reducible repeat (first | apply Kd.R_alloc | apply Kd.R_drewN | apply Kd.R_drew)); exact HO_264001.out) hb)
                      have n1_ := Aside0.mk (Kd.R_below (by (with_reducible repeat (first | apply Kd.R_alloc | apply Kd.R_drewN | apply Kd.R_drew)); exact HO_264002.out) hb)
                      have n2_ := Aside0.mk (blk_below (g := gb263) (o := .cells #[.int .i64 t255, .slice Ao12 t256.length co12, .slice Ao13 t259.length co13] 27 (0, 0)) (by (with_reducible repeat (first | refine blk_drewN ?_ _ | refine blk_drew ?_ | refine blk_alloc ?_ _)); exact BK263.out) hb)
                      have n3_ := Aside0.mk (IsS43.below (by repeat (first | (with_reducible first | exact HI252.out | apply IsS43.alloc | apply IsS43.drewN | apply IsS43.drew | apply IsS43.set_1 | refine IsS43.far ?_ NB252_263.out _) | exact HI252.out)) hb)
                      have n4_ := Aside0.mk (below_step (by repeat (first | (with_reducible first | exact HB.out | apply below_alloc | apply pw_below_drewN | apply below_drew1 | refine below_set ?_ (IsS43.ge HI252.out) | refine below_set ?_ GE263.out) | exact HB.out)) hb)
                      clear HO_264001
                      clear HO_264002
                      clear BK263
                      clear HI252
                      clear HB
                      have HO_264001 := n0_
                      have HO_264002 := n1_
                      have BK263 := n2_
                      have HI252 := n3_
                      have HB := n4_
                      clear n0_ n1_ n2_ n3_ n4_
                      (try clear hb)
                      (try clear hb2)
                      (try clear hk)
                      (try clear hi)
                      refine hK.out _ _ ⟨(blk_cell BK263.out 0).trans rfl, (blk_cell BK263.out 1).trans rfl, (blk_cell BK263.out 2).trans rfl⟩ (fun hHeld => ?_)
                      clear hK K
                      refine norm_ (a' := ?_) ?_ ?_
                      rotate_left
                      · show Act.put _ (some 54) _ = _
                        simp only [Act.put, List.setIfInBounds_toArray, List.set_cons_zero, List.set_cons_succ, i64_w, i32_w]
                        rfl
                      refine one_ (i := 6) (N := some 58) #[true, true, true, true, true, true, true, false] rfl rfl (one_of HT_.out (by kernel_rfl)) (by decide) (fun K hK => ?_)
                      refine goes_ Try.func12 (by kernel_rfl) rfl #[.agg #[.int .i64 t255, .slice Ao12 t256.length co12, .slice Ao13 t259.length co13], .int .i64 (wrap64 (1023 - t269))] (by rfl) rfl rfl (by (try simp only [List.map_toArray, List.map_cons, List.map_nil]); first | done | rfl | (simp only [List.length_drop, List.length_take]; rfl)) ?_
                      with_reducible refine (threshold_Blocked.calls kj48 t255 _ _ t256 _ _ t259 (wrap64 (1023 - t269)) t276 _ ?side1 ?side2 ?side3 ?side4 A71.out).mono ?_
                      (case side1 => repeat (first | exact (Kd.R_reads' HO_264001.out).2.2 | (with_reducible refine Kd.C_alloc ?_ _) | (with_reducible refine Kd.C_drewN ?_ _) | (with_reducible refine Kd.C_drew ?_)))
                      (case side2 => exact (Kd.R_reads' HO_264001.out).2.1)
                      (case side3 => repeat (first | exact (Kd.R_reads' HO_264002.out).2.2 | (with_reducible refine Kd.C_alloc ?_ _) | (with_reducible refine Kd.C_drewN ?_ _) | (with_reducible refine Kd.C_drew ?_)))
                      (case side4 => exact (Kd.R_reads' HO_264002.out).2.1)
                      rintro e w75 ⟨rfl, hb⟩
                      refine ⟨_, rfl, ?_⟩
                      have n0_ := Aside0.mk (Kd.R_below (by (with_reducible repeat (first | apply Kd.R_alloc | apply Kd.R_drewN | apply Kd.R_drew)); exact HO_264001.out) hb)
                      have n1_ := Aside0.mk (Kd.R_below (by (with_reducible repeat (first | apply Kd.R_alloc | apply Kd.R_drewN | apply Kd.R_drew)); exact HO_264002.out) hb)
                      have n2_ := Aside0.mk (blk_below (g := gb263) (o := .cells #[.int .i64 t255, .slice Ao12 t256.length co12, .slice Ao13 t259.length co13] 27 (0, 0)) (by (with_reducible repeat (first | refine blk_drewN ?_ _ | refine blk_drew ?_ | refine blk_alloc ?_ _)); exact BK263.out) hb)
                      have n3_ := Aside0.mk (IsS43.below (by repeat (first | (with_reducible first | exact HI252.out | apply IsS43.alloc | apply IsS43.drewN | apply IsS43.drew | apply IsS43.set_1 | refine IsS43.far ?_ NB252_263.out _) | exact HI252.out)) hb)
                      have n4_ := Aside0.mk (below_step (by repeat (first | (with_reducible first | exact HB.out | apply below_alloc | apply pw_below_drewN | apply below_drew1 | refine below_set ?_ (IsS43.ge HI252.out) | refine below_set ?_ GE263.out) | exact HB.out)) hb)
                      clear HO_264001
                      clear HO_264002
                      clear BK263
                      clear HI252
                      clear HB
                      have HO_264001 := n0_
                      have HO_264002 := n1_
                      have BK263 := n2_
                      have HI252 := n3_
                      have HB := n4_
                      clear n0_ n1_ n2_ n3_ n4_
                      (try clear hb)
                      (try clear hb2)
                      (try clear hk)
                      (try clear hi)
                      refine hK.out _ _ ⟨(blk_cell BK263.out 0).trans rfl, (blk_cell BK263.out 1).trans rfl, (blk_cell BK263.out 2).trans rfl⟩ (fun hHeld => ?_)
                      clear hK K
                      refine norm_ (a' := ?_) ?_ ?_
                      rotate_left
                      · show Act.put _ (some 58) _ = _
                        simp only [Act.put, List.setIfInBounds_toArray, List.set_cons_zero, List.set_cons_succ, i64_w, i32_w]
                        rfl
                      refine pure_ (i := 7) (N := some 59) (v := ?_) (a' := ?_) #[true, true, true, true, true, true, true, true] rfl rfl (any_of HT_.out (by kernel_rfl)) (fun _ _ _ h => h) (Or.inl ⟨by rfl, ?_⟩) ?_ ?_
                      rotate_left
                      · intro w'
                        go_simp
                        with_reducible rfl
                      rotate_left
                      · simp only [Act.put, List.setIfInBounds_toArray, List.set_cons_zero, List.set_cons_succ, i64_w, i32_w]
                        rfl
                      refine done_ (done_of HT_.out (by kernel_rfl)) ?_
                      try go_wp2
                      go_ret
                      exact ⟨by first | rfl | (simp [errW_none, errW_some] <;> rfl) | (simp [*, errW_none, errW_some] <;> rfl), by repeat (first | (with_reducible first | exact HB.out | apply below_alloc | apply pw_below_drewN | apply below_drew1 | refine below_set ?_ (IsS43.ge HI252.out) | refine below_set ?_ GE263.out) | exact HB.out)⟩
                    · rw [if_neg c72] at H
                      have c72b0 : (t275 == t276) = false := by simpa using c72
                      (try (have c72b1 : decide (t275 = t276) = false := by simpa using c72))
                      (try (have c72b2 : (t275 == t276) = false := by simpa using c72))
                      (try (have c72b3 : ¬ (t275 = t276) := by simpa using c72))
                      clear c72
                      have H' := Aside0.mk H
                      clear H
                      try go_wp2
                      have n0_ := Aside0.mk (Kd.R_drew HO_264001.out)
                      have n1_ := Aside0.mk (Kd.R_drew HO_264002.out)
                      have n2_ := Aside0.mk (blk_drew BK263.out)
                      have n3_ := Aside0.mk (IsS43.drew HI252.out)
                      have n4_ := Aside0.mk (below_drew1 HB.out)
                      clear HO_264001
                      clear HO_264002
                      clear BK263
                      clear HI252
                      clear HB
                      have HO_264001 := n0_
                      have HO_264002 := n1_
                      have BK263 := n2_
                      have HI252 := n3_
                      have HB := n4_
                      clear n0_ n1_ n2_ n3_ n4_
                      refine start_ (n := 8) (S := fun w' => w'.cell? ⟨gb263, 0, none⟩ = some (.int .i64 t255) ∧ w'.cell? ⟨gb263, 1, none⟩ = some (.slice Ao12 t256.length co12) ∧ w'.cell? ⟨gb263, 2, none⟩ = some (.slice Ao13 t259.length co13)) (ds := []) #[false, false, false, false, false, false, false, false] (by kernel_rfl) rfl rfl ⟨(blk_cell BK263.out 0).trans rfl, (blk_cell BK263.out 1).trans rfl, (blk_cell BK263.out 2).trans rfl⟩ (fun hHeld => ?_); refine with_tabW trustquorumlaw02_ThresholdMeets.tab11 trustquorumlaw02_ThresholdMeets.bits11 (fun HT_ HW_ => ?_)
                      generalize wc.drew = w76 at HO_264001 HO_264002 BK263 HI252 HB hHeld ⊢
                      refine pure_ (i := 1) (N := some 53) (v := ?_) (a' := ?_) #[false, true, false, false, false, false, false, false] rfl rfl (any_of HT_.out (by kernel_rfl)) (fun _ _ _ h => h) (Or.inl ⟨by rfl, ?_⟩) ?_ ?_
                      rotate_left
                      · intro w'
                        go_simp
                        with_reducible rfl
                      rotate_left
                      · simp only [Act.put, List.setIfInBounds_toArray, List.set_cons_zero, List.set_cons_succ, i64_w, i32_w]
                        rfl
                      refine pure_ (i := 4) (N := some 56) (v := ?_) (a' := ?_) #[false, true, false, false, true, false, false, false] rfl rfl (any_of HT_.out (by kernel_rfl)) (fun _ _ _ h => h) (Or.inl ⟨by rfl, ?_⟩) ?_ ?_
                      rotate_left
                      · intro w'
                        go_simp
                        with_reducible rfl
                      rotate_left
                      · simp only [Act.put, List.setIfInBounds_toArray, List.set_cons_zero, List.set_cons_succ, i64_w, i32_w]
                        rfl
                      refine pure_ (i := 5) (N := some 57) (v := ?_) (a' := ?_) #[false, true, false, false, true, true, false, false] rfl rfl (any_of HT_.out (by kernel_rfl)) (fun _ _ _ h => h) (Or.inl ⟨by rfl, ?_⟩) ?_ ?_
                      rotate_left
                      · intro w'
                        go_simp
                        with_reducible rfl
                      rotate_left
                      · simp only [Act.put, List.setIfInBounds_toArray, List.set_cons_zero, List.set_cons_succ, i64_w, i32_w]
                        rfl
                      refine take_ (i := 0) (N := some 52) (v := ?_) (a' := ?_) #[true, true, false, false, true, true, false, false] rfl rfl (take_ofW HT_.out HW_.out (by kernel_rfl)) (fun _ _ _ h => h) (Or.inl ⟨by rfl, ?_⟩) hHeld ?_ ?_
                      rotate_left
                      · rintro w' ⟨s0, s1, s2⟩
                        go_simp
                        with_reducible rfl
                      rotate_left
                      · simp only [Act.put, List.setIfInBounds_toArray, List.set_cons_zero, List.set_cons_succ, i64_w, i32_w]
                        rfl
                      refine take_ (i := 3) (N := some 55) (v := ?_) (a' := ?_) #[true, true, false, true, true, true, false, false] rfl rfl (take_ofW HT_.out HW_.out (by kernel_rfl)) (fun _ _ _ h => h) (Or.inl ⟨by rfl, ?_⟩) hHeld ?_ ?_
                      rotate_left
                      · rintro w' ⟨s0, s1, s2⟩
                        go_simp
                        with_reducible rfl
                      rotate_left
                      · simp only [Act.put, List.setIfInBounds_toArray, List.set_cons_zero, List.set_cons_succ, i64_w, i32_w]
                        rfl
                      refine one_ (i := 2) (N := some 54) #[true, true, true, true, true, true, false, false] rfl rfl (one_of HT_.out (by kernel_rfl)) (by decide) (fun K hK => ?_)
                      refine goes_ Try.func11 (by kernel_rfl) rfl #[.agg #[.int .i64 t255, .slice Ao12 t256.length co12, .slice Ao13 t259.length co13], .int .i64 t269] (by rfl) rfl rfl (by (try simp only [List.map_toArray, List.map_cons, List.map_nil]); first | done | rfl | (simp only [List.length_drop, List.length_take]; rfl)) ?_
                      with_reducible refine (threshold_Satisfied.calls kj48 t255 _ _ t256 _ _ t259 t269 t275 _ ?side1 ?side2 ?side3 ?side4 A70.out).mono ?_
                      (case side1 => repeat (first | exact (Kd.R_reads' HO_264001.out).2.2 | (with_reducible refine Kd.C_alloc ?_ _) | (with_reducible refine Kd.C_drewN ?_ _) | (with_reducible refine Kd.C_drew ?_)))
                      (case side2 => exact (Kd.R_reads' HO_264001.out).2.1)
                      (case side3 => repeat (first | exact (Kd.R_reads' HO_264002.out).2.2 | (with_reducible refine Kd.C_alloc ?_ _) | (with_reducible refine Kd.C_drewN ?_ _) | (with_reducible refine Kd.C_drew ?_)))
                      (case side4 => exact (Kd.R_reads' HO_264002.out).2.1)
                      rintro e w77 ⟨rfl, hb⟩
                      refine ⟨_, rfl, ?_⟩
                      have n0_ := Aside0.mk (Kd.R_below (by (with_reducible repeat (first | apply Kd.R_alloc | apply Kd.R_drewN | apply Kd.R_drew)); exact HO_264001.out) hb)
                      have n1_ := Aside0.mk (Kd.R_below (by (with_reducible repeat (first | apply Kd.R_alloc | apply Kd.R_drewN | apply Kd.R_drew)); exact HO_264002.out) hb)
                      have n2_ := Aside0.mk (blk_below (g := gb263) (o := .cells #[.int .i64 t255, .slice Ao12 t256.length co12, .slice Ao13 t259.length co13] 27 (0, 0)) (by (with_reducible repeat (first | refine blk_drewN ?_ _ | refine blk_drew ?_ | refine blk_alloc ?_ _)); exact BK263.out) hb)
                      have n3_ := Aside0.mk (IsS43.below (by repeat (first | (with_reducible first | exact HI252.out | apply IsS43.alloc | apply IsS43.drewN | apply IsS43.drew | apply IsS43.set_1 | refine IsS43.far ?_ NB252_263.out _) | exact HI252.out)) hb)
                      have n4_ := Aside0.mk (below_step (by repeat (first | (with_reducible first | exact HB.out | apply below_alloc | apply pw_below_drewN | apply below_drew1 | refine below_set ?_ (IsS43.ge HI252.out) | refine below_set ?_ GE263.out) | exact HB.out)) hb)
                      clear HO_264001
                      clear HO_264002
                      clear BK263
                      clear HI252
                      clear HB
                      have HO_264001 := n0_
                      have HO_264002 := n1_
                      have BK263 := n2_
                      have HI252 := n3_
                      have HB := n4_
                      clear n0_ n1_ n2_ n3_ n4_
                      (try clear hb)
                      (try clear hb2)
                      (try clear hk)
                      (try clear hi)
                      refine hK.out _ _ ⟨(blk_cell BK263.out 0).trans rfl, (blk_cell BK263.out 1).trans rfl, (blk_cell BK263.out 2).trans rfl⟩ (fun hHeld => ?_)
                      clear hK K
                      refine norm_ (a' := ?_) ?_ ?_
                      rotate_left
                      · show Act.put _ (some 54) _ = _
                        simp only [Act.put, List.setIfInBounds_toArray, List.set_cons_zero, List.set_cons_succ, i64_w, i32_w]
                        rfl
                      refine one_ (i := 6) (N := some 58) #[true, true, true, true, true, true, true, false] rfl rfl (one_of HT_.out (by kernel_rfl)) (by decide) (fun K hK => ?_)
                      refine goes_ Try.func12 (by kernel_rfl) rfl #[.agg #[.int .i64 t255, .slice Ao12 t256.length co12, .slice Ao13 t259.length co13], .int .i64 (wrap64 (1023 - t269))] (by rfl) rfl rfl (by (try simp only [List.map_toArray, List.map_cons, List.map_nil]); first | done | rfl | (simp only [List.length_drop, List.length_take]; rfl)) ?_
                      with_reducible refine (threshold_Blocked.calls kj48 t255 _ _ t256 _ _ t259 (wrap64 (1023 - t269)) t276 _ ?side1 ?side2 ?side3 ?side4 A71.out).mono ?_
                      (case side1 => repeat (first | exact (Kd.R_reads' HO_264001.out).2.2 | (with_reducible refine Kd.C_alloc ?_ _) | (with_reducible refine Kd.C_drewN ?_ _) | (with_reducible refine Kd.C_drew ?_)))
                      (case side2 => exact (Kd.R_reads' HO_264001.out).2.1)
                      (case side3 => repeat (first | exact (Kd.R_reads' HO_264002.out).2.2 | (with_reducible refine Kd.C_alloc ?_ _) | (with_reducible refine Kd.C_drewN ?_ _) | (with_reducible refine Kd.C_drew ?_)))
                      (case side4 => exact (Kd.R_reads' HO_264002.out).2.1)
                      rintro e w78 ⟨rfl, hb⟩
                      refine ⟨_, rfl, ?_⟩
                      have n0_ := Aside0.mk (Kd.R_below (by (with_reducible repeat (first | apply Kd.R_alloc | apply Kd.R_drewN | apply Kd.R_drew)); exact HO_264001.out) hb)
                      have n1_ := Aside0.mk (Kd.R_below (by (with_reducible repeat (first | apply Kd.R_alloc | apply Kd.R_drewN | apply Kd.R_drew)); exact HO_264002.out) hb)
                      have n2_ := Aside0.mk (blk_below (g := gb263) (o := .cells #[.int .i64 t255, .slice Ao12 t256.length co12, .slice Ao13 t259.length co13] 27 (0, 0)) (by (with_reducible repeat (first | refine blk_drewN ?_ _ | refine blk_drew ?_ | refine blk_alloc ?_ _)); exact BK263.out) hb)
                      have n3_ := Aside0.mk (IsS43.below (by repeat (first | (with_reducible first | exact HI252.out | apply IsS43.alloc | apply IsS43.drewN | apply IsS43.drew | apply IsS43.set_1 | refine IsS43.far ?_ NB252_263.out _) | exact HI252.out)) hb)
                      have n4_ := Aside0.mk (below_step (by repeat (first | (with_reducible first | exact HB.out | apply below_alloc | apply pw_below_drewN | apply below_drew1 | refine below_set ?_ (IsS43.ge HI252.out) | refine below_set ?_ GE263.out) | exact HB.out)) hb)
                      clear HO_264001
                      clear HO_264002
                      clear BK263
                      clear HI252
                      clear HB
                      have HO_264001 := n0_
                      have HO_264002 := n1_
                      have BK263 := n2_
                      have HI252 := n3_
                      have HB := n4_
                      clear n0_ n1_ n2_ n3_ n4_
                      (try clear hb)
                      (try clear hb2)
                      (try clear hk)
                      (try clear hi)
                      refine hK.out _ _ ⟨(blk_cell BK263.out 0).trans rfl, (blk_cell BK263.out 1).trans rfl, (blk_cell BK263.out 2).trans rfl⟩ (fun hHeld => ?_)
                      clear hK K
                      refine norm_ (a' := ?_) ?_ ?_
                      rotate_left
                      · show Act.put _ (some 58) _ = _
                        simp only [Act.put, List.setIfInBounds_toArray, List.set_cons_zero, List.set_cons_succ, i64_w, i32_w]
                        rfl
                      refine pure_ (i := 7) (N := some 59) (v := ?_) (a' := ?_) #[true, true, true, true, true, true, true, true] rfl rfl (any_of HT_.out (by kernel_rfl)) (fun _ _ _ h => h) (Or.inl ⟨by rfl, ?_⟩) ?_ ?_
                      rotate_left
                      · intro w'
                        go_simp
                        with_reducible rfl
                      rotate_left
                      · simp only [Act.put, List.setIfInBounds_toArray, List.set_cons_zero, List.set_cons_succ, i64_w, i32_w]
                        rfl
                      refine done_ (done_of HT_.out (by kernel_rfl)) ?_
                      try go_wp2
                      go_roundg kj48
                      case measure => have := HJ4.out; have := HK2.out; have := HJ48.out; omega
                      case rel => exact ⟨(wrap64 (x5_2 + 1)), (t272), (by first | rfl | (simp; done) | (simp [*]; done)), H', ⟨by have := HJ4.out; have := HK2.out; have := HJ48.out; omega⟩, ⟨by (with_reducible repeat (first | apply Kd.R_alloc | apply Kd.R_drewN | apply Kd.R_drew)); exact HO_264001.out⟩, ⟨by (with_reducible repeat (first | apply Kd.R_alloc | apply Kd.R_drewN | apply Kd.R_drew)); exact HO_264002.out⟩, ⟨by (with_reducible repeat (first | refine blk_drewN ?_ _ | refine blk_drew ?_ | refine blk_alloc ?_ _)); exact BK263.out⟩, ⟨by repeat (first | (with_reducible first | exact HI252.out | apply IsS43.alloc | apply IsS43.drewN | apply IsS43.drew | apply IsS43.set_1 | refine IsS43.far ?_ NB252_263.out _) | exact HI252.out)⟩, ⟨by repeat (first | (with_reducible first | exact HB.out | apply below_alloc | apply pw_below_drewN | apply below_drew1 | refine below_set ?_ (IsS43.ge HI252.out) | refine below_set ?_ GE263.out) | exact HB.out)⟩⟩
            · rw [if_neg c46] at H
              have c46b0 : decide (x5_2 < 12) = false := decide_eq_false c46
              clear c46
              replace H := Option.bind_eq_some_iff.mp H
              obtain ⟨t268, A790, H⟩ := H
              replace H : (some t268) = some r := H
              have A79 := Aside0.mk A790
              clear A790
              obtain rfl := Option.some.inj H
              go_wp2_with (first | ((with_reducible refine gate_callee (f := 14) rfl ?_); refine goesL_ (some 60) rfl rfl Try.func14 (by kernel_rfl) rfl #[] rfl (by (try simp only [List.map_toArray, List.map_cons, List.map_nil]); first | done | rfl | (simp only [List.length_drop, List.length_take]; rfl)) ?_; (with_reducible refine (trustquorumlaw02_awake.calls k2  t268 _ A79.out).mono ?_); rintro e w80 ⟨rfl, hb⟩; refine ⟨_, rfl, ?_⟩; have n0_ := Aside0.mk (Kd.R_below (by (with_reducible repeat (first | apply Kd.R_alloc | apply Kd.R_drewN | apply Kd.R_drew)); exact HO_264001.out) hb); have n1_ := Aside0.mk (Kd.R_below (by (with_reducible repeat (first | apply Kd.R_alloc | apply Kd.R_drewN | apply Kd.R_drew)); exact HO_264002.out) hb); have n2_ := Aside0.mk (blk_below (g := gb263) (o := .cells #[.int .i64 t255, .slice Ao12 t256.length co12, .slice Ao13 t259.length co13] 27 (0, 0)) (by (with_reducible repeat (first | refine blk_drewN ?_ _ | refine blk_drew ?_ | refine blk_alloc ?_ _)); exact BK263.out) hb); have n3_ := Aside0.mk (IsS43.below (by repeat (first | (with_reducible first | exact HI252.out | apply IsS43.alloc | apply IsS43.drewN | apply IsS43.drew | apply IsS43.set_1 | refine IsS43.far ?_ NB252_263.out _) | exact HI252.out)) hb); have n4_ := Aside0.mk (below_step (by repeat (first | (with_reducible first | exact HB.out | apply below_alloc | apply pw_below_drewN | apply below_drew1 | refine below_set ?_ (IsS43.ge HI252.out) | refine below_set ?_ GE263.out) | exact HB.out)) hb); clear HO_264001; clear HO_264002; clear BK263; clear HI252; clear HB; have HO_264001 := n0_; have HO_264002 := n1_; have BK263 := n2_; have HI252 := n3_; have HB := n4_; clear n0_ n1_ n2_ n3_ n4_; (try clear hb); (try clear hb2); (try clear hk); (try clear hi)))
              go_ret
              exact ⟨by first | rfl | (simp [errW_none, errW_some] <;> rfl) | (simp [*, errW_none, errW_some] <;> rfl), by repeat (first | (with_reducible first | exact HB.out | apply below_alloc | apply pw_below_drewN | apply below_drew1 | refine below_set ?_ (IsS43.ge HI252.out) | refine below_set ?_ GE263.out) | exact HB.out)⟩

/-- THE ONE PURE STATEMENT of trustquorumlaw02_ThresholdMeets: yours. -/
def trustquorumlaw02_ThresholdMeets.Pure : Prop := ∀ (l0 : List Int), l0.length ≤ maxLen → l0.length * 8 ≤ 140737488351232 → (∀ x ∈ l0, (Lit.int .i64 x).wf = true) → ∃ k, trustquorumlaw02_ThresholdMeets.f k l0 = some true
theorem trustquorumlaw02_ThresholdMeets.walk (P : trustquorumlaw02_ThresholdMeets.Pure) (a0 : Option Addr) (len0 cap0 : Nat) (z0 : List Int) (w : World) (w0 : (a0 = none ∧ len0 = 0 ∧ cap0 = 0 ∧ z0 = []) ∨ ∃ x, a0 = some x ∧ len0 ≤ cap0 ∧ cap0 ≤ maxLen ∧ z0.length = cap0 ∧ (∀ i, i < z0.length → w.cell? (x.add i) = some (.int .i64 (z0.getD i 0))) ∧ ∀ n ∈ z0, (Lit.int .i64 n).wf = true) (y0 : len0 * 8 ≤ 140737488351232) :
    Calls Try.prog 3 #[.slice a0 len0 cap0] w fun e w' => e = .returned (.bool true) ∧ Below w.heap.size w w' := by
  obtain ⟨l0, rfl, hr0, hm0, hw0, hc0⟩ := ReadsInt.ofRowC w0
  obtain ⟨k, h⟩ := P l0 hm0 y0 hw0
  refine (trustquorumlaw02_ThresholdMeets.calls k _ _ l0 true w (Kd.C_of_reads (d := (0 : Int)) (h1 := fun _ => rfl) hr0) hc0 h).mono ?_
  rintro e w' ⟨rfl, hd⟩
  exact ⟨rfl, hd⟩

end Go.Proofs.Yteljoemeogeidaa.QThresholdMeets
