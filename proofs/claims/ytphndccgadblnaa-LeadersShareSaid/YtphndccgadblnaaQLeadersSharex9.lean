/- Lean functions that answer as the Go functions do which the law reaches, and proofs that the Go code comes to exactly these answers. Conditions: those that each theorem names. -/
import Derived.Test.YtphndccgadblnaaQLeadersSharex0
import Derived.Test.YtphndccgadblnaaQLeadersSharex2
import Derived.Test.YtphndccgadblnaaQLeadersSharex5
import Derived.Test.YtphndccgadblnaaQLeadersSharex8
namespace Go.Proofs.Ytphndccgadblnaa.QLeadersShare
open Go.RowKit Go.Proofs.YtphndccgadblnaaW.PrintWords Go.Proofs.YtphndccgadblnaaW.PrintLast Go.Proofs.YtphndccgadblnaaW.PrintMore
attribute [local go_sem] max2_int min2_int max_two min_two max_three min_three max_four min_four   -- for this text's walks alone
set_option linter.unusedVariables false
set_option linter.unusedSimpArgs false

/-! ### trustquorumlaw21_LeadersShare: function 4 -/
def trustquorumlaw21_LeadersShare.j0 : Nat → Int → Int → Int → Int → Int → Bool → Int → List Int → List (S27) → Int → List Int → List (S27) → Option (Bool)
  | 0, _, _, _, _, _, _, _, _, _, _, _, _ => none
  | k + 1, x6, x7, x8, x9, x10, x68, x295000, x295001, x295002, x296000, x296001, x296002 => if x68 = true then ((trustquorumlaw21_awake.f k).bind fun t314 => (some t314)) else ((leaders_Neighbour.f k x295000 x295001 x295002 x6 x9 x10 x8).bind fun t315 => ((leaders_Neighbour.f k x296000 x296001 x296002 x7 x9 x10 x8).bind fun t316 => (if (t315 == t316) = true then ((trustquorumlaw21_awake.f k).bind fun t317 => (some t317)) else (some false))))
def trustquorumlaw21_LeadersShare.f (k : Nat) (l0 : List Int) : Option (Bool) := (trustquorummake_New.f l0).bind fun bt275 => ((trustquorummake_Trust.f k bt275.1 bt275.2 6 2).bind fun bt278 => ((trustquorummake_Trust.f k bt275.1 bt278.2.2.2 6 2).bind fun bt286 => ((trustquorummake_Tape_N.f bt275.1 bt286.2.2.2 6).bind fun bt296 => ((trustquorummake_Tape_N.f bt275.1 bt296.2 6).bind fun bt298 => ((trustquorummake_Tape_N.f bt275.1 bt298.2 6).bind fun bt300 => ((trustquorummake_Tape_N.f bt275.1 bt300.2 100).bind fun bt302 => ((trustquorummake_Tape_Range.f bt275.1 bt302.2 1 9).bind fun bt304 => ((leaders_Weight.f k bt278.1 bt278.2.1 bt278.2.2.1 bt300.1).bind fun bt306 => ((leaders_Weight.f k bt286.1 bt286.2.1 bt286.2.2.1 bt300.1).bind fun bt310 => (if bt300.1 = bt296.1 then (trustquorumlaw21_LeadersShare.j0 k bt296.1 bt298.1 bt300.1 bt302.1 bt304.1 true bt278.1 bt278.2.1 bt278.2.2.1 bt286.1 bt286.2.1 bt286.2.2.1) else (if bt300.1 = bt298.1 then (trustquorumlaw21_LeadersShare.j0 k bt296.1 bt298.1 bt300.1 bt302.1 bt304.1 true bt278.1 bt278.2.1 bt278.2.2.1 bt286.1 bt286.2.1 bt286.2.2.1) else (if (bt306.2.2 != bt310.2.2) = true then (trustquorumlaw21_LeadersShare.j0 k bt296.1 bt298.1 bt300.1 bt302.1 bt304.1 true bt278.1 bt278.2.1 bt278.2.2.1 bt286.1 bt286.2.1 bt286.2.2.1) else (trustquorumlaw21_LeadersShare.j0 k bt296.1 bt298.1 bt300.1 bt302.1 bt304.1 ((wrap64 (bt306.1 * bt310.2.1)) != (wrap64 (bt310.1 * bt306.2.1))) bt278.1 bt278.2.1 bt278.2.2.1 bt286.1 bt286.2.1 bt286.2.2.1)))))))))))))
theorem trustquorumlaw21_LeadersShare.mono_l : ∀ k, (∀ y0 y1 y2 y3 y4 y5 y6 y7 y8 y9 y10 y11, LeO (trustquorumlaw21_LeadersShare.j0 k y0 y1 y2 y3 y4 y5 y6 y7 y8 y9 y10 y11) (trustquorumlaw21_LeadersShare.j0 (k + 1) y0 y1 y2 y3 y4 y5 y6 y7 y8 y9 y10 y11))
  | 0 => fun _ _ _ _ _ _ _ _ _ _ _ _ r h => by simp [trustquorumlaw21_LeadersShare.j0] at h
  | k + 1 => by
    have ih0 := trustquorumlaw21_LeadersShare.mono_l k
    · intro y0 y1 y2 y3 y4 y5 y6 y7 y8 y9 y10 y11
      unfold trustquorumlaw21_LeadersShare.j0
      repeat' first
      | (with_reducible exact ih0 _ _ _ _ _ _ _ _ _ _ _ _)
      | (with_reducible exact leaders_Neighbour.mono _ _ _ _ _ _ _ _)
      | (with_reducible exact leaders_Weight.mono _ _ _ _ _)
      | (with_reducible exact trustquorumlaw21_awake.mono _)
      | (with_reducible exact trustquorummake_Trust.mono _ _ _ _ _)
      | (with_reducible exact LeO.refl _)
      | (with_reducible exact LeO.none _)
      | (with_reducible refine LeO.ite ?_ ?_)
      | (with_reducible refine LeO.bind ?_ (fun _ => ?_))
      | exact ih0 _ _ _ _ _ _ _ _ _ _ _ _
      | exact leaders_Neighbour.mono _ _ _ _ _ _ _ _
      | exact leaders_Weight.mono _ _ _ _ _
      | exact trustquorumlaw21_awake.mono _
      | exact trustquorummake_Trust.mono _ _ _ _ _
      | exact LeO.none _
      | refine LeO.ite ?_ ?_
      | refine LeO.bind ?_ (fun _ => ?_)
theorem trustquorumlaw21_LeadersShare.mono : ∀ a0 k, LeO (trustquorumlaw21_LeadersShare.f k a0) (trustquorumlaw21_LeadersShare.f (k + 1) a0) := by
  intro a0 k
  have ih0 := trustquorumlaw21_LeadersShare.mono_l k
  unfold trustquorumlaw21_LeadersShare.f
  repeat' first
      | (with_reducible exact ih0 _ _ _ _ _ _ _ _ _ _ _ _)
      | (with_reducible exact leaders_Neighbour.mono _ _ _ _ _ _ _ _)
      | (with_reducible exact leaders_Weight.mono _ _ _ _ _)
      | (with_reducible exact trustquorumlaw21_awake.mono _)
      | (with_reducible exact trustquorummake_Trust.mono _ _ _ _ _)
      | (with_reducible exact LeO.refl _)
      | (with_reducible exact LeO.none _)
      | (with_reducible refine LeO.ite ?_ ?_)
      | (with_reducible refine LeO.bind ?_ (fun _ => ?_))
      | exact ih0 _ _ _ _ _ _ _ _ _ _ _ _
      | exact leaders_Neighbour.mono _ _ _ _ _ _ _ _
      | exact leaders_Weight.mono _ _ _ _ _
      | exact trustquorumlaw21_awake.mono _
      | exact trustquorummake_Trust.mono _ _ _ _ _
      | exact LeO.none _
      | refine LeO.ite ?_ ?_
      | refine LeO.bind ?_ (fun _ => ?_)
def trustquorumlaw21_LeadersShare.T8 : Bool × List (List Nat × List Nat) := (true, [([], []), ([], []), ([], []), ([], []), ([], []), ([0, 1, 2, 3, 4], [0, 1, 2, 3, 4]), ([], []), ([], []), ([], []), ([], []), ([], []), ([6, 7, 8, 9, 10, 5], [6, 7, 8, 9, 10]), ([5, 11], [5, 11]), ([12, 11], [12]), ([13, 13], [13]), ([13, 14], [13, 14]), ([15, 14, 0, 1, 2, 3, 4, 5, 6, 7, 8, 9, 10, 11, 12, 13, 14, 15], [15])])
def trustquorumlaw21_LeadersShare.B8 : List Nat := [0, 0, 0, 0, 0, 31, 0, 0, 0, 0, 0, 2047, 4095, 8191, 16383, 32767, 65535]
theorem trustquorumlaw21_LeadersShare.tab8 : rtab .any (opsOf Try.f4 8) = trustquorumlaw21_LeadersShare.T8 := by kernel_rfl
theorem trustquorumlaw21_LeadersShare.bits8 : waitsOk trustquorumlaw21_LeadersShare.T8.2 trustquorumlaw21_LeadersShare.B8 = true := by kernel_rfl
set_option maxHeartbeats 8000000 in
set_option maxRecDepth 100000 in
theorem trustquorumlaw21_LeadersShare.calls (k : Nat) (A0 : Option Addr) (c0 : Nat) (l0 : List Int) (r : Bool) (w : World) (hr0 : Kd.C (Kd.int .i64) w A0 l0.length l0) (hc0 : l0.length ≤ c0) (h : trustquorumlaw21_LeadersShare.f k l0 = some r) :
    Calls Try.prog 4 #[.slice A0 l0.length c0] w fun e w' => e = .returned (.bool r) ∧ Below w.heap.size w w' := by
  have hu27 := Try.underlying27
  have hu31 := Try.underlying31
  have HR0 := Aside0.mk hr0
  have HC0 := Aside0.mk hc0
  clear hr0 hc0
  have HB := Aside0.mk (Below.refl w.heap.size w)
  have H : ((trustquorummake_New.f l0).bind fun bt275 => ((trustquorummake_Trust.f k bt275.1 bt275.2 6 2).bind fun bt278 => ((trustquorummake_Trust.f k bt275.1 bt278.2.2.2 6 2).bind fun bt286 => ((trustquorummake_Tape_N.f bt275.1 bt286.2.2.2 6).bind fun bt296 => ((trustquorummake_Tape_N.f bt275.1 bt296.2 6).bind fun bt298 => ((trustquorummake_Tape_N.f bt275.1 bt298.2 6).bind fun bt300 => ((trustquorummake_Tape_N.f bt275.1 bt300.2 100).bind fun bt302 => ((trustquorummake_Tape_Range.f bt275.1 bt302.2 1 9).bind fun bt304 => ((leaders_Weight.f k bt278.1 bt278.2.1 bt278.2.2.1 bt300.1).bind fun bt306 => ((leaders_Weight.f k bt286.1 bt286.2.1 bt286.2.2.1 bt300.1).bind fun bt310 => (if bt300.1 = bt296.1 then (trustquorumlaw21_LeadersShare.j0 k bt296.1 bt298.1 bt300.1 bt302.1 bt304.1 true bt278.1 bt278.2.1 bt278.2.2.1 bt286.1 bt286.2.1 bt286.2.2.1) else (if bt300.1 = bt298.1 then (trustquorumlaw21_LeadersShare.j0 k bt296.1 bt298.1 bt300.1 bt302.1 bt304.1 true bt278.1 bt278.2.1 bt278.2.2.1 bt286.1 bt286.2.1 bt286.2.2.1) else (if (bt306.2.2 != bt310.2.2) = true then (trustquorumlaw21_LeadersShare.j0 k bt296.1 bt298.1 bt300.1 bt302.1 bt304.1 true bt278.1 bt278.2.1 bt278.2.2.1 bt286.1 bt286.2.1 bt286.2.2.1) else (trustquorumlaw21_LeadersShare.j0 k bt296.1 bt298.1 bt300.1 bt302.1 bt304.1 ((wrap64 (bt306.1 * bt310.2.1)) != (wrap64 (bt310.1 * bt306.2.1))) bt278.1 bt278.2.1 bt278.2.2.1 bt286.1 bt286.2.1 bt286.2.2.1)))))))))))))) = some r := h
  clear h
  replace H := Option.bind_eq_some_iff.mp H
  obtain ⟨⟨t275, t276⟩, A20, H⟩ := H
  replace H : ((trustquorummake_Trust.f k t275 t276 6 2).bind fun bt278 => ((trustquorummake_Trust.f k t275 bt278.2.2.2 6 2).bind fun bt286 => ((trustquorummake_Tape_N.f t275 bt286.2.2.2 6).bind fun bt296 => ((trustquorummake_Tape_N.f t275 bt296.2 6).bind fun bt298 => ((trustquorummake_Tape_N.f t275 bt298.2 6).bind fun bt300 => ((trustquorummake_Tape_N.f t275 bt300.2 100).bind fun bt302 => ((trustquorummake_Tape_Range.f t275 bt302.2 1 9).bind fun bt304 => ((leaders_Weight.f k bt278.1 bt278.2.1 bt278.2.2.1 bt300.1).bind fun bt306 => ((leaders_Weight.f k bt286.1 bt286.2.1 bt286.2.2.1 bt300.1).bind fun bt310 => (if bt300.1 = bt296.1 then (trustquorumlaw21_LeadersShare.j0 k bt296.1 bt298.1 bt300.1 bt302.1 bt304.1 true bt278.1 bt278.2.1 bt278.2.2.1 bt286.1 bt286.2.1 bt286.2.2.1) else (if bt300.1 = bt298.1 then (trustquorumlaw21_LeadersShare.j0 k bt296.1 bt298.1 bt300.1 bt302.1 bt304.1 true bt278.1 bt278.2.1 bt278.2.2.1 bt286.1 bt286.2.1 bt286.2.2.1) else (if (bt306.2.2 != bt310.2.2) = true then (trustquorumlaw21_LeadersShare.j0 k bt296.1 bt298.1 bt300.1 bt302.1 bt304.1 true bt278.1 bt278.2.1 bt278.2.2.1 bt286.1 bt286.2.1 bt286.2.2.1) else (trustquorumlaw21_LeadersShare.j0 k bt296.1 bt298.1 bt300.1 bt302.1 bt304.1 ((wrap64 (bt306.1 * bt310.2.1)) != (wrap64 (bt310.1 * bt306.2.1))) bt278.1 bt278.2.1 bt278.2.2.1 bt286.1 bt286.2.1 bt286.2.2.1))))))))))))) = some r := H
  have A2 := Aside0.mk A20
  clear A20
  replace H := Option.bind_eq_some_iff.mp H
  obtain ⟨⟨t278, t279, t282, t285⟩, A30, H⟩ := H
  replace H : ((trustquorummake_Trust.f k t275 t285 6 2).bind fun bt286 => ((trustquorummake_Tape_N.f t275 bt286.2.2.2 6).bind fun bt296 => ((trustquorummake_Tape_N.f t275 bt296.2 6).bind fun bt298 => ((trustquorummake_Tape_N.f t275 bt298.2 6).bind fun bt300 => ((trustquorummake_Tape_N.f t275 bt300.2 100).bind fun bt302 => ((trustquorummake_Tape_Range.f t275 bt302.2 1 9).bind fun bt304 => ((leaders_Weight.f k t278 t279 t282 bt300.1).bind fun bt306 => ((leaders_Weight.f k bt286.1 bt286.2.1 bt286.2.2.1 bt300.1).bind fun bt310 => (if bt300.1 = bt296.1 then (trustquorumlaw21_LeadersShare.j0 k bt296.1 bt298.1 bt300.1 bt302.1 bt304.1 true t278 t279 t282 bt286.1 bt286.2.1 bt286.2.2.1) else (if bt300.1 = bt298.1 then (trustquorumlaw21_LeadersShare.j0 k bt296.1 bt298.1 bt300.1 bt302.1 bt304.1 true t278 t279 t282 bt286.1 bt286.2.1 bt286.2.2.1) else (if (bt306.2.2 != bt310.2.2) = true then (trustquorumlaw21_LeadersShare.j0 k bt296.1 bt298.1 bt300.1 bt302.1 bt304.1 true t278 t279 t282 bt286.1 bt286.2.1 bt286.2.2.1) else (trustquorumlaw21_LeadersShare.j0 k bt296.1 bt298.1 bt300.1 bt302.1 bt304.1 ((wrap64 (bt306.1 * bt310.2.1)) != (wrap64 (bt310.1 * bt306.2.1))) t278 t279 t282 bt286.1 bt286.2.1 bt286.2.2.1)))))))))))) = some r := H
  have A3 := Aside0.mk A30
  clear A30
  replace H := Option.bind_eq_some_iff.mp H
  obtain ⟨⟨t286, t287, t290, t293⟩, A40, H⟩ := H
  replace H : ((trustquorummake_Tape_N.f t275 t293 6).bind fun bt296 => ((trustquorummake_Tape_N.f t275 bt296.2 6).bind fun bt298 => ((trustquorummake_Tape_N.f t275 bt298.2 6).bind fun bt300 => ((trustquorummake_Tape_N.f t275 bt300.2 100).bind fun bt302 => ((trustquorummake_Tape_Range.f t275 bt302.2 1 9).bind fun bt304 => ((leaders_Weight.f k t278 t279 t282 bt300.1).bind fun bt306 => ((leaders_Weight.f k t286 t287 t290 bt300.1).bind fun bt310 => (if bt300.1 = bt296.1 then (trustquorumlaw21_LeadersShare.j0 k bt296.1 bt298.1 bt300.1 bt302.1 bt304.1 true t278 t279 t282 t286 t287 t290) else (if bt300.1 = bt298.1 then (trustquorumlaw21_LeadersShare.j0 k bt296.1 bt298.1 bt300.1 bt302.1 bt304.1 true t278 t279 t282 t286 t287 t290) else (if (bt306.2.2 != bt310.2.2) = true then (trustquorumlaw21_LeadersShare.j0 k bt296.1 bt298.1 bt300.1 bt302.1 bt304.1 true t278 t279 t282 t286 t287 t290) else (trustquorumlaw21_LeadersShare.j0 k bt296.1 bt298.1 bt300.1 bt302.1 bt304.1 ((wrap64 (bt306.1 * bt310.2.1)) != (wrap64 (bt310.1 * bt306.2.1))) t278 t279 t282 t286 t287 t290))))))))))) = some r := H
  have A4 := Aside0.mk A40
  clear A40
  replace H := Option.bind_eq_some_iff.mp H
  obtain ⟨⟨t296, t297⟩, A50, H⟩ := H
  replace H : ((trustquorummake_Tape_N.f t275 t297 6).bind fun bt298 => ((trustquorummake_Tape_N.f t275 bt298.2 6).bind fun bt300 => ((trustquorummake_Tape_N.f t275 bt300.2 100).bind fun bt302 => ((trustquorummake_Tape_Range.f t275 bt302.2 1 9).bind fun bt304 => ((leaders_Weight.f k t278 t279 t282 bt300.1).bind fun bt306 => ((leaders_Weight.f k t286 t287 t290 bt300.1).bind fun bt310 => (if bt300.1 = t296 then (trustquorumlaw21_LeadersShare.j0 k t296 bt298.1 bt300.1 bt302.1 bt304.1 true t278 t279 t282 t286 t287 t290) else (if bt300.1 = bt298.1 then (trustquorumlaw21_LeadersShare.j0 k t296 bt298.1 bt300.1 bt302.1 bt304.1 true t278 t279 t282 t286 t287 t290) else (if (bt306.2.2 != bt310.2.2) = true then (trustquorumlaw21_LeadersShare.j0 k t296 bt298.1 bt300.1 bt302.1 bt304.1 true t278 t279 t282 t286 t287 t290) else (trustquorumlaw21_LeadersShare.j0 k t296 bt298.1 bt300.1 bt302.1 bt304.1 ((wrap64 (bt306.1 * bt310.2.1)) != (wrap64 (bt310.1 * bt306.2.1))) t278 t279 t282 t286 t287 t290)))))))))) = some r := H
  have A5 := Aside0.mk A50
  clear A50
  replace H := Option.bind_eq_some_iff.mp H
  obtain ⟨⟨t298, t299⟩, A60, H⟩ := H
  replace H : ((trustquorummake_Tape_N.f t275 t299 6).bind fun bt300 => ((trustquorummake_Tape_N.f t275 bt300.2 100).bind fun bt302 => ((trustquorummake_Tape_Range.f t275 bt302.2 1 9).bind fun bt304 => ((leaders_Weight.f k t278 t279 t282 bt300.1).bind fun bt306 => ((leaders_Weight.f k t286 t287 t290 bt300.1).bind fun bt310 => (if bt300.1 = t296 then (trustquorumlaw21_LeadersShare.j0 k t296 t298 bt300.1 bt302.1 bt304.1 true t278 t279 t282 t286 t287 t290) else (if bt300.1 = t298 then (trustquorumlaw21_LeadersShare.j0 k t296 t298 bt300.1 bt302.1 bt304.1 true t278 t279 t282 t286 t287 t290) else (if (bt306.2.2 != bt310.2.2) = true then (trustquorumlaw21_LeadersShare.j0 k t296 t298 bt300.1 bt302.1 bt304.1 true t278 t279 t282 t286 t287 t290) else (trustquorumlaw21_LeadersShare.j0 k t296 t298 bt300.1 bt302.1 bt304.1 ((wrap64 (bt306.1 * bt310.2.1)) != (wrap64 (bt310.1 * bt306.2.1))) t278 t279 t282 t286 t287 t290))))))))) = some r := H
  have A6 := Aside0.mk A60
  clear A60
  replace H := Option.bind_eq_some_iff.mp H
  obtain ⟨⟨t300, t301⟩, A70, H⟩ := H
  replace H : ((trustquorummake_Tape_N.f t275 t301 100).bind fun bt302 => ((trustquorummake_Tape_Range.f t275 bt302.2 1 9).bind fun bt304 => ((leaders_Weight.f k t278 t279 t282 t300).bind fun bt306 => ((leaders_Weight.f k t286 t287 t290 t300).bind fun bt310 => (if t300 = t296 then (trustquorumlaw21_LeadersShare.j0 k t296 t298 t300 bt302.1 bt304.1 true t278 t279 t282 t286 t287 t290) else (if t300 = t298 then (trustquorumlaw21_LeadersShare.j0 k t296 t298 t300 bt302.1 bt304.1 true t278 t279 t282 t286 t287 t290) else (if (bt306.2.2 != bt310.2.2) = true then (trustquorumlaw21_LeadersShare.j0 k t296 t298 t300 bt302.1 bt304.1 true t278 t279 t282 t286 t287 t290) else (trustquorumlaw21_LeadersShare.j0 k t296 t298 t300 bt302.1 bt304.1 ((wrap64 (bt306.1 * bt310.2.1)) != (wrap64 (bt310.1 * bt306.2.1))) t278 t279 t282 t286 t287 t290)))))))) = some r := H
  have A7 := Aside0.mk A70
  clear A70
  replace H := Option.bind_eq_some_iff.mp H
  obtain ⟨⟨t302, t303⟩, A80, H⟩ := H
  replace H : ((trustquorummake_Tape_Range.f t275 t303 1 9).bind fun bt304 => ((leaders_Weight.f k t278 t279 t282 t300).bind fun bt306 => ((leaders_Weight.f k t286 t287 t290 t300).bind fun bt310 => (if t300 = t296 then (trustquorumlaw21_LeadersShare.j0 k t296 t298 t300 t302 bt304.1 true t278 t279 t282 t286 t287 t290) else (if t300 = t298 then (trustquorumlaw21_LeadersShare.j0 k t296 t298 t300 t302 bt304.1 true t278 t279 t282 t286 t287 t290) else (if (bt306.2.2 != bt310.2.2) = true then (trustquorumlaw21_LeadersShare.j0 k t296 t298 t300 t302 bt304.1 true t278 t279 t282 t286 t287 t290) else (trustquorumlaw21_LeadersShare.j0 k t296 t298 t300 t302 bt304.1 ((wrap64 (bt306.1 * bt310.2.1)) != (wrap64 (bt310.1 * bt306.2.1))) t278 t279 t282 t286 t287 t290))))))) = some r := H
  have A8 := Aside0.mk A80
  clear A80
  replace H := Option.bind_eq_some_iff.mp H
  obtain ⟨⟨t304, t305⟩, A90, H⟩ := H
  replace H : ((leaders_Weight.f k t278 t279 t282 t300).bind fun bt306 => ((leaders_Weight.f k t286 t287 t290 t300).bind fun bt310 => (if t300 = t296 then (trustquorumlaw21_LeadersShare.j0 k t296 t298 t300 t302 t304 true t278 t279 t282 t286 t287 t290) else (if t300 = t298 then (trustquorumlaw21_LeadersShare.j0 k t296 t298 t300 t302 t304 true t278 t279 t282 t286 t287 t290) else (if (bt306.2.2 != bt310.2.2) = true then (trustquorumlaw21_LeadersShare.j0 k t296 t298 t300 t302 t304 true t278 t279 t282 t286 t287 t290) else (trustquorumlaw21_LeadersShare.j0 k t296 t298 t300 t302 t304 ((wrap64 (bt306.1 * bt310.2.1)) != (wrap64 (bt310.1 * bt306.2.1))) t278 t279 t282 t286 t287 t290)))))) = some r := H
  have A9 := Aside0.mk A90
  clear A90
  replace H := Option.bind_eq_some_iff.mp H
  obtain ⟨⟨t306, t307, t308⟩, A100, H⟩ := H
  replace H : ((leaders_Weight.f k t286 t287 t290 t300).bind fun bt310 => (if t300 = t296 then (trustquorumlaw21_LeadersShare.j0 k t296 t298 t300 t302 t304 true t278 t279 t282 t286 t287 t290) else (if t300 = t298 then (trustquorumlaw21_LeadersShare.j0 k t296 t298 t300 t302 t304 true t278 t279 t282 t286 t287 t290) else (if (t308 != bt310.2.2) = true then (trustquorumlaw21_LeadersShare.j0 k t296 t298 t300 t302 t304 true t278 t279 t282 t286 t287 t290) else (trustquorumlaw21_LeadersShare.j0 k t296 t298 t300 t302 t304 ((wrap64 (t306 * bt310.2.1)) != (wrap64 (bt310.1 * t307))) t278 t279 t282 t286 t287 t290))))) = some r := H
  have A10 := Aside0.mk A100
  clear A100
  replace H := Option.bind_eq_some_iff.mp H
  obtain ⟨⟨t310, t311, t312⟩, A110, H⟩ := H
  replace H : (if t300 = t296 then (trustquorumlaw21_LeadersShare.j0 k t296 t298 t300 t302 t304 true t278 t279 t282 t286 t287 t290) else (if t300 = t298 then (trustquorumlaw21_LeadersShare.j0 k t296 t298 t300 t302 t304 true t278 t279 t282 t286 t287 t290) else (if (t308 != t312) = true then (trustquorumlaw21_LeadersShare.j0 k t296 t298 t300 t302 t304 true t278 t279 t282 t286 t287 t290) else (trustquorumlaw21_LeadersShare.j0 k t296 t298 t300 t302 t304 ((wrap64 (t306 * t311)) != (wrap64 (t310 * t307))) t278 t279 t282 t286 t287 t290)))) = some r := H
  have A11 := Aside0.mk A110
  clear A110
  have HC12 := Aside0.mk H
  clear H
  go_enter Try.func4, Try.ntmps4
  go_upto_region 6 with (first | ((with_reducible refine gate_callee (f := 8) rfl ?_); refine goesL_ (some 16) rfl rfl Try.func8 (by kernel_rfl) rfl #[.slice A0 l0.length c0] rfl (by (try simp only [List.map_toArray, List.map_cons, List.map_nil]); first | done | rfl | (simp only [List.length_drop, List.length_take]; rfl)) ?_; (with_reducible refine (trustquorummake_New.calls _ _ l0 t275 t276 w _ ?side1 ?side2 ?side3 A2.out).mono ?_); (case side1 => repeat (first | (with_reducible first | exact HB.out | apply below_alloc | apply pw_below_drewN | apply below_drew1) | exact HB.out)); (case side2 => exact HR0.out); (case side3 => exact HC0.out); rintro e w13 ⟨g277, rfl, hi, hb, hb2⟩; refine ⟨_, rfl, ?_⟩; have n0_ := Aside0.mk (hb); have n1_ := Aside0.mk (hi); clear HB; have HB := n0_; have HI277 := n1_; clear n0_ n1_; (try clear hb); (try clear hb2); (try clear hk); (try clear hi)) | ((with_reducible refine gate_callee (f := 9) rfl ?_); refine goesL_ (some 18) rfl rfl Try.func9 (by kernel_rfl) rfl #[.pointer (some ⟨g277, 0, none⟩), .int .i64 6, .int .i64 2] rfl (by (try simp only [List.map_toArray, List.map_cons, List.map_nil]); first | done | rfl | (simp only [List.length_drop, List.length_take]; rfl)) ?_; (with_reducible refine (trustquorummake_Trust.calls k g277 t275 t276 6 2 t278 t279 t282 t285 w _ ?side1 ?side2 A3.out).mono ?_); (case side1 => repeat (first | (with_reducible first | exact HI277.out | apply IsS62.alloc | apply IsS62.drewN | apply IsS62.drew | apply IsS62.set_1) | exact HI277.out)); (case side2 => repeat (first | (with_reducible first | exact HB.out | apply below_alloc | apply pw_below_drewN | apply below_drew1 | refine below_set ?_ (IsS62.ge HI277.out)) | exact HB.out)); rintro e w14 ⟨v280, v283, rfl, ho0, ho1, hi, hb, hk⟩; refine ⟨_, rfl, ?_⟩; have n0_ := Aside0.mk (Kd.R_lower ho0 (below_size (by repeat (first | (with_reducible first | exact HB.out | apply below_alloc | apply pw_below_drewN | apply below_drew1 | refine below_set ?_ (IsS62.ge HI277.out)) | exact HB.out)))); have n1_ := Aside0.mk (Kd.R_lower ho1 (below_size (by repeat (first | (with_reducible first | exact HB.out | apply below_alloc | apply pw_below_drewN | apply below_drew1 | refine below_set ?_ (IsS62.ge HI277.out)) | exact HB.out)))); have n2_ := Aside0.mk (hb); have n3_ := Aside0.mk (hi); clear HB; clear HI277; have HO281 := n0_; have HO284 := n1_; have HB := n2_; have HI277 := n3_; clear n0_ n1_ n2_ n3_; (try clear hb); (try clear hb2); (try clear hk); (try clear hi); (try clear ho0); (try clear ho1)) | ((with_reducible refine gate_callee (f := 9) rfl ?_); refine goesL_ (some 20) rfl rfl Try.func9 (by kernel_rfl) rfl #[.pointer (some ⟨g277, 0, none⟩), .int .i64 6, .int .i64 2] rfl (by (try simp only [List.map_toArray, List.map_cons, List.map_nil]); first | done | rfl | (simp only [List.length_drop, List.length_take]; rfl)) ?_; (with_reducible refine (trustquorummake_Trust.calls k g277 t275 t285 6 2 t286 t287 t290 t293 w _ ?side1 ?side2 A4.out).mono ?_); (case side1 => repeat (first | (with_reducible first | exact HI277.out | apply IsS62.alloc | apply IsS62.drewN | apply IsS62.drew | apply IsS62.set_1) | exact HI277.out)); (case side2 => repeat (first | (with_reducible first | exact HB.out | apply below_alloc | apply pw_below_drewN | apply below_drew1 | refine below_set ?_ (IsS62.ge HI277.out)) | exact HB.out)); rintro e w15 ⟨v288, v291, rfl, ho0, ho1, hi, hb, hk⟩; refine ⟨_, rfl, ?_⟩; have n0_ := Aside0.mk (Kd.R_mono (Kd.R_told (Kd.R_oldK (IsS62.apart (show IsS62 w _ g277 t275 t285 from by repeat (first | (with_reducible first | exact HI277.out | apply IsS62.alloc | apply IsS62.drewN | apply IsS62.drew | apply IsS62.set_1) | exact HI277.out)) (by (with_reducible repeat (first | apply Kd.R_alloc | apply Kd.R_drewN | apply Kd.R_drew)); exact HO281.out) (by decide)) hk) (Kd.R_base ho0)) (fun _ h_ => h_.1)); have n1_ := Aside0.mk (Kd.R_mono (Kd.R_told (Kd.R_told (Kd.R_oldK (IsS62.apart (show IsS62 w _ g277 t275 t285 from by repeat (first | (with_reducible first | exact HI277.out | apply IsS62.alloc | apply IsS62.drewN | apply IsS62.drew | apply IsS62.set_1) | exact HI277.out)) (by (with_reducible repeat (first | apply Kd.R_alloc | apply Kd.R_drewN | apply Kd.R_drew)); exact HO284.out) (by decide)) hk) (Kd.R_base ho0)) (Kd.R_base ho1)) (fun _ h_ => h_.1)); have n2_ := Aside0.mk (Kd.R_lower (Kd.R_new' ho0 (Kd.R_lt (by (with_reducible repeat (first | apply Kd.R_alloc | apply Kd.R_drewN | apply Kd.R_drew)); exact HO281.out))) (below_size (by repeat (first | (with_reducible first | exact HB.out | apply below_alloc | apply pw_below_drewN | apply below_drew1 | refine below_set ?_ (IsS62.ge HI277.out)) | exact HB.out)))); have n3_ := Aside0.mk (Kd.R_lower (Kd.R_new' (Kd.R_new' ho1 (Kd.R_lt (by (with_reducible repeat (first | apply Kd.R_alloc | apply Kd.R_drewN | apply Kd.R_drew)); exact HO281.out))) (Kd.R_lt (by (with_reducible repeat (first | apply Kd.R_alloc | apply Kd.R_drewN | apply Kd.R_drew)); exact HO284.out))) (below_size (by repeat (first | (with_reducible first | exact HB.out | apply below_alloc | apply pw_below_drewN | apply below_drew1 | refine below_set ?_ (IsS62.ge HI277.out)) | exact HB.out)))); have n4_ := Aside0.mk (hb); have n5_ := Aside0.mk (hi); clear HO281; clear HO284; clear HB; clear HI277; have HO281 := n0_; have HO284 := n1_; have HO289 := n2_; have HO292 := n3_; have HB := n4_; have HI277 := n5_; clear n0_ n1_ n2_ n3_ n4_ n5_; (try clear hb); (try clear hb2); (try clear hk); (try clear hi); (try clear ho0); (try clear ho1)) | ((with_reducible refine gate_dst (N := 4) rfl ?_); refine box_event ?hg (N := 4) ?hd (cs := #[.int .i64 0, .slice none 0 0, .slice none 0 0]) (t := 27) ?hr ?_; (case hd => rfl); (case hg => rfl); (case hr => first | (go_simp; done) | (go_simp; rfl)); intro gb294 hg w16 hbox hb; have n0_ := Aside0.mk (Kd.R_below (by (with_reducible repeat (first | apply Kd.R_alloc | apply Kd.R_drewN | apply Kd.R_drew)); exact HO281.out) hb); have n1_ := Aside0.mk (Kd.R_below (Kd.R_elderB (by (with_reducible repeat (first | apply Kd.R_alloc | apply Kd.R_drewN | apply Kd.R_drew)); exact HO284.out) gb294 (Nat.le_of_eq hg.symm)) hb); have n2_ := Aside0.mk (Kd.R_below (by (with_reducible repeat (first | apply Kd.R_alloc | apply Kd.R_drewN | apply Kd.R_drew)); exact HO289.out) hb); have n3_ := Aside0.mk (Kd.R_below (Kd.R_elderB (by (with_reducible repeat (first | apply Kd.R_alloc | apply Kd.R_drewN | apply Kd.R_drew)); exact HO292.out) gb294 (Nat.le_of_eq hg.symm)) hb); have n4_ := Aside0.mk (IsS62.below (by repeat (first | (with_reducible first | exact HI277.out | apply IsS62.alloc | apply IsS62.drewN | apply IsS62.drew | apply IsS62.set_1) | exact HI277.out)) hb); have n5_ := Aside0.mk (below_step (by repeat (first | (with_reducible first | exact HB.out | apply below_alloc | apply pw_below_drewN | apply below_drew1 | refine below_set ?_ (IsS62.ge HI277.out)) | exact HB.out)) hb); have n6_ := Aside0.mk (hbox); have n7_ := Aside0.mk ((by rw [hg]; exact (below_size (by repeat (first | (with_reducible first | exact HB.out | apply below_alloc | apply pw_below_drewN | apply below_drew1 | refine below_set ?_ (IsS62.ge HI277.out)) | exact HB.out))) : w.heap.size ≤ gb294)); have n8_ := Aside0.mk ((by rw [hg]; exact (below_size (by repeat (first | (with_reducible first | exact HB.out | apply below_alloc | apply pw_below_drewN | apply below_drew1 | refine below_set ?_ (IsS62.ge HI277.out)) | exact HB.out))) : w.heap.size ≤ gb294)); have n9_ := Aside0.mk ((by rw [hg]; exact Nat.ne_of_lt (IsS62.lt (show IsS62 w _ g277 t275 t293 from by repeat (first | (with_reducible first | exact HI277.out | apply IsS62.alloc | apply IsS62.drewN | apply IsS62.drew | apply IsS62.set_1) | exact HI277.out))) : g277 ≠ gb294)); have n10_ := Aside0.mk ((by rw [hg]; exact Nat.ne_of_gt (IsS62.lt (show IsS62 w _ g277 t275 t293 from by repeat (first | (with_reducible first | exact HI277.out | apply IsS62.alloc | apply IsS62.drewN | apply IsS62.drew | apply IsS62.set_1) | exact HI277.out))) : gb294 ≠ g277)); clear HO281; clear HO284; clear HO289; clear HO292; clear HI277; clear HB; have HO281 := n0_; have HO284 := n1_; have HO289 := n2_; have HO292 := n3_; have HI277 := n4_; have HB := n5_; have BK294 := n6_; have GW294 := n7_; have GE294 := n8_; have NB277_294 := n9_; have NB294_277 := n10_; clear n0_ n1_ n2_ n3_ n4_ n5_ n6_ n7_ n8_ n9_ n10_; clear hb hbox hg) | ((with_reducible refine gate_dst (N := 5) rfl ?_); refine box_event ?hg (N := 5) ?hd (cs := #[.int .i64 0, .slice none 0 0, .slice none 0 0]) (t := 27) ?hr ?_; (case hd => rfl); (case hg => rfl); (case hr => first | (go_simp; done) | (go_simp; rfl)); intro gb295 hg w17 hbox hb; have n0_ := Aside0.mk (Kd.R_below (by (with_reducible repeat (first | apply Kd.R_alloc | apply Kd.R_drewN | apply Kd.R_drew)); exact HO281.out) hb); have n1_ := Aside0.mk (Kd.R_below (Kd.R_elderB (by (with_reducible repeat (first | apply Kd.R_alloc | apply Kd.R_drewN | apply Kd.R_drew)); exact HO284.out) gb295 (Nat.le_of_eq hg.symm)) hb); have n2_ := Aside0.mk (Kd.R_below (by (with_reducible repeat (first | apply Kd.R_alloc | apply Kd.R_drewN | apply Kd.R_drew)); exact HO289.out) hb); have n3_ := Aside0.mk (Kd.R_below (Kd.R_elderB (by (with_reducible repeat (first | apply Kd.R_alloc | apply Kd.R_drewN | apply Kd.R_drew)); exact HO292.out) gb295 (Nat.le_of_eq hg.symm)) hb); have n4_ := Aside0.mk (IsS62.below (by repeat (first | (with_reducible first | exact HI277.out | apply IsS62.alloc | apply IsS62.drewN | apply IsS62.drew | apply IsS62.set_1 | refine IsS62.far ?_ NB277_294.out _) | exact HI277.out)) hb); have n5_ := Aside0.mk (blk_below (g := gb294) (o := .cells #[.int .i64 0, .slice none 0 0, .slice none 0 0] 27 (0, 0)) (by (with_reducible repeat (first | refine blk_drewN ?_ _ | refine blk_drew ?_ | refine blk_alloc ?_ _)); exact BK294.out) hb); have n6_ := Aside0.mk (below_step (by repeat (first | (with_reducible first | exact HB.out | apply below_alloc | apply pw_below_drewN | apply below_drew1 | refine below_set ?_ (IsS62.ge HI277.out) | refine below_set ?_ GE294.out) | exact HB.out)) hb); have n7_ := Aside0.mk (hbox); have n8_ := Aside0.mk ((by rw [hg]; exact (below_size (by repeat (first | (with_reducible first | exact HB.out | apply below_alloc | apply pw_below_drewN | apply below_drew1 | refine below_set ?_ (IsS62.ge HI277.out) | refine below_set ?_ GE294.out) | exact HB.out))) : w.heap.size ≤ gb295)); have n9_ := Aside0.mk ((by rw [hg]; exact (below_size (by repeat (first | (with_reducible first | exact HB.out | apply below_alloc | apply pw_below_drewN | apply below_drew1 | refine below_set ?_ (IsS62.ge HI277.out) | refine below_set ?_ GE294.out) | exact HB.out))) : w.heap.size ≤ gb295)); have n10_ := Aside0.mk ((by rw [hg]; exact Nat.ne_of_lt (blk_lt (g := gb294) (o := .cells #[.int .i64 0, .slice none 0 0, .slice none 0 0] 27 (0, 0)) (by (with_reducible repeat (first | refine blk_drewN ?_ _ | refine blk_drew ?_ | refine blk_alloc ?_ _)); exact BK294.out)) : gb294 ≠ gb295)); have n11_ := Aside0.mk ((by rw [hg]; exact Nat.ne_of_gt (blk_lt (g := gb294) (o := .cells #[.int .i64 0, .slice none 0 0, .slice none 0 0] 27 (0, 0)) (by (with_reducible repeat (first | refine blk_drewN ?_ _ | refine blk_drew ?_ | refine blk_alloc ?_ _)); exact BK294.out)) : gb295 ≠ gb294)); have n12_ := Aside0.mk ((by rw [hg]; exact Nat.ne_of_lt (IsS62.lt (show IsS62 w _ g277 t275 t293 from by repeat (first | (with_reducible first | exact HI277.out | apply IsS62.alloc | apply IsS62.drewN | apply IsS62.drew | apply IsS62.set_1 | refine IsS62.far ?_ NB277_294.out _) | exact HI277.out))) : g277 ≠ gb295)); have n13_ := Aside0.mk ((by rw [hg]; exact Nat.ne_of_gt (IsS62.lt (show IsS62 w _ g277 t275 t293 from by repeat (first | (with_reducible first | exact HI277.out | apply IsS62.alloc | apply IsS62.drewN | apply IsS62.drew | apply IsS62.set_1 | refine IsS62.far ?_ NB277_294.out _) | exact HI277.out))) : gb295 ≠ g277)); clear HO281; clear HO284; clear HO289; clear HO292; clear HI277; clear BK294; clear HB; have HO281 := n0_; have HO284 := n1_; have HO289 := n2_; have HO292 := n3_; have HI277 := n4_; have BK294 := n5_; have HB := n6_; have BK295 := n7_; have GW295 := n8_; have GE295 := n9_; have NB294_295 := n10_; have NB295_294 := n11_; have NB277_295 := n12_; have NB295_277 := n13_; clear n0_ n1_ n2_ n3_ n4_ n5_ n6_ n7_ n8_ n9_ n10_ n11_ n12_ n13_; clear hb hbox hg; have hnb18 := NB294_295.out; have hnc18 := NB295_294.out; have hnb19 := NB294_277.out; have hnc19 := NB277_294.out; have hcz20_0 : w17.cell? ⟨gb294, 0, none⟩ = some (.int .i64 0) := (blk_cell BK294.out 0).trans rfl; have hcz20_1 : w17.cell? ⟨gb294, 1, none⟩ = some (.slice none 0 0) := (blk_cell BK294.out 1).trans rfl; have hcz20_2 : w17.cell? ⟨gb294, 2, none⟩ = some (.slice none 0 0) := (blk_cell BK294.out 2).trans rfl; have hfz20_0 := blk_frozen BK294.out 0; have hfz20_1 := blk_frozen BK294.out 1; have hfz20_2 := blk_frozen BK294.out 2; obtain ⟨Ao21, co21, eo21⟩ := Kd.R_slice HO281.out; subst eo21; obtain ⟨Ao22, co22, eo22⟩ := Kd.R_slice HO284.out; subst eo22; have hnb23 := NB295_277.out; have hnc23 := NB277_295.out; have hcz24_0 : w17.cell? ⟨gb295, 0, none⟩ = some (.int .i64 0) := (blk_cell BK295.out 0).trans rfl; have hcz24_1 : w17.cell? ⟨gb295, 1, none⟩ = some (.slice none 0 0) := (blk_cell BK295.out 1).trans rfl; have hcz24_2 : w17.cell? ⟨gb295, 2, none⟩ = some (.slice none 0 0) := (blk_cell BK295.out 2).trans rfl; have hfz24_0 := blk_frozen BK295.out 0; have hfz24_1 := blk_frozen BK295.out 1; have hfz24_2 := blk_frozen BK295.out 2; obtain ⟨Ao25, co25, eo25⟩ := Kd.R_slice HO289.out; subst eo25; obtain ⟨Ao26, co26, eo26⟩ := Kd.R_slice HO292.out; subst eo26) | ((with_reducible refine gate_callee (f := 15) rfl ?_); refine goesL_ (some 22) rfl rfl Try.func15 (by kernel_rfl) rfl #[.pointer (some ⟨g277, 0, none⟩), .int .i64 6] rfl (by (try simp only [List.map_toArray, List.map_cons, List.map_nil]); first | done | rfl | (simp only [List.length_drop, List.length_take]; rfl)) ?_; (with_reducible refine (trustquorummake_Tape_N.calls g277 t275 t293 6 t296 t297 w _ ?side1 ?side2 A5.out).mono ?_); (case side1 => repeat (first | (with_reducible first | exact HI277.out | apply IsS62.alloc | apply IsS62.drewN | apply IsS62.drew | apply IsS62.set_1 | refine IsS62.far ?_ NB277_294.out _ | refine IsS62.far ?_ NB277_295.out _) | exact HI277.out)); (case side2 => repeat (first | (with_reducible first | exact HB.out | apply below_alloc | apply pw_below_drewN | apply below_drew1 | refine below_set ?_ (IsS62.ge HI277.out) | refine below_set ?_ GE294.out | refine below_set ?_ GE295.out) | exact HB.out)); rintro e w27 ⟨rfl, hi, hb, hk⟩; refine ⟨_, rfl, ?_⟩; have n0_ := Aside0.mk (Kd.R_mono (Kd.R_keep (IsS62.apart (show IsS62 w _ g277 t275 t293 from by repeat (first | (with_reducible first | exact HI277.out | apply IsS62.alloc | apply IsS62.drewN | apply IsS62.drew | apply IsS62.set_1 | refine IsS62.far ?_ NB277_294.out _ | refine IsS62.far ?_ NB277_295.out _) | exact HI277.out)) (by (with_reducible repeat (first | apply Kd.R_alloc | apply Kd.R_drewN | apply Kd.R_drew)); exact (Kd.R_mono (Kd.R_mono (Kd.R_far (p := ⟨gb295, 2, none⟩) (Kd.R_far (p := ⟨gb295, 1, none⟩) (Kd.R_far (p := ⟨gb295, 0, none⟩) (Kd.R_far (p := ⟨gb294, 2, none⟩) (Kd.R_far (p := ⟨gb294, 1, none⟩) (Kd.R_far (p := ⟨gb294, 0, none⟩) (Kd.R_types (Kd.R_types HO281.out BK294.out (by decide)) BK295.out (by decide)) (fun _ hk => hk.1.2) (.int .i64 t278)) (fun _ hk => hk.1.2) (.slice Ao21 t279.length co21)) (fun _ hk => hk.1.2) (.slice Ao22 t282.length co22)) (fun _ hk => hk.2) (.int .i64 t286)) (fun _ hk => hk.2) (.slice Ao25 t287.length co25)) (fun _ hk => hk.2) (.slice Ao26 t290.length co26)) (fun _ h_ => h_.1)) (fun _ h_ => h_.1))) (by decide)) hk (fun _ h => h.2)) (fun _ h => h.1)); have n1_ := Aside0.mk (Kd.R_mono (Kd.R_keep (IsS62.apart (show IsS62 w _ g277 t275 t293 from by repeat (first | (with_reducible first | exact HI277.out | apply IsS62.alloc | apply IsS62.drewN | apply IsS62.drew | apply IsS62.set_1 | refine IsS62.far ?_ NB277_294.out _ | refine IsS62.far ?_ NB277_295.out _) | exact HI277.out)) (by (with_reducible repeat (first | apply Kd.R_alloc | apply Kd.R_drewN | apply Kd.R_drew)); exact (Kd.R_mono (Kd.R_mono (Kd.R_far (p := ⟨gb295, 2, none⟩) (Kd.R_far (p := ⟨gb295, 1, none⟩) (Kd.R_far (p := ⟨gb295, 0, none⟩) (Kd.R_far (p := ⟨gb294, 2, none⟩) (Kd.R_far (p := ⟨gb294, 1, none⟩) (Kd.R_far (p := ⟨gb294, 0, none⟩) (Kd.R_mono (Kd.R_mono HO284.out (fun k_ hk => (⟨hk, hk.1.2⟩ : _ ∧ k_ ≠ gb294))) (fun k_ hk => (⟨hk, hk.1.2⟩ : _ ∧ k_ ≠ gb295))) (fun _ hk => hk.1.2) (.int .i64 t278)) (fun _ hk => hk.1.2) (.slice Ao21 t279.length co21)) (fun _ hk => hk.1.2) (.slice Ao22 t282.length co22)) (fun _ hk => hk.2) (.int .i64 t286)) (fun _ hk => hk.2) (.slice Ao25 t287.length co25)) (fun _ hk => hk.2) (.slice Ao26 t290.length co26)) (fun _ h_ => h_.1)) (fun _ h_ => h_.1))) (by decide)) hk (fun _ h => h.2)) (fun _ h => h.1)); have n2_ := Aside0.mk (Kd.R_mono (Kd.R_keep (IsS62.apart (show IsS62 w _ g277 t275 t293 from by repeat (first | (with_reducible first | exact HI277.out | apply IsS62.alloc | apply IsS62.drewN | apply IsS62.drew | apply IsS62.set_1 | refine IsS62.far ?_ NB277_294.out _ | refine IsS62.far ?_ NB277_295.out _) | exact HI277.out)) (by (with_reducible repeat (first | apply Kd.R_alloc | apply Kd.R_drewN | apply Kd.R_drew)); exact (Kd.R_mono (Kd.R_mono (Kd.R_far (p := ⟨gb295, 2, none⟩) (Kd.R_far (p := ⟨gb295, 1, none⟩) (Kd.R_far (p := ⟨gb295, 0, none⟩) (Kd.R_far (p := ⟨gb294, 2, none⟩) (Kd.R_far (p := ⟨gb294, 1, none⟩) (Kd.R_far (p := ⟨gb294, 0, none⟩) (Kd.R_types (Kd.R_types HO289.out BK294.out (by decide)) BK295.out (by decide)) (fun _ hk => hk.1.2) (.int .i64 t278)) (fun _ hk => hk.1.2) (.slice Ao21 t279.length co21)) (fun _ hk => hk.1.2) (.slice Ao22 t282.length co22)) (fun _ hk => hk.2) (.int .i64 t286)) (fun _ hk => hk.2) (.slice Ao25 t287.length co25)) (fun _ hk => hk.2) (.slice Ao26 t290.length co26)) (fun _ h_ => h_.1)) (fun _ h_ => h_.1))) (by decide)) hk (fun _ h => h.2)) (fun _ h => h.1)); have n3_ := Aside0.mk (Kd.R_mono (Kd.R_keep (IsS62.apart (show IsS62 w _ g277 t275 t293 from by repeat (first | (with_reducible first | exact HI277.out | apply IsS62.alloc | apply IsS62.drewN | apply IsS62.drew | apply IsS62.set_1 | refine IsS62.far ?_ NB277_294.out _ | refine IsS62.far ?_ NB277_295.out _) | exact HI277.out)) (by (with_reducible repeat (first | apply Kd.R_alloc | apply Kd.R_drewN | apply Kd.R_drew)); exact (Kd.R_mono (Kd.R_mono (Kd.R_far (p := ⟨gb295, 2, none⟩) (Kd.R_far (p := ⟨gb295, 1, none⟩) (Kd.R_far (p := ⟨gb295, 0, none⟩) (Kd.R_far (p := ⟨gb294, 2, none⟩) (Kd.R_far (p := ⟨gb294, 1, none⟩) (Kd.R_far (p := ⟨gb294, 0, none⟩) (Kd.R_mono (Kd.R_mono HO292.out (fun k_ hk => (⟨hk, hk.1.2⟩ : _ ∧ k_ ≠ gb294))) (fun k_ hk => (⟨hk, hk.1.2⟩ : _ ∧ k_ ≠ gb295))) (fun _ hk => hk.1.2) (.int .i64 t278)) (fun _ hk => hk.1.2) (.slice Ao21 t279.length co21)) (fun _ hk => hk.1.2) (.slice Ao22 t282.length co22)) (fun _ hk => hk.2) (.int .i64 t286)) (fun _ hk => hk.2) (.slice Ao25 t287.length co25)) (fun _ hk => hk.2) (.slice Ao26 t290.length co26)) (fun _ h_ => h_.1)) (fun _ h_ => h_.1))) (by decide)) hk (fun _ h => h.2)) (fun _ h => h.1)); have n4_ := Aside0.mk (KeepBut.blk hk (g' := gb294) (o := .cells #[.int .i64 t278, .slice Ao21 t279.length co21, .slice Ao22 t282.length co22] 27 (0, 0)) (by (with_reducible repeat (first | refine blk_drewN ?_ _ | refine blk_drew ?_ | refine blk_alloc ?_ _)); refine blk_far ?_ NB294_295.out _; (with_reducible repeat (first | refine blk_drewN ?_ _ | refine blk_drew ?_ | refine blk_alloc ?_ _)); refine blk_far ?_ NB294_295.out _; (with_reducible repeat (first | refine blk_drewN ?_ _ | refine blk_drew ?_ | refine blk_alloc ?_ _)); refine blk_far ?_ NB294_295.out _; (with_reducible repeat (first | refine blk_drewN ?_ _ | refine blk_drew ?_ | refine blk_alloc ?_ _)); refine blk_put (cs := #[.int .i64 t278, .slice Ao21 t279.length co21, .slice none 0 0]) ?_ 2 _ rfl; (with_reducible repeat (first | refine blk_drewN ?_ _ | refine blk_drew ?_ | refine blk_alloc ?_ _)); refine blk_put (cs := #[.int .i64 t278, .slice none 0 0, .slice none 0 0]) ?_ 1 _ rfl; (with_reducible repeat (first | refine blk_drewN ?_ _ | refine blk_drew ?_ | refine blk_alloc ?_ _)); refine blk_put (cs := #[.int .i64 0, .slice none 0 0, .slice none 0 0]) ?_ 0 _ rfl; (with_reducible repeat (first | refine blk_drewN ?_ _ | refine blk_drew ?_ | refine blk_alloc ?_ _)); exact BK294.out) NB294_277.out (by simp)); have n5_ := Aside0.mk (KeepBut.blk hk (g' := gb295) (o := .cells #[.int .i64 t286, .slice Ao25 t287.length co25, .slice Ao26 t290.length co26] 27 (0, 0)) (by (with_reducible repeat (first | refine blk_drewN ?_ _ | refine blk_drew ?_ | refine blk_alloc ?_ _)); refine blk_put (cs := #[.int .i64 t286, .slice Ao25 t287.length co25, .slice none 0 0]) ?_ 2 _ rfl; (with_reducible repeat (first | refine blk_drewN ?_ _ | refine blk_drew ?_ | refine blk_alloc ?_ _)); refine blk_put (cs := #[.int .i64 t286, .slice none 0 0, .slice none 0 0]) ?_ 1 _ rfl; (with_reducible repeat (first | refine blk_drewN ?_ _ | refine blk_drew ?_ | refine blk_alloc ?_ _)); refine blk_put (cs := #[.int .i64 0, .slice none 0 0, .slice none 0 0]) ?_ 0 _ rfl; (with_reducible repeat (first | refine blk_drewN ?_ _ | refine blk_drew ?_ | refine blk_alloc ?_ _)); refine blk_far ?_ NB295_294.out _; (with_reducible repeat (first | refine blk_drewN ?_ _ | refine blk_drew ?_ | refine blk_alloc ?_ _)); refine blk_far ?_ NB295_294.out _; (with_reducible repeat (first | refine blk_drewN ?_ _ | refine blk_drew ?_ | refine blk_alloc ?_ _)); refine blk_far ?_ NB295_294.out _; (with_reducible repeat (first | refine blk_drewN ?_ _ | refine blk_drew ?_ | refine blk_alloc ?_ _)); exact BK295.out) NB295_277.out (by simp)); have n6_ := Aside0.mk (hb); have n7_ := Aside0.mk (hi); clear HO281; clear HO284; clear HO289; clear HO292; clear BK294; clear BK295; clear HB; clear HI277; have HO281 := n0_; have HO284 := n1_; have HO289 := n2_; have HO292 := n3_; have BK294 := n4_; have BK295 := n5_; have HB := n6_; have HI277 := n7_; clear n0_ n1_ n2_ n3_ n4_ n5_ n6_ n7_; (try clear hb); (try clear hb2); (try clear hk); (try clear hi)) | ((with_reducible refine gate_callee (f := 15) rfl ?_); refine goesL_ (some 24) rfl rfl Try.func15 (by kernel_rfl) rfl #[.pointer (some ⟨g277, 0, none⟩), .int .i64 6] rfl (by (try simp only [List.map_toArray, List.map_cons, List.map_nil]); first | done | rfl | (simp only [List.length_drop, List.length_take]; rfl)) ?_; (with_reducible refine (trustquorummake_Tape_N.calls g277 t275 t297 6 t298 t299 w _ ?side1 ?side2 A6.out).mono ?_); (case side1 => repeat (first | (with_reducible first | exact HI277.out | apply IsS62.alloc | apply IsS62.drewN | apply IsS62.drew | apply IsS62.set_1 | refine IsS62.far ?_ NB277_294.out _ | refine IsS62.far ?_ NB277_295.out _) | exact HI277.out)); (case side2 => repeat (first | (with_reducible first | exact HB.out | apply below_alloc | apply pw_below_drewN | apply below_drew1 | refine below_set ?_ (IsS62.ge HI277.out) | refine below_set ?_ GE294.out | refine below_set ?_ GE295.out) | exact HB.out)); rintro e w28 ⟨rfl, hi, hb, hk⟩; refine ⟨_, rfl, ?_⟩; have n0_ := Aside0.mk (Kd.R_mono (Kd.R_keep (IsS62.apart (show IsS62 w _ g277 t275 t297 from by repeat (first | (with_reducible first | exact HI277.out | apply IsS62.alloc | apply IsS62.drewN | apply IsS62.drew | apply IsS62.set_1 | refine IsS62.far ?_ NB277_294.out _ | refine IsS62.far ?_ NB277_295.out _) | exact HI277.out)) (by (with_reducible repeat (first | apply Kd.R_alloc | apply Kd.R_drewN | apply Kd.R_drew)); exact HO281.out) (by decide)) hk (fun _ h => h.2)) (fun _ h => h.1)); have n1_ := Aside0.mk (Kd.R_mono (Kd.R_keep (IsS62.apart (show IsS62 w _ g277 t275 t297 from by repeat (first | (with_reducible first | exact HI277.out | apply IsS62.alloc | apply IsS62.drewN | apply IsS62.drew | apply IsS62.set_1 | refine IsS62.far ?_ NB277_294.out _ | refine IsS62.far ?_ NB277_295.out _) | exact HI277.out)) (by (with_reducible repeat (first | apply Kd.R_alloc | apply Kd.R_drewN | apply Kd.R_drew)); exact HO284.out) (by decide)) hk (fun _ h => h.2)) (fun _ h => h.1)); have n2_ := Aside0.mk (Kd.R_mono (Kd.R_keep (IsS62.apart (show IsS62 w _ g277 t275 t297 from by repeat (first | (with_reducible first | exact HI277.out | apply IsS62.alloc | apply IsS62.drewN | apply IsS62.drew | apply IsS62.set_1 | refine IsS62.far ?_ NB277_294.out _ | refine IsS62.far ?_ NB277_295.out _) | exact HI277.out)) (by (with_reducible repeat (first | apply Kd.R_alloc | apply Kd.R_drewN | apply Kd.R_drew)); exact HO289.out) (by decide)) hk (fun _ h => h.2)) (fun _ h => h.1)); have n3_ := Aside0.mk (Kd.R_mono (Kd.R_keep (IsS62.apart (show IsS62 w _ g277 t275 t297 from by repeat (first | (with_reducible first | exact HI277.out | apply IsS62.alloc | apply IsS62.drewN | apply IsS62.drew | apply IsS62.set_1 | refine IsS62.far ?_ NB277_294.out _ | refine IsS62.far ?_ NB277_295.out _) | exact HI277.out)) (by (with_reducible repeat (first | apply Kd.R_alloc | apply Kd.R_drewN | apply Kd.R_drew)); exact HO292.out) (by decide)) hk (fun _ h => h.2)) (fun _ h => h.1)); have n4_ := Aside0.mk (KeepBut.blk hk (g' := gb294) (o := .cells #[.int .i64 t278, .slice Ao21 t279.length co21, .slice Ao22 t282.length co22] 27 (0, 0)) (by (with_reducible repeat (first | refine blk_drewN ?_ _ | refine blk_drew ?_ | refine blk_alloc ?_ _)); exact BK294.out) NB294_277.out (by simp)); have n5_ := Aside0.mk (KeepBut.blk hk (g' := gb295) (o := .cells #[.int .i64 t286, .slice Ao25 t287.length co25, .slice Ao26 t290.length co26] 27 (0, 0)) (by (with_reducible repeat (first | refine blk_drewN ?_ _ | refine blk_drew ?_ | refine blk_alloc ?_ _)); exact BK295.out) NB295_277.out (by simp)); have n6_ := Aside0.mk (hb); have n7_ := Aside0.mk (hi); clear HO281; clear HO284; clear HO289; clear HO292; clear BK294; clear BK295; clear HB; clear HI277; have HO281 := n0_; have HO284 := n1_; have HO289 := n2_; have HO292 := n3_; have BK294 := n4_; have BK295 := n5_; have HB := n6_; have HI277 := n7_; clear n0_ n1_ n2_ n3_ n4_ n5_ n6_ n7_; (try clear hb); (try clear hb2); (try clear hk); (try clear hi)) | ((with_reducible refine gate_callee (f := 15) rfl ?_); refine goesL_ (some 26) rfl rfl Try.func15 (by kernel_rfl) rfl #[.pointer (some ⟨g277, 0, none⟩), .int .i64 6] rfl (by (try simp only [List.map_toArray, List.map_cons, List.map_nil]); first | done | rfl | (simp only [List.length_drop, List.length_take]; rfl)) ?_; (with_reducible refine (trustquorummake_Tape_N.calls g277 t275 t299 6 t300 t301 w _ ?side1 ?side2 A7.out).mono ?_); (case side1 => repeat (first | (with_reducible first | exact HI277.out | apply IsS62.alloc | apply IsS62.drewN | apply IsS62.drew | apply IsS62.set_1 | refine IsS62.far ?_ NB277_294.out _ | refine IsS62.far ?_ NB277_295.out _) | exact HI277.out)); (case side2 => repeat (first | (with_reducible first | exact HB.out | apply below_alloc | apply pw_below_drewN | apply below_drew1 | refine below_set ?_ (IsS62.ge HI277.out) | refine below_set ?_ GE294.out | refine below_set ?_ GE295.out) | exact HB.out)); rintro e w29 ⟨rfl, hi, hb, hk⟩; refine ⟨_, rfl, ?_⟩; have n0_ := Aside0.mk (Kd.R_mono (Kd.R_keep (IsS62.apart (show IsS62 w _ g277 t275 t299 from by repeat (first | (with_reducible first | exact HI277.out | apply IsS62.alloc | apply IsS62.drewN | apply IsS62.drew | apply IsS62.set_1 | refine IsS62.far ?_ NB277_294.out _ | refine IsS62.far ?_ NB277_295.out _) | exact HI277.out)) (by (with_reducible repeat (first | apply Kd.R_alloc | apply Kd.R_drewN | apply Kd.R_drew)); exact HO281.out) (by decide)) hk (fun _ h => h.2)) (fun _ h => h.1)); have n1_ := Aside0.mk (Kd.R_mono (Kd.R_keep (IsS62.apart (show IsS62 w _ g277 t275 t299 from by repeat (first | (with_reducible first | exact HI277.out | apply IsS62.alloc | apply IsS62.drewN | apply IsS62.drew | apply IsS62.set_1 | refine IsS62.far ?_ NB277_294.out _ | refine IsS62.far ?_ NB277_295.out _) | exact HI277.out)) (by (with_reducible repeat (first | apply Kd.R_alloc | apply Kd.R_drewN | apply Kd.R_drew)); exact HO284.out) (by decide)) hk (fun _ h => h.2)) (fun _ h => h.1)); have n2_ := Aside0.mk (Kd.R_mono (Kd.R_keep (IsS62.apart (show IsS62 w _ g277 t275 t299 from by repeat (first | (with_reducible first | exact HI277.out | apply IsS62.alloc | apply IsS62.drewN | apply IsS62.drew | apply IsS62.set_1 | refine IsS62.far ?_ NB277_294.out _ | refine IsS62.far ?_ NB277_295.out _) | exact HI277.out)) (by (with_reducible repeat (first | apply Kd.R_alloc | apply Kd.R_drewN | apply Kd.R_drew)); exact HO289.out) (by decide)) hk (fun _ h => h.2)) (fun _ h => h.1)); have n3_ := Aside0.mk (Kd.R_mono (Kd.R_keep (IsS62.apart (show IsS62 w _ g277 t275 t299 from by repeat (first | (with_reducible first | exact HI277.out | apply IsS62.alloc | apply IsS62.drewN | apply IsS62.drew | apply IsS62.set_1 | refine IsS62.far ?_ NB277_294.out _ | refine IsS62.far ?_ NB277_295.out _) | exact HI277.out)) (by (with_reducible repeat (first | apply Kd.R_alloc | apply Kd.R_drewN | apply Kd.R_drew)); exact HO292.out) (by decide)) hk (fun _ h => h.2)) (fun _ h => h.1)); have n4_ := Aside0.mk (KeepBut.blk hk (g' := gb294) (o := .cells #[.int .i64 t278, .slice Ao21 t279.length co21, .slice Ao22 t282.length co22] 27 (0, 0)) (by (with_reducible repeat (first | refine blk_drewN ?_ _ | refine blk_drew ?_ | refine blk_alloc ?_ _)); exact BK294.out) NB294_277.out (by simp)); have n5_ := Aside0.mk (KeepBut.blk hk (g' := gb295) (o := .cells #[.int .i64 t286, .slice Ao25 t287.length co25, .slice Ao26 t290.length co26] 27 (0, 0)) (by (with_reducible repeat (first | refine blk_drewN ?_ _ | refine blk_drew ?_ | refine blk_alloc ?_ _)); exact BK295.out) NB295_277.out (by simp)); have n6_ := Aside0.mk (hb); have n7_ := Aside0.mk (hi); clear HO281; clear HO284; clear HO289; clear HO292; clear BK294; clear BK295; clear HB; clear HI277; have HO281 := n0_; have HO284 := n1_; have HO289 := n2_; have HO292 := n3_; have BK294 := n4_; have BK295 := n5_; have HB := n6_; have HI277 := n7_; clear n0_ n1_ n2_ n3_ n4_ n5_ n6_ n7_; (try clear hb); (try clear hb2); (try clear hk); (try clear hi)) | ((with_reducible refine gate_callee (f := 15) rfl ?_); refine goesL_ (some 28) rfl rfl Try.func15 (by kernel_rfl) rfl #[.pointer (some ⟨g277, 0, none⟩), .int .i64 100] rfl (by (try simp only [List.map_toArray, List.map_cons, List.map_nil]); first | done | rfl | (simp only [List.length_drop, List.length_take]; rfl)) ?_; (with_reducible refine (trustquorummake_Tape_N.calls g277 t275 t301 100 t302 t303 w _ ?side1 ?side2 A8.out).mono ?_); (case side1 => repeat (first | (with_reducible first | exact HI277.out | apply IsS62.alloc | apply IsS62.drewN | apply IsS62.drew | apply IsS62.set_1 | refine IsS62.far ?_ NB277_294.out _ | refine IsS62.far ?_ NB277_295.out _) | exact HI277.out)); (case side2 => repeat (first | (with_reducible first | exact HB.out | apply below_alloc | apply pw_below_drewN | apply below_drew1 | refine below_set ?_ (IsS62.ge HI277.out) | refine below_set ?_ GE294.out | refine below_set ?_ GE295.out) | exact HB.out)); rintro e w30 ⟨rfl, hi, hb, hk⟩; refine ⟨_, rfl, ?_⟩; have n0_ := Aside0.mk (Kd.R_mono (Kd.R_keep (IsS62.apart (show IsS62 w _ g277 t275 t301 from by repeat (first | (with_reducible first | exact HI277.out | apply IsS62.alloc | apply IsS62.drewN | apply IsS62.drew | apply IsS62.set_1 | refine IsS62.far ?_ NB277_294.out _ | refine IsS62.far ?_ NB277_295.out _) | exact HI277.out)) (by (with_reducible repeat (first | apply Kd.R_alloc | apply Kd.R_drewN | apply Kd.R_drew)); exact HO281.out) (by decide)) hk (fun _ h => h.2)) (fun _ h => h.1)); have n1_ := Aside0.mk (Kd.R_mono (Kd.R_keep (IsS62.apart (show IsS62 w _ g277 t275 t301 from by repeat (first | (with_reducible first | exact HI277.out | apply IsS62.alloc | apply IsS62.drewN | apply IsS62.drew | apply IsS62.set_1 | refine IsS62.far ?_ NB277_294.out _ | refine IsS62.far ?_ NB277_295.out _) | exact HI277.out)) (by (with_reducible repeat (first | apply Kd.R_alloc | apply Kd.R_drewN | apply Kd.R_drew)); exact HO284.out) (by decide)) hk (fun _ h => h.2)) (fun _ h => h.1)); have n2_ := Aside0.mk (Kd.R_mono (Kd.R_keep (IsS62.apart (show IsS62 w _ g277 t275 t301 from by repeat (first | (with_reducible first | exact HI277.out | apply IsS62.alloc | apply IsS62.drewN | apply IsS62.drew | apply IsS62.set_1 | refine IsS62.far ?_ NB277_294.out _ | refine IsS62.far ?_ NB277_295.out _) | exact HI277.out)) (by (with_reducible repeat (first | apply Kd.R_alloc | apply Kd.R_drewN | apply Kd.R_drew)); exact HO289.out) (by decide)) hk (fun _ h => h.2)) (fun _ h => h.1)); have n3_ := Aside0.mk (Kd.R_mono (Kd.R_keep (IsS62.apart (show IsS62 w _ g277 t275 t301 from by repeat (first | (with_reducible first | exact HI277.out | apply IsS62.alloc | apply IsS62.drewN | apply IsS62.drew | apply IsS62.set_1 | refine IsS62.far ?_ NB277_294.out _ | refine IsS62.far ?_ NB277_295.out _) | exact HI277.out)) (by (with_reducible repeat (first | apply Kd.R_alloc | apply Kd.R_drewN | apply Kd.R_drew)); exact HO292.out) (by decide)) hk (fun _ h => h.2)) (fun _ h => h.1)); have n4_ := Aside0.mk (KeepBut.blk hk (g' := gb294) (o := .cells #[.int .i64 t278, .slice Ao21 t279.length co21, .slice Ao22 t282.length co22] 27 (0, 0)) (by (with_reducible repeat (first | refine blk_drewN ?_ _ | refine blk_drew ?_ | refine blk_alloc ?_ _)); exact BK294.out) NB294_277.out (by simp)); have n5_ := Aside0.mk (KeepBut.blk hk (g' := gb295) (o := .cells #[.int .i64 t286, .slice Ao25 t287.length co25, .slice Ao26 t290.length co26] 27 (0, 0)) (by (with_reducible repeat (first | refine blk_drewN ?_ _ | refine blk_drew ?_ | refine blk_alloc ?_ _)); exact BK295.out) NB295_277.out (by simp)); have n6_ := Aside0.mk (hb); have n7_ := Aside0.mk (hi); clear HO281; clear HO284; clear HO289; clear HO292; clear BK294; clear BK295; clear HB; clear HI277; have HO281 := n0_; have HO284 := n1_; have HO289 := n2_; have HO292 := n3_; have BK294 := n4_; have BK295 := n5_; have HB := n6_; have HI277 := n7_; clear n0_ n1_ n2_ n3_ n4_ n5_ n6_ n7_; (try clear hb); (try clear hb2); (try clear hk); (try clear hi)) | ((with_reducible refine gate_callee (f := 10) rfl ?_); refine goesL_ (some 30) rfl rfl Try.func10 (by kernel_rfl) rfl #[.pointer (some ⟨g277, 0, none⟩), .int .i64 1, .int .i64 9] rfl (by (try simp only [List.map_toArray, List.map_cons, List.map_nil]); first | done | rfl | (simp only [List.length_drop, List.length_take]; rfl)) ?_; (with_reducible refine (trustquorummake_Tape_Range.calls g277 t275 t303 1 9 t304 t305 w _ ?side1 ?side2 A9.out).mono ?_); (case side1 => repeat (first | (with_reducible first | exact HI277.out | apply IsS62.alloc | apply IsS62.drewN | apply IsS62.drew | apply IsS62.set_1 | refine IsS62.far ?_ NB277_294.out _ | refine IsS62.far ?_ NB277_295.out _) | exact HI277.out)); (case side2 => repeat (first | (with_reducible first | exact HB.out | apply below_alloc | apply pw_below_drewN | apply below_drew1 | refine below_set ?_ (IsS62.ge HI277.out) | refine below_set ?_ GE294.out | refine below_set ?_ GE295.out) | exact HB.out)); rintro e w31 ⟨rfl, hi, hb, hk⟩; refine ⟨_, rfl, ?_⟩; have n0_ := Aside0.mk (Kd.R_mono (Kd.R_keep (IsS62.apart (show IsS62 w _ g277 t275 t303 from by repeat (first | (with_reducible first | exact HI277.out | apply IsS62.alloc | apply IsS62.drewN | apply IsS62.drew | apply IsS62.set_1 | refine IsS62.far ?_ NB277_294.out _ | refine IsS62.far ?_ NB277_295.out _) | exact HI277.out)) (by (with_reducible repeat (first | apply Kd.R_alloc | apply Kd.R_drewN | apply Kd.R_drew)); exact HO281.out) (by decide)) hk (fun _ h => h.2)) (fun _ h => h.1)); have n1_ := Aside0.mk (Kd.R_mono (Kd.R_keep (IsS62.apart (show IsS62 w _ g277 t275 t303 from by repeat (first | (with_reducible first | exact HI277.out | apply IsS62.alloc | apply IsS62.drewN | apply IsS62.drew | apply IsS62.set_1 | refine IsS62.far ?_ NB277_294.out _ | refine IsS62.far ?_ NB277_295.out _) | exact HI277.out)) (by (with_reducible repeat (first | apply Kd.R_alloc | apply Kd.R_drewN | apply Kd.R_drew)); exact HO284.out) (by decide)) hk (fun _ h => h.2)) (fun _ h => h.1)); have n2_ := Aside0.mk (Kd.R_mono (Kd.R_keep (IsS62.apart (show IsS62 w _ g277 t275 t303 from by repeat (first | (with_reducible first | exact HI277.out | apply IsS62.alloc | apply IsS62.drewN | apply IsS62.drew | apply IsS62.set_1 | refine IsS62.far ?_ NB277_294.out _ | refine IsS62.far ?_ NB277_295.out _) | exact HI277.out)) (by (with_reducible repeat (first | apply Kd.R_alloc | apply Kd.R_drewN | apply Kd.R_drew)); exact HO289.out) (by decide)) hk (fun _ h => h.2)) (fun _ h => h.1)); have n3_ := Aside0.mk (Kd.R_mono (Kd.R_keep (IsS62.apart (show IsS62 w _ g277 t275 t303 from by repeat (first | (with_reducible first | exact HI277.out | apply IsS62.alloc | apply IsS62.drewN | apply IsS62.drew | apply IsS62.set_1 | refine IsS62.far ?_ NB277_294.out _ | refine IsS62.far ?_ NB277_295.out _) | exact HI277.out)) (by (with_reducible repeat (first | apply Kd.R_alloc | apply Kd.R_drewN | apply Kd.R_drew)); exact HO292.out) (by decide)) hk (fun _ h => h.2)) (fun _ h => h.1)); have n4_ := Aside0.mk (KeepBut.blk hk (g' := gb294) (o := .cells #[.int .i64 t278, .slice Ao21 t279.length co21, .slice Ao22 t282.length co22] 27 (0, 0)) (by (with_reducible repeat (first | refine blk_drewN ?_ _ | refine blk_drew ?_ | refine blk_alloc ?_ _)); exact BK294.out) NB294_277.out (by simp)); have n5_ := Aside0.mk (KeepBut.blk hk (g' := gb295) (o := .cells #[.int .i64 t286, .slice Ao25 t287.length co25, .slice Ao26 t290.length co26] 27 (0, 0)) (by (with_reducible repeat (first | refine blk_drewN ?_ _ | refine blk_drew ?_ | refine blk_alloc ?_ _)); exact BK295.out) NB295_277.out (by simp)); have n6_ := Aside0.mk (hb); have n7_ := Aside0.mk (hi); clear HO281; clear HO284; clear HO289; clear HO292; clear BK294; clear BK295; clear HB; clear HI277; have HO281 := n0_; have HO284 := n1_; have HO289 := n2_; have HO292 := n3_; have BK294 := n4_; have BK295 := n5_; have HB := n6_; have HI277 := n7_; clear n0_ n1_ n2_ n3_ n4_ n5_ n6_ n7_; (try clear hb); (try clear hb2); (try clear hk); (try clear hi); have hcz32_0 : w31.cell? ⟨gb294, 0, none⟩ = some (.int .i64 t278) := (blk_cell BK294.out 0).trans rfl; have hcz32_1 : w31.cell? ⟨gb294, 1, none⟩ = some (.slice Ao21 t279.length co21) := (blk_cell BK294.out 1).trans rfl; have hcz32_2 : w31.cell? ⟨gb294, 2, none⟩ = some (.slice Ao22 t282.length co22) := (blk_cell BK294.out 2).trans rfl; have hfz32_0 := blk_frozen BK294.out 0; have hfz32_1 := blk_frozen BK294.out 1; have hfz32_2 := blk_frozen BK294.out 2) | ((with_reducible refine gate_callee (f := 11) rfl ?_); refine goesL_ (some 34) rfl rfl Try.func11 (by kernel_rfl) rfl #[.agg #[.int .i64 t278, .slice Ao21 t279.length co21, .slice Ao22 t282.length co22], .int .i64 t300] rfl (by (try simp only [List.map_toArray, List.map_cons, List.map_nil]); first | done | rfl | (simp only [List.length_drop, List.length_take]; rfl)) ?_; (with_reducible refine (leaders_Weight.calls k t278 _ _ t279 _ _ t282 t300 t306 t307 t308 _ ?side1 ?side2 ?side3 ?side4 A10.out).mono ?_); (case side1 => repeat (first | exact (Kd.R_reads' HO281.out).2.2 | (with_reducible refine Kd.C_alloc ?_ _) | (with_reducible refine Kd.C_drewN ?_ _) | (with_reducible refine Kd.C_drew ?_))); (case side2 => exact (Kd.R_reads' HO281.out).2.1); (case side3 => repeat (first | exact (Kd.R_reads' HO284.out).2.2 | (with_reducible refine Kd.C_alloc ?_ _) | (with_reducible refine Kd.C_drewN ?_ _) | (with_reducible refine Kd.C_drew ?_))); (case side4 => exact (Kd.R_reads' HO284.out).2.1); rintro e w33 ⟨rfl, hb⟩; refine ⟨_, rfl, ?_⟩; have n0_ := Aside0.mk (Kd.R_below (by (with_reducible repeat (first | apply Kd.R_alloc | apply Kd.R_drewN | apply Kd.R_drew)); exact HO281.out) hb); have n1_ := Aside0.mk (Kd.R_below (by (with_reducible repeat (first | apply Kd.R_alloc | apply Kd.R_drewN | apply Kd.R_drew)); exact HO284.out) hb); have n2_ := Aside0.mk (Kd.R_below (by (with_reducible repeat (first | apply Kd.R_alloc | apply Kd.R_drewN | apply Kd.R_drew)); exact HO289.out) hb); have n3_ := Aside0.mk (Kd.R_below (by (with_reducible repeat (first | apply Kd.R_alloc | apply Kd.R_drewN | apply Kd.R_drew)); exact HO292.out) hb); have n4_ := Aside0.mk (IsS62.below (by repeat (first | (with_reducible first | exact HI277.out | apply IsS62.alloc | apply IsS62.drewN | apply IsS62.drew | apply IsS62.set_1 | refine IsS62.far ?_ NB277_294.out _ | refine IsS62.far ?_ NB277_295.out _) | exact HI277.out)) hb); have n5_ := Aside0.mk (blk_below (g := gb294) (o := .cells #[.int .i64 t278, .slice Ao21 t279.length co21, .slice Ao22 t282.length co22] 27 (0, 0)) (by (with_reducible repeat (first | refine blk_drewN ?_ _ | refine blk_drew ?_ | refine blk_alloc ?_ _)); exact BK294.out) hb); have n6_ := Aside0.mk (blk_below (g := gb295) (o := .cells #[.int .i64 t286, .slice Ao25 t287.length co25, .slice Ao26 t290.length co26] 27 (0, 0)) (by (with_reducible repeat (first | refine blk_drewN ?_ _ | refine blk_drew ?_ | refine blk_alloc ?_ _)); exact BK295.out) hb); have n7_ := Aside0.mk (below_step (by repeat (first | (with_reducible first | exact HB.out | apply below_alloc | apply pw_below_drewN | apply below_drew1 | refine below_set ?_ (IsS62.ge HI277.out) | refine below_set ?_ GE294.out | refine below_set ?_ GE295.out) | exact HB.out)) hb); clear HO281; clear HO284; clear HO289; clear HO292; clear HI277; clear BK294; clear BK295; clear HB; have HO281 := n0_; have HO284 := n1_; have HO289 := n2_; have HO292 := n3_; have HI277 := n4_; have BK294 := n5_; have BK295 := n6_; have HB := n7_; clear n0_ n1_ n2_ n3_ n4_ n5_ n6_ n7_; (try clear hb); (try clear hb2); (try clear hk); (try clear hi)) | ((with_reducible refine gate_dst (N := 11) rfl ?_); refine box_event ?hg (N := 11) ?hd (cs := #[.int .i64 0, .int .i64 0]) (t := 31) ?hr ?_; (case hd => rfl); (case hg => rfl); (case hr => first | (go_simp; done) | (go_simp; rfl)); intro gb309 hg w34 hbox hb; have n0_ := Aside0.mk (Kd.R_below (by (with_reducible repeat (first | apply Kd.R_alloc | apply Kd.R_drewN | apply Kd.R_drew)); exact HO281.out) hb); have n1_ := Aside0.mk (Kd.R_below (by (with_reducible repeat (first | apply Kd.R_alloc | apply Kd.R_drewN | apply Kd.R_drew)); exact HO284.out) hb); have n2_ := Aside0.mk (Kd.R_below (by (with_reducible repeat (first | apply Kd.R_alloc | apply Kd.R_drewN | apply Kd.R_drew)); exact HO289.out) hb); have n3_ := Aside0.mk (Kd.R_below (by (with_reducible repeat (first | apply Kd.R_alloc | apply Kd.R_drewN | apply Kd.R_drew)); exact HO292.out) hb); have n4_ := Aside0.mk (IsS62.below (by repeat (first | (with_reducible first | exact HI277.out | apply IsS62.alloc | apply IsS62.drewN | apply IsS62.drew | apply IsS62.set_1 | refine IsS62.far ?_ NB277_294.out _ | refine IsS62.far ?_ NB277_295.out _) | exact HI277.out)) hb); have n5_ := Aside0.mk (blk_below (g := gb294) (o := .cells #[.int .i64 t278, .slice Ao21 t279.length co21, .slice Ao22 t282.length co22] 27 (0, 0)) (by (with_reducible repeat (first | refine blk_drewN ?_ _ | refine blk_drew ?_ | refine blk_alloc ?_ _)); exact BK294.out) hb); have n6_ := Aside0.mk (blk_below (g := gb295) (o := .cells #[.int .i64 t286, .slice Ao25 t287.length co25, .slice Ao26 t290.length co26] 27 (0, 0)) (by (with_reducible repeat (first | refine blk_drewN ?_ _ | refine blk_drew ?_ | refine blk_alloc ?_ _)); exact BK295.out) hb); have n7_ := Aside0.mk (below_step (by repeat (first | (with_reducible first | exact HB.out | apply below_alloc | apply pw_below_drewN | apply below_drew1 | refine below_set ?_ (IsS62.ge HI277.out) | refine below_set ?_ GE294.out | refine below_set ?_ GE295.out) | exact HB.out)) hb); have n8_ := Aside0.mk (hbox); have n9_ := Aside0.mk ((by rw [hg]; exact (below_size (by repeat (first | (with_reducible first | exact HB.out | apply below_alloc | apply pw_below_drewN | apply below_drew1 | refine below_set ?_ (IsS62.ge HI277.out) | refine below_set ?_ GE294.out | refine below_set ?_ GE295.out) | exact HB.out))) : w.heap.size ≤ gb309)); have n10_ := Aside0.mk ((by rw [hg]; exact (below_size (by repeat (first | (with_reducible first | exact HB.out | apply below_alloc | apply pw_below_drewN | apply below_drew1 | refine below_set ?_ (IsS62.ge HI277.out) | refine below_set ?_ GE294.out | refine below_set ?_ GE295.out) | exact HB.out))) : w.heap.size ≤ gb309)); have n11_ := Aside0.mk ((by rw [hg]; exact Nat.ne_of_lt (blk_lt (g := gb294) (o := .cells #[.int .i64 t278, .slice Ao21 t279.length co21, .slice Ao22 t282.length co22] 27 (0, 0)) (by (with_reducible repeat (first | refine blk_drewN ?_ _ | refine blk_drew ?_ | refine blk_alloc ?_ _)); exact BK294.out)) : gb294 ≠ gb309)); have n12_ := Aside0.mk ((by rw [hg]; exact Nat.ne_of_gt (blk_lt (g := gb294) (o := .cells #[.int .i64 t278, .slice Ao21 t279.length co21, .slice Ao22 t282.length co22] 27 (0, 0)) (by (with_reducible repeat (first | refine blk_drewN ?_ _ | refine blk_drew ?_ | refine blk_alloc ?_ _)); exact BK294.out)) : gb309 ≠ gb294)); have n13_ := Aside0.mk ((by rw [hg]; exact Nat.ne_of_lt (blk_lt (g := gb295) (o := .cells #[.int .i64 t286, .slice Ao25 t287.length co25, .slice Ao26 t290.length co26] 27 (0, 0)) (by (with_reducible repeat (first | refine blk_drewN ?_ _ | refine blk_drew ?_ | refine blk_alloc ?_ _)); exact BK295.out)) : gb295 ≠ gb309)); have n14_ := Aside0.mk ((by rw [hg]; exact Nat.ne_of_gt (blk_lt (g := gb295) (o := .cells #[.int .i64 t286, .slice Ao25 t287.length co25, .slice Ao26 t290.length co26] 27 (0, 0)) (by (with_reducible repeat (first | refine blk_drewN ?_ _ | refine blk_drew ?_ | refine blk_alloc ?_ _)); exact BK295.out)) : gb309 ≠ gb295)); have n15_ := Aside0.mk ((by rw [hg]; exact Nat.ne_of_lt (IsS62.lt (show IsS62 w _ g277 t275 t305 from by repeat (first | (with_reducible first | exact HI277.out | apply IsS62.alloc | apply IsS62.drewN | apply IsS62.drew | apply IsS62.set_1 | refine IsS62.far ?_ NB277_294.out _ | refine IsS62.far ?_ NB277_295.out _) | exact HI277.out))) : g277 ≠ gb309)); have n16_ := Aside0.mk ((by rw [hg]; exact Nat.ne_of_gt (IsS62.lt (show IsS62 w _ g277 t275 t305 from by repeat (first | (with_reducible first | exact HI277.out | apply IsS62.alloc | apply IsS62.drewN | apply IsS62.drew | apply IsS62.set_1 | refine IsS62.far ?_ NB277_294.out _ | refine IsS62.far ?_ NB277_295.out _) | exact HI277.out))) : gb309 ≠ g277)); clear HO281; clear HO284; clear HO289; clear HO292; clear HI277; clear BK294; clear BK295; clear HB; have HO281 := n0_; have HO284 := n1_; have HO289 := n2_; have HO292 := n3_; have HI277 := n4_; have BK294 := n5_; have BK295 := n6_; have HB := n7_; have BK309 := n8_; have GW309 := n9_; have GE309 := n10_; have NB294_309 := n11_; have NB309_294 := n12_; have NB295_309 := n13_; have NB309_295 := n14_; have NB277_309 := n15_; have NB309_277 := n16_; clear n0_ n1_ n2_ n3_ n4_ n5_ n6_ n7_ n8_ n9_ n10_ n11_ n12_ n13_ n14_ n15_ n16_; clear hb hbox hg; have hnb35 := NB309_294.out; have hnc35 := NB294_309.out; have hnb36 := NB309_295.out; have hnc36 := NB295_309.out; have hnb37 := NB309_277.out; have hnc37 := NB277_309.out; have hcz38_0 : w34.cell? ⟨gb309, 0, none⟩ = some (.int .i64 0) := (blk_cell BK309.out 0).trans rfl; have hcz38_1 : w34.cell? ⟨gb309, 1, none⟩ = some (.int .i64 0) := (blk_cell BK309.out 1).trans rfl; have hfz38_0 := blk_frozen BK309.out 0; have hfz38_1 := blk_frozen BK309.out 1; have hcz39_0 : w34.cell? ⟨gb295, 0, none⟩ = some (.int .i64 t286) := (blk_cell BK295.out 0).trans rfl; have hcz39_1 : w34.cell? ⟨gb295, 1, none⟩ = some (.slice Ao25 t287.length co25) := (blk_cell BK295.out 1).trans rfl; have hcz39_2 : w34.cell? ⟨gb295, 2, none⟩ = some (.slice Ao26 t290.length co26) := (blk_cell BK295.out 2).trans rfl; have hfz39_0 := blk_frozen BK295.out 0; have hfz39_1 := blk_frozen BK295.out 1; have hfz39_2 := blk_frozen BK295.out 2) | ((with_reducible refine gate_callee (f := 11) rfl ?_); refine goesL_ (some 40) rfl rfl Try.func11 (by kernel_rfl) rfl #[.agg #[.int .i64 t286, .slice Ao25 t287.length co25, .slice Ao26 t290.length co26], .int .i64 t300] rfl (by (try simp only [List.map_toArray, List.map_cons, List.map_nil]); first | done | rfl | (simp only [List.length_drop, List.length_take]; rfl)) ?_; (with_reducible refine (leaders_Weight.calls k t286 _ _ t287 _ _ t290 t300 t310 t311 t312 _ ?side1 ?side2 ?side3 ?side4 A11.out).mono ?_); (case side1 => refine (Kd.R_reads' (e := 3) (base := w.heap.size) (ok := fun k_ => (True ∧ some k_ ≠ (.slice Ao21 t279.length co21 : Value).ownBlock)) (n := t287.length) (c := co25) ?_).2.2; exact (by (with_reducible repeat (first | apply Kd.R_alloc | apply Kd.R_drewN | apply Kd.R_drew)); exact (Kd.R_mono (Kd.R_far (p := ⟨gb309, 1, none⟩) (Kd.R_far (p := ⟨gb309, 0, none⟩) (Kd.R_types HO289.out BK309.out (by decide)) (fun _ hk => hk.2) (.int .i64 t306)) (fun _ hk => hk.2) (.int .i64 t307)) (fun _ h_ => h_.1)))); (case side2 => exact (Kd.R_reads' HO289.out).2.1); (case side3 => refine (Kd.R_reads' (e := 27) (base := w.heap.size) (ok := fun k_ => ((((some k_ ≠ (.slice Ao25 t287.length co25 : Value).ownBlock ∧ some k_ ≠ (.slice Ao21 t279.length co21 : Value).ownBlock) ∧ some k_ ≠ (.slice Ao22 t282.length co22 : Value).ownBlock) ∧ k_ ≠ gb294) ∧ k_ ≠ gb295)) (n := t290.length) (c := co26) ?_).2.2; exact (by (with_reducible repeat (first | apply Kd.R_alloc | apply Kd.R_drewN | apply Kd.R_drew)); exact (Kd.R_mono (Kd.R_far (p := ⟨gb309, 1, none⟩) (Kd.R_far (p := ⟨gb309, 0, none⟩) (Kd.R_types HO292.out BK309.out (by decide)) (fun _ hk => hk.2) (.int .i64 t306)) (fun _ hk => hk.2) (.int .i64 t307)) (fun _ h_ => h_.1)))); (case side4 => exact (Kd.R_reads' HO292.out).2.1); rintro e w40 ⟨rfl, hb⟩; refine ⟨_, rfl, ?_⟩; have n0_ := Aside0.mk (Kd.R_below (by (with_reducible repeat (first | apply Kd.R_alloc | apply Kd.R_drewN | apply Kd.R_drew)); exact (Kd.R_mono (Kd.R_far (p := ⟨gb309, 1, none⟩) (Kd.R_far (p := ⟨gb309, 0, none⟩) (Kd.R_types HO281.out BK309.out (by decide)) (fun _ hk => hk.2) (.int .i64 t306)) (fun _ hk => hk.2) (.int .i64 t307)) (fun _ h_ => h_.1))) hb); have n1_ := Aside0.mk (Kd.R_below (by (with_reducible repeat (first | apply Kd.R_alloc | apply Kd.R_drewN | apply Kd.R_drew)); exact (Kd.R_mono (Kd.R_far (p := ⟨gb309, 1, none⟩) (Kd.R_far (p := ⟨gb309, 0, none⟩) (Kd.R_types HO284.out BK309.out (by decide)) (fun _ hk => hk.2) (.int .i64 t306)) (fun _ hk => hk.2) (.int .i64 t307)) (fun _ h_ => h_.1))) hb); have n2_ := Aside0.mk (Kd.R_below (by (with_reducible repeat (first | apply Kd.R_alloc | apply Kd.R_drewN | apply Kd.R_drew)); exact (Kd.R_mono (Kd.R_far (p := ⟨gb309, 1, none⟩) (Kd.R_far (p := ⟨gb309, 0, none⟩) (Kd.R_types HO289.out BK309.out (by decide)) (fun _ hk => hk.2) (.int .i64 t306)) (fun _ hk => hk.2) (.int .i64 t307)) (fun _ h_ => h_.1))) hb); have n3_ := Aside0.mk (Kd.R_below (by (with_reducible repeat (first | apply Kd.R_alloc | apply Kd.R_drewN | apply Kd.R_drew)); exact (Kd.R_mono (Kd.R_far (p := ⟨gb309, 1, none⟩) (Kd.R_far (p := ⟨gb309, 0, none⟩) (Kd.R_types HO292.out BK309.out (by decide)) (fun _ hk => hk.2) (.int .i64 t306)) (fun _ hk => hk.2) (.int .i64 t307)) (fun _ h_ => h_.1))) hb); have n4_ := Aside0.mk (IsS62.below (show IsS62 w ((w34.setCell ⟨gb309, 0, none⟩ (.int .i64 t306)).setCell ⟨gb309, 1, none⟩ (.int .i64 t307)) g277 t275 t305 from by repeat (first | (with_reducible first | exact HI277.out | apply IsS62.alloc | apply IsS62.drewN | apply IsS62.drew | apply IsS62.set_1 | refine IsS62.far ?_ NB277_294.out _ | refine IsS62.far ?_ NB277_295.out _ | refine IsS62.far ?_ NB277_309.out _) | exact HI277.out)) hb); have n5_ := Aside0.mk (blk_below (g := gb294) (o := .cells #[.int .i64 t278, .slice Ao21 t279.length co21, .slice Ao22 t282.length co22] 27 (0, 0)) (by (with_reducible repeat (first | refine blk_drewN ?_ _ | refine blk_drew ?_ | refine blk_alloc ?_ _)); refine blk_far ?_ NB294_309.out _; (with_reducible repeat (first | refine blk_drewN ?_ _ | refine blk_drew ?_ | refine blk_alloc ?_ _)); refine blk_far ?_ NB294_309.out _; (with_reducible repeat (first | refine blk_drewN ?_ _ | refine blk_drew ?_ | refine blk_alloc ?_ _)); exact BK294.out) hb); have n6_ := Aside0.mk (blk_below (g := gb295) (o := .cells #[.int .i64 t286, .slice Ao25 t287.length co25, .slice Ao26 t290.length co26] 27 (0, 0)) (by (with_reducible repeat (first | refine blk_drewN ?_ _ | refine blk_drew ?_ | refine blk_alloc ?_ _)); refine blk_far ?_ NB295_309.out _; (with_reducible repeat (first | refine blk_drewN ?_ _ | refine blk_drew ?_ | refine blk_alloc ?_ _)); refine blk_far ?_ NB295_309.out _; (with_reducible repeat (first | refine blk_drewN ?_ _ | refine blk_drew ?_ | refine blk_alloc ?_ _)); exact BK295.out) hb); have n7_ := Aside0.mk (blk_below (g := gb309) (o := .cells #[.int .i64 t306, .int .i64 t307] 31 (0, 0)) (by (with_reducible repeat (first | refine blk_drewN ?_ _ | refine blk_drew ?_ | refine blk_alloc ?_ _)); refine blk_put (cs := #[.int .i64 t306, .int .i64 0]) ?_ 1 _ rfl; (with_reducible repeat (first | refine blk_drewN ?_ _ | refine blk_drew ?_ | refine blk_alloc ?_ _)); refine blk_put (cs := #[.int .i64 0, .int .i64 0]) ?_ 0 _ rfl; (with_reducible repeat (first | refine blk_drewN ?_ _ | refine blk_drew ?_ | refine blk_alloc ?_ _)); exact BK309.out) hb); have n8_ := Aside0.mk (below_step (by repeat (first | (with_reducible first | exact HB.out | apply below_alloc | apply pw_below_drewN | apply below_drew1 | refine below_set ?_ (IsS62.ge HI277.out) | refine below_set ?_ GE294.out | refine below_set ?_ GE295.out | refine below_set ?_ GE309.out) | exact HB.out)) hb); clear HO281; clear HO284; clear HO289; clear HO292; clear HI277; clear BK294; clear BK295; clear BK309; clear HB; have HO281 := n0_; have HO284 := n1_; have HO289 := n2_; have HO292 := n3_; have HI277 := n4_; have BK294 := n5_; have BK295 := n6_; have BK309 := n7_; have HB := n8_; clear n0_ n1_ n2_ n3_ n4_ n5_ n6_ n7_ n8_; (try clear hb); (try clear hb2); (try clear hk); (try clear hi)) | ((with_reducible refine gate_dst (N := 13) rfl ?_); refine box_event ?hg (N := 13) ?hd (cs := #[.int .i64 0, .int .i64 0]) (t := 31) ?hr ?_; (case hd => rfl); (case hg => rfl); (case hr => first | (go_simp; done) | (go_simp; rfl)); intro gb313 hg w41 hbox hb; have n0_ := Aside0.mk (Kd.R_below (by (with_reducible repeat (first | apply Kd.R_alloc | apply Kd.R_drewN | apply Kd.R_drew)); exact HO281.out) hb); have n1_ := Aside0.mk (Kd.R_below (by (with_reducible repeat (first | apply Kd.R_alloc | apply Kd.R_drewN | apply Kd.R_drew)); exact HO284.out) hb); have n2_ := Aside0.mk (Kd.R_below (by (with_reducible repeat (first | apply Kd.R_alloc | apply Kd.R_drewN | apply Kd.R_drew)); exact HO289.out) hb); have n3_ := Aside0.mk (Kd.R_below (by (with_reducible repeat (first | apply Kd.R_alloc | apply Kd.R_drewN | apply Kd.R_drew)); exact HO292.out) hb); have n4_ := Aside0.mk (IsS62.below (by repeat (first | (with_reducible first | exact HI277.out | apply IsS62.alloc | apply IsS62.drewN | apply IsS62.drew | apply IsS62.set_1 | refine IsS62.far ?_ NB277_294.out _ | refine IsS62.far ?_ NB277_295.out _ | refine IsS62.far ?_ NB277_309.out _) | exact HI277.out)) hb); have n5_ := Aside0.mk (blk_below (g := gb294) (o := .cells #[.int .i64 t278, .slice Ao21 t279.length co21, .slice Ao22 t282.length co22] 27 (0, 0)) (by (with_reducible repeat (first | refine blk_drewN ?_ _ | refine blk_drew ?_ | refine blk_alloc ?_ _)); exact BK294.out) hb); have n6_ := Aside0.mk (blk_below (g := gb295) (o := .cells #[.int .i64 t286, .slice Ao25 t287.length co25, .slice Ao26 t290.length co26] 27 (0, 0)) (by (with_reducible repeat (first | refine blk_drewN ?_ _ | refine blk_drew ?_ | refine blk_alloc ?_ _)); exact BK295.out) hb); have n7_ := Aside0.mk (blk_below (g := gb309) (o := .cells #[.int .i64 t306, .int .i64 t307] 31 (0, 0)) (by (with_reducible repeat (first | refine blk_drewN ?_ _ | refine blk_drew ?_ | refine blk_alloc ?_ _)); exact BK309.out) hb); have n8_ := Aside0.mk (below_step (by repeat (first | (with_reducible first | exact HB.out | apply below_alloc | apply pw_below_drewN | apply below_drew1 | refine below_set ?_ (IsS62.ge HI277.out) | refine below_set ?_ GE294.out | refine below_set ?_ GE295.out | refine below_set ?_ GE309.out) | exact HB.out)) hb); have n9_ := Aside0.mk (hbox); have n10_ := Aside0.mk ((by rw [hg]; exact (below_size (by repeat (first | (with_reducible first | exact HB.out | apply below_alloc | apply pw_below_drewN | apply below_drew1 | refine below_set ?_ (IsS62.ge HI277.out) | refine below_set ?_ GE294.out | refine below_set ?_ GE295.out | refine below_set ?_ GE309.out) | exact HB.out))) : w.heap.size ≤ gb313)); have n11_ := Aside0.mk ((by rw [hg]; exact (below_size (by repeat (first | (with_reducible first | exact HB.out | apply below_alloc | apply pw_below_drewN | apply below_drew1 | refine below_set ?_ (IsS62.ge HI277.out) | refine below_set ?_ GE294.out | refine below_set ?_ GE295.out | refine below_set ?_ GE309.out) | exact HB.out))) : w.heap.size ≤ gb313)); have n12_ := Aside0.mk ((by rw [hg]; exact Nat.ne_of_lt (blk_lt (g := gb294) (o := .cells #[.int .i64 t278, .slice Ao21 t279.length co21, .slice Ao22 t282.length co22] 27 (0, 0)) (by (with_reducible repeat (first | refine blk_drewN ?_ _ | refine blk_drew ?_ | refine blk_alloc ?_ _)); exact BK294.out)) : gb294 ≠ gb313)); have n13_ := Aside0.mk ((by rw [hg]; exact Nat.ne_of_gt (blk_lt (g := gb294) (o := .cells #[.int .i64 t278, .slice Ao21 t279.length co21, .slice Ao22 t282.length co22] 27 (0, 0)) (by (with_reducible repeat (first | refine blk_drewN ?_ _ | refine blk_drew ?_ | refine blk_alloc ?_ _)); exact BK294.out)) : gb313 ≠ gb294)); have n14_ := Aside0.mk ((by rw [hg]; exact Nat.ne_of_lt (blk_lt (g := gb295) (o := .cells #[.int .i64 t286, .slice Ao25 t287.length co25, .slice Ao26 t290.length co26] 27 (0, 0)) (by (with_reducible repeat (first | refine blk_drewN ?_ _ | refine blk_drew ?_ | refine blk_alloc ?_ _)); exact BK295.out)) : gb295 ≠ gb313)); have n15_ := Aside0.mk ((by rw [hg]; exact Nat.ne_of_gt (blk_lt (g := gb295) (o := .cells #[.int .i64 t286, .slice Ao25 t287.length co25, .slice Ao26 t290.length co26] 27 (0, 0)) (by (with_reducible repeat (first | refine blk_drewN ?_ _ | refine blk_drew ?_ | refine blk_alloc ?_ _)); exact BK295.out)) : gb313 ≠ gb295)); have n16_ := Aside0.mk ((by rw [hg]; exact Nat.ne_of_lt (blk_lt (g := gb309) (o := .cells #[.int .i64 t306, .int .i64 t307] 31 (0, 0)) (by (with_reducible repeat (first | refine blk_drewN ?_ _ | refine blk_drew ?_ | refine blk_alloc ?_ _)); exact BK309.out)) : gb309 ≠ gb313)); have n17_ := Aside0.mk ((by rw [hg]; exact Nat.ne_of_gt (blk_lt (g := gb309) (o := .cells #[.int .i64 t306, .int .i64 t307] 31 (0, 0)) (by (with_reducible repeat (first | refine blk_drewN ?_ _ | refine blk_drew ?_ | refine blk_alloc ?_ _)); exact BK309.out)) : gb313 ≠ gb309)); have n18_ := Aside0.mk ((by rw [hg]; exact Nat.ne_of_lt (IsS62.lt (show IsS62 w _ g277 t275 t305 from by repeat (first | (with_reducible first | exact HI277.out | apply IsS62.alloc | apply IsS62.drewN | apply IsS62.drew | apply IsS62.set_1 | refine IsS62.far ?_ NB277_294.out _ | refine IsS62.far ?_ NB277_295.out _ | refine IsS62.far ?_ NB277_309.out _) | exact HI277.out))) : g277 ≠ gb313)); have n19_ := Aside0.mk ((by rw [hg]; exact Nat.ne_of_gt (IsS62.lt (show IsS62 w _ g277 t275 t305 from by repeat (first | (with_reducible first | exact HI277.out | apply IsS62.alloc | apply IsS62.drewN | apply IsS62.drew | apply IsS62.set_1 | refine IsS62.far ?_ NB277_294.out _ | refine IsS62.far ?_ NB277_295.out _ | refine IsS62.far ?_ NB277_309.out _) | exact HI277.out))) : gb313 ≠ g277)); clear HO281; clear HO284; clear HO289; clear HO292; clear HI277; clear BK294; clear BK295; clear BK309; clear HB; have HO281 := n0_; have HO284 := n1_; have HO289 := n2_; have HO292 := n3_; have HI277 := n4_; have BK294 := n5_; have BK295 := n6_; have BK309 := n7_; have HB := n8_; have BK313 := n9_; have GW313 := n10_; have GE313 := n11_; have NB294_313 := n12_; have NB313_294 := n13_; have NB295_313 := n14_; have NB313_295 := n15_; have NB309_313 := n16_; have NB313_309 := n17_; have NB277_313 := n18_; have NB313_277 := n19_; clear n0_ n1_ n2_ n3_ n4_ n5_ n6_ n7_ n8_ n9_ n10_ n11_ n12_ n13_ n14_ n15_ n16_ n17_ n18_ n19_; clear hb hbox hg; have hnb42 := NB313_294.out; have hnc42 := NB294_313.out; have hnb43 := NB313_295.out; have hnc43 := NB295_313.out; have hnb44 := NB313_309.out; have hnc44 := NB309_313.out; have hnb45 := NB313_277.out; have hnc45 := NB277_313.out; have hcz46_0 : w41.cell? ⟨gb313, 0, none⟩ = some (.int .i64 0) := (blk_cell BK313.out 0).trans rfl; have hcz46_1 : w41.cell? ⟨gb313, 1, none⟩ = some (.int .i64 0) := (blk_cell BK313.out 1).trans rfl; have hfz46_0 := blk_frozen BK313.out 0; have hfz46_1 := blk_frozen BK313.out 1))
  (try simp only [Act.put, List.setIfInBounds_toArray, List.set_cons_zero, List.set_cons_succ])
  go_cut [68] (fun v68 wc => ∃ (kq : Nat) (x68_11 : Bool), v68 = .bool x68_11 ∧ Aside0 (trustquorumlaw21_LeadersShare.j0 kq t296 t298 t300 t302 t304 x68_11 t278 t279 t282 t286 t287 t290 = some r) ∧ Aside0 (kq ≤ k) ∧ Aside0 (Kd.R (Kd.int .i64) 3 wc w.heap.size (fun k_ => some k_ ≠ ((.slice Ao25 t287.length co25) : Value).ownBlock) (.slice Ao21 t279.length co21) t279) ∧ Aside0 (Kd.R k27 27 wc w.heap.size (fun k_ => some k_ ≠ ((.slice Ao21 t279.length co21) : Value).ownBlock ∧ some k_ ≠ ((.slice Ao25 t287.length co25) : Value).ownBlock ∧ some k_ ≠ ((.slice Ao26 t290.length co26) : Value).ownBlock ∧ k_ ≠ gb294 ∧ k_ ≠ gb295) (.slice Ao22 t282.length co22) t282) ∧ Aside0 (Kd.R (Kd.int .i64) 3 wc w.heap.size (fun k_ => some k_ ≠ ((.slice Ao21 t279.length co21) : Value).ownBlock) (.slice Ao25 t287.length co25) t287) ∧ Aside0 (Kd.R k27 27 wc w.heap.size (fun k_ => some k_ ≠ ((.slice Ao21 t279.length co21) : Value).ownBlock ∧ some k_ ≠ ((.slice Ao22 t282.length co22) : Value).ownBlock ∧ some k_ ≠ ((.slice Ao25 t287.length co25) : Value).ownBlock ∧ k_ ≠ gb294 ∧ k_ ≠ gb295) (.slice Ao26 t290.length co26) t290) ∧ Aside0 (wc.heap[gb294]? = some (.cells #[.int .i64 t278, (.slice Ao21 t279.length co21), (.slice Ao22 t282.length co22)] 27 (0, 0))) ∧ Aside0 (wc.heap[gb295]? = some (.cells #[.int .i64 t286, (.slice Ao25 t287.length co25), (.slice Ao26 t290.length co26)] 27 (0, 0))) ∧ Aside0 (wc.heap[gb309]? = some (.cells #[.int .i64 t306, .int .i64 t307] 31 (0, 0))) ∧ Aside0 (wc.heap[gb313]? = some (.cells #[.int .i64 t310, .int .i64 t311] 31 (0, 0))) ∧ Aside0 (Below w.heap.size w wc))
  case first =>
    have H := HC12.out
    clear HC12
    by_cases c47 : t300 = t296
    · rw [if_pos c47] at H
      have c47b0 : (t300 == t296) = true := beq_iff_eq.mpr c47
      have c47b1 : (t300 != t296) = false := bne_eq_false_iff_eq.mpr c47
      clear c47
      (first | rw [c47b0] | (simp only [i64_w, i32_w]; rw [c47b0]) | skip)
      have H' := Aside0.mk H
      clear H
      go_wp2
      go_meet
      case rel => exact ⟨_, (true), (by first | rfl | (simp; done) | (simp [*]; done)), H', ⟨by first | omega | exact Nat.le_refl _⟩, ⟨by (with_reducible repeat (first | apply Kd.R_alloc | apply Kd.R_drewN | apply Kd.R_drew)); exact Kd.R_mono (Kd.R_far (p := ⟨gb313, 1, none⟩) (Kd.R_far (p := ⟨gb313, 0, none⟩) (Kd.R_types HO281.out BK313.out (by decide)) (fun _ hk => hk.2) (.int .i64 t310)) (fun _ hk => hk.2) (.int .i64 t311)) (fun _ hk => hk.1.2)⟩, ⟨by (with_reducible repeat (first | apply Kd.R_alloc | apply Kd.R_drewN | apply Kd.R_drew)); exact Kd.R_mono (Kd.R_far (p := ⟨gb313, 1, none⟩) (Kd.R_far (p := ⟨gb313, 0, none⟩) (Kd.R_types HO284.out BK313.out (by decide)) (fun _ hk => hk.2) (.int .i64 t310)) (fun _ hk => hk.2) (.int .i64 t311)) (fun _ hk => ⟨hk.1.1.1.1.1, ⟨hk.1.1.1.1.2, ⟨hk.1.1.1.2, ⟨hk.1.1.2, hk.1.2⟩⟩⟩⟩)⟩, ⟨by (with_reducible repeat (first | apply Kd.R_alloc | apply Kd.R_drewN | apply Kd.R_drew)); exact Kd.R_mono (Kd.R_far (p := ⟨gb313, 1, none⟩) (Kd.R_far (p := ⟨gb313, 0, none⟩) (Kd.R_types HO289.out BK313.out (by decide)) (fun _ hk => hk.2) (.int .i64 t310)) (fun _ hk => hk.2) (.int .i64 t311)) (fun _ hk => hk.1.2)⟩, ⟨by (with_reducible repeat (first | apply Kd.R_alloc | apply Kd.R_drewN | apply Kd.R_drew)); exact Kd.R_mono (Kd.R_far (p := ⟨gb313, 1, none⟩) (Kd.R_far (p := ⟨gb313, 0, none⟩) (Kd.R_types HO292.out BK313.out (by decide)) (fun _ hk => hk.2) (.int .i64 t310)) (fun _ hk => hk.2) (.int .i64 t311)) (fun _ hk => ⟨hk.1.1.1.1.2, ⟨hk.1.1.1.2, ⟨hk.1.1.1.1.1, ⟨hk.1.1.2, hk.1.2⟩⟩⟩⟩)⟩, ⟨by (with_reducible repeat (first | refine blk_drewN ?_ _ | refine blk_drew ?_ | refine blk_alloc ?_ _)); refine blk_far ?_ NB294_313.out _; (with_reducible repeat (first | refine blk_drewN ?_ _ | refine blk_drew ?_ | refine blk_alloc ?_ _)); refine blk_far ?_ NB294_313.out _; (with_reducible repeat (first | refine blk_drewN ?_ _ | refine blk_drew ?_ | refine blk_alloc ?_ _)); exact BK294.out⟩, ⟨by (with_reducible repeat (first | refine blk_drewN ?_ _ | refine blk_drew ?_ | refine blk_alloc ?_ _)); refine blk_far ?_ NB295_313.out _; (with_reducible repeat (first | refine blk_drewN ?_ _ | refine blk_drew ?_ | refine blk_alloc ?_ _)); refine blk_far ?_ NB295_313.out _; (with_reducible repeat (first | refine blk_drewN ?_ _ | refine blk_drew ?_ | refine blk_alloc ?_ _)); exact BK295.out⟩, ⟨by (with_reducible repeat (first | refine blk_drewN ?_ _ | refine blk_drew ?_ | refine blk_alloc ?_ _)); refine blk_far ?_ NB309_313.out _; (with_reducible repeat (first | refine blk_drewN ?_ _ | refine blk_drew ?_ | refine blk_alloc ?_ _)); refine blk_far ?_ NB309_313.out _; (with_reducible repeat (first | refine blk_drewN ?_ _ | refine blk_drew ?_ | refine blk_alloc ?_ _)); exact BK309.out⟩, ⟨by (with_reducible repeat (first | refine blk_drewN ?_ _ | refine blk_drew ?_ | refine blk_alloc ?_ _)); refine blk_put (cs := #[.int .i64 t310, .int .i64 0]) ?_ 1 _ rfl; (with_reducible repeat (first | refine blk_drewN ?_ _ | refine blk_drew ?_ | refine blk_alloc ?_ _)); refine blk_put (cs := #[.int .i64 0, .int .i64 0]) ?_ 0 _ rfl; (with_reducible repeat (first | refine blk_drewN ?_ _ | refine blk_drew ?_ | refine blk_alloc ?_ _)); exact BK313.out⟩, ⟨by repeat (first | (with_reducible first | exact HB.out | apply below_alloc | apply pw_below_drewN | apply below_drew1 | refine below_set ?_ (IsS62.ge HI277.out) | refine below_set ?_ GE294.out | refine below_set ?_ GE295.out | refine below_set ?_ GE309.out | refine below_set ?_ GE313.out) | exact HB.out)⟩⟩
    · rw [if_neg c47] at H
      have c47b0 : (t300 == t296) = false := beq_eq_false_iff_ne.mpr c47
      have c47b1 : (t300 != t296) = true := bne_iff_ne.mpr c47
      (first | rw [c47b0] | (simp only [i64_w, i32_w]; rw [c47b0]) | skip)
      by_cases c48 : t300 = t298
      · rw [if_pos c48] at H
        have c48b0 : (t300 == t298) = true := beq_iff_eq.mpr c48
        have c48b1 : (t300 != t298) = false := bne_eq_false_iff_eq.mpr c48
        clear c48
        have H' := Aside0.mk H
        clear H
        go_wp2
        go_meet
        case rel => exact ⟨_, (true), (by first | rfl | (simp; done) | (simp [*]; done)), H', ⟨by first | omega | exact Nat.le_refl _⟩, ⟨by (with_reducible repeat (first | apply Kd.R_alloc | apply Kd.R_drewN | apply Kd.R_drew)); exact Kd.R_mono (Kd.R_far (p := ⟨gb313, 1, none⟩) (Kd.R_far (p := ⟨gb313, 0, none⟩) (Kd.R_types HO281.out BK313.out (by decide)) (fun _ hk => hk.2) (.int .i64 t310)) (fun _ hk => hk.2) (.int .i64 t311)) (fun _ hk => hk.1.2)⟩, ⟨by (with_reducible repeat (first | apply Kd.R_alloc | apply Kd.R_drewN | apply Kd.R_drew)); exact Kd.R_mono (Kd.R_far (p := ⟨gb313, 1, none⟩) (Kd.R_far (p := ⟨gb313, 0, none⟩) (Kd.R_types HO284.out BK313.out (by decide)) (fun _ hk => hk.2) (.int .i64 t310)) (fun _ hk => hk.2) (.int .i64 t311)) (fun _ hk => ⟨hk.1.1.1.1.1, ⟨hk.1.1.1.1.2, ⟨hk.1.1.1.2, ⟨hk.1.1.2, hk.1.2⟩⟩⟩⟩)⟩, ⟨by (with_reducible repeat (first | apply Kd.R_alloc | apply Kd.R_drewN | apply Kd.R_drew)); exact Kd.R_mono (Kd.R_far (p := ⟨gb313, 1, none⟩) (Kd.R_far (p := ⟨gb313, 0, none⟩) (Kd.R_types HO289.out BK313.out (by decide)) (fun _ hk => hk.2) (.int .i64 t310)) (fun _ hk => hk.2) (.int .i64 t311)) (fun _ hk => hk.1.2)⟩, ⟨by (with_reducible repeat (first | apply Kd.R_alloc | apply Kd.R_drewN | apply Kd.R_drew)); exact Kd.R_mono (Kd.R_far (p := ⟨gb313, 1, none⟩) (Kd.R_far (p := ⟨gb313, 0, none⟩) (Kd.R_types HO292.out BK313.out (by decide)) (fun _ hk => hk.2) (.int .i64 t310)) (fun _ hk => hk.2) (.int .i64 t311)) (fun _ hk => ⟨hk.1.1.1.1.2, ⟨hk.1.1.1.2, ⟨hk.1.1.1.1.1, ⟨hk.1.1.2, hk.1.2⟩⟩⟩⟩)⟩, ⟨by (with_reducible repeat (first | refine blk_drewN ?_ _ | refine blk_drew ?_ | refine blk_alloc ?_ _)); refine blk_far ?_ NB294_313.out _; (with_reducible repeat (first | refine blk_drewN ?_ _ | refine blk_drew ?_ | refine blk_alloc ?_ _)); refine blk_far ?_ NB294_313.out _; (with_reducible repeat (first | refine blk_drewN ?_ _ | refine blk_drew ?_ | refine blk_alloc ?_ _)); exact BK294.out⟩, ⟨by (with_reducible repeat (first | refine blk_drewN ?_ _ | refine blk_drew ?_ | refine blk_alloc ?_ _)); refine blk_far ?_ NB295_313.out _; (with_reducible repeat (first | refine blk_drewN ?_ _ | refine blk_drew ?_ | refine blk_alloc ?_ _)); refine blk_far ?_ NB295_313.out _; (with_reducible repeat (first | refine blk_drewN ?_ _ | refine blk_drew ?_ | refine blk_alloc ?_ _)); exact BK295.out⟩, ⟨by (with_reducible repeat (first | refine blk_drewN ?_ _ | refine blk_drew ?_ | refine blk_alloc ?_ _)); refine blk_far ?_ NB309_313.out _; (with_reducible repeat (first | refine blk_drewN ?_ _ | refine blk_drew ?_ | refine blk_alloc ?_ _)); refine blk_far ?_ NB309_313.out _; (with_reducible repeat (first | refine blk_drewN ?_ _ | refine blk_drew ?_ | refine blk_alloc ?_ _)); exact BK309.out⟩, ⟨by (with_reducible repeat (first | refine blk_drewN ?_ _ | refine blk_drew ?_ | refine blk_alloc ?_ _)); refine blk_put (cs := #[.int .i64 t310, .int .i64 0]) ?_ 1 _ rfl; (with_reducible repeat (first | refine blk_drewN ?_ _ | refine blk_drew ?_ | refine blk_alloc ?_ _)); refine blk_put (cs := #[.int .i64 0, .int .i64 0]) ?_ 0 _ rfl; (with_reducible repeat (first | refine blk_drewN ?_ _ | refine blk_drew ?_ | refine blk_alloc ?_ _)); exact BK313.out⟩, ⟨by repeat (first | (with_reducible first | exact HB.out | apply below_alloc | apply pw_below_drewN | apply below_drew1 | refine below_set ?_ (IsS62.ge HI277.out) | refine below_set ?_ GE294.out | refine below_set ?_ GE295.out | refine below_set ?_ GE309.out | refine below_set ?_ GE313.out) | exact HB.out)⟩⟩
      · rw [if_neg c48] at H
        have c48b0 : (t300 == t298) = false := beq_eq_false_iff_ne.mpr c48
        have c48b1 : (t300 != t298) = true := bne_iff_ne.mpr c48
        by_cases c49 : (t308 != t312) = true
        · rw [if_pos c49] at H
          have c49b0 : (t308 != t312) = true := c49
          (try (have c49b1 : decide (t308 = t312) = false := by simpa using c49))
          (try (have c49b2 : (t308 == t312) = false := by simpa using c49))
          (try (have c49b3 : ¬ (t308 = t312) := by simpa using c49))
          clear c49
          have H' := Aside0.mk H
          clear H
          go_wp2
          go_meet
          case rel => exact ⟨_, (true), (by first | rfl | (simp; done) | (simp [*]; done)), H', ⟨by first | omega | exact Nat.le_refl _⟩, ⟨by (with_reducible repeat (first | apply Kd.R_alloc | apply Kd.R_drewN | apply Kd.R_drew)); exact Kd.R_mono (Kd.R_far (p := ⟨gb313, 1, none⟩) (Kd.R_far (p := ⟨gb313, 0, none⟩) (Kd.R_types HO281.out BK313.out (by decide)) (fun _ hk => hk.2) (.int .i64 t310)) (fun _ hk => hk.2) (.int .i64 t311)) (fun _ hk => hk.1.2)⟩, ⟨by (with_reducible repeat (first | apply Kd.R_alloc | apply Kd.R_drewN | apply Kd.R_drew)); exact Kd.R_mono (Kd.R_far (p := ⟨gb313, 1, none⟩) (Kd.R_far (p := ⟨gb313, 0, none⟩) (Kd.R_types HO284.out BK313.out (by decide)) (fun _ hk => hk.2) (.int .i64 t310)) (fun _ hk => hk.2) (.int .i64 t311)) (fun _ hk => ⟨hk.1.1.1.1.1, ⟨hk.1.1.1.1.2, ⟨hk.1.1.1.2, ⟨hk.1.1.2, hk.1.2⟩⟩⟩⟩)⟩, ⟨by (with_reducible repeat (first | apply Kd.R_alloc | apply Kd.R_drewN | apply Kd.R_drew)); exact Kd.R_mono (Kd.R_far (p := ⟨gb313, 1, none⟩) (Kd.R_far (p := ⟨gb313, 0, none⟩) (Kd.R_types HO289.out BK313.out (by decide)) (fun _ hk => hk.2) (.int .i64 t310)) (fun _ hk => hk.2) (.int .i64 t311)) (fun _ hk => hk.1.2)⟩, ⟨by (with_reducible repeat (first | apply Kd.R_alloc | apply Kd.R_drewN | apply Kd.R_drew)); exact Kd.R_mono (Kd.R_far (p := ⟨gb313, 1, none⟩) (Kd.R_far (p := ⟨gb313, 0, none⟩) (Kd.R_types HO292.out BK313.out (by decide)) (fun _ hk => hk.2) (.int .i64 t310)) (fun _ hk => hk.2) (.int .i64 t311)) (fun _ hk => ⟨hk.1.1.1.1.2, ⟨hk.1.1.1.2, ⟨hk.1.1.1.1.1, ⟨hk.1.1.2, hk.1.2⟩⟩⟩⟩)⟩, ⟨by (with_reducible repeat (first | refine blk_drewN ?_ _ | refine blk_drew ?_ | refine blk_alloc ?_ _)); refine blk_far ?_ NB294_313.out _; (with_reducible repeat (first | refine blk_drewN ?_ _ | refine blk_drew ?_ | refine blk_alloc ?_ _)); refine blk_far ?_ NB294_313.out _; (with_reducible repeat (first | refine blk_drewN ?_ _ | refine blk_drew ?_ | refine blk_alloc ?_ _)); exact BK294.out⟩, ⟨by (with_reducible repeat (first | refine blk_drewN ?_ _ | refine blk_drew ?_ | refine blk_alloc ?_ _)); refine blk_far ?_ NB295_313.out _; (with_reducible repeat (first | refine blk_drewN ?_ _ | refine blk_drew ?_ | refine blk_alloc ?_ _)); refine blk_far ?_ NB295_313.out _; (with_reducible repeat (first | refine blk_drewN ?_ _ | refine blk_drew ?_ | refine blk_alloc ?_ _)); exact BK295.out⟩, ⟨by (with_reducible repeat (first | refine blk_drewN ?_ _ | refine blk_drew ?_ | refine blk_alloc ?_ _)); refine blk_far ?_ NB309_313.out _; (with_reducible repeat (first | refine blk_drewN ?_ _ | refine blk_drew ?_ | refine blk_alloc ?_ _)); refine blk_far ?_ NB309_313.out _; (with_reducible repeat (first | refine blk_drewN ?_ _ | refine blk_drew ?_ | refine blk_alloc ?_ _)); exact BK309.out⟩, ⟨by (with_reducible repeat (first | refine blk_drewN ?_ _ | refine blk_drew ?_ | refine blk_alloc ?_ _)); refine blk_put (cs := #[.int .i64 t310, .int .i64 0]) ?_ 1 _ rfl; (with_reducible repeat (first | refine blk_drewN ?_ _ | refine blk_drew ?_ | refine blk_alloc ?_ _)); refine blk_put (cs := #[.int .i64 0, .int .i64 0]) ?_ 0 _ rfl; (with_reducible repeat (first | refine blk_drewN ?_ _ | refine blk_drew ?_ | refine blk_alloc ?_ _)); exact BK313.out⟩, ⟨by repeat (first | (with_reducible first | exact HB.out | apply below_alloc | apply pw_below_drewN | apply below_drew1 | refine below_set ?_ (IsS62.ge HI277.out) | refine below_set ?_ GE294.out | refine below_set ?_ GE295.out | refine below_set ?_ GE309.out | refine below_set ?_ GE313.out) | exact HB.out)⟩⟩
        · rw [if_neg c49] at H
          have c49b0 : (t308 != t312) = false := by simpa using c49
          (try (have c49b1 : decide (t308 = t312) = true := by simpa using c49))
          (try (have c49b2 : (t308 == t312) = true := by simpa using c49))
          clear c49
          have H' := Aside0.mk H
          clear H
          have hnb50 := NB309_294.out
          have hnc50 := NB294_309.out
          have hnb51 := NB309_295.out
          have hnc51 := NB295_309.out
          have hnb52 := NB309_313.out
          have hnc52 := NB313_309.out
          have hnb53 := NB309_277.out
          have hnc53 := NB277_309.out
          have hcz54_0 : w41.cell? ⟨gb309, 0, none⟩ = some (.int .i64 t306) := (blk_cell BK309.out 0).trans rfl
          have hcz54_1 : w41.cell? ⟨gb309, 1, none⟩ = some (.int .i64 t307) := (blk_cell BK309.out 1).trans rfl
          have hfz54_0 := blk_frozen BK309.out 0
          have hfz54_1 := blk_frozen BK309.out 1
          have hnb55 := NB313_294.out
          have hnc55 := NB294_313.out
          have hnb56 := NB313_295.out
          have hnc56 := NB295_313.out
          have hnb57 := NB313_277.out
          have hnc57 := NB277_313.out
          have hcz58_0 : w41.cell? ⟨gb313, 0, none⟩ = some (.int .i64 0) := (blk_cell BK313.out 0).trans rfl
          have hcz58_1 : w41.cell? ⟨gb313, 1, none⟩ = some (.int .i64 0) := (blk_cell BK313.out 1).trans rfl
          have hfz58_0 := blk_frozen BK313.out 0
          have hfz58_1 := blk_frozen BK313.out 1
          go_wp2
          go_meet
          case rel => exact ⟨_, (((wrap64 (t306 * t311)) != (wrap64 (t310 * t307)))), (by first | rfl | (simp; done) | (simp [*]; done)), H', ⟨by first | omega | exact Nat.le_refl _⟩, ⟨by (with_reducible repeat (first | apply Kd.R_alloc | apply Kd.R_drewN | apply Kd.R_drew)); exact Kd.R_mono (Kd.R_far (p := ⟨gb313, 1, none⟩) (Kd.R_far (p := ⟨gb313, 0, none⟩) (Kd.R_types HO281.out BK313.out (by decide)) (fun _ hk => hk.2) (.int .i64 t310)) (fun _ hk => hk.2) (.int .i64 t311)) (fun _ hk => hk.1.2)⟩, ⟨by (with_reducible repeat (first | apply Kd.R_alloc | apply Kd.R_drewN | apply Kd.R_drew)); exact Kd.R_mono (Kd.R_far (p := ⟨gb313, 1, none⟩) (Kd.R_far (p := ⟨gb313, 0, none⟩) (Kd.R_types HO284.out BK313.out (by decide)) (fun _ hk => hk.2) (.int .i64 t310)) (fun _ hk => hk.2) (.int .i64 t311)) (fun _ hk => ⟨hk.1.1.1.1.1, ⟨hk.1.1.1.1.2, ⟨hk.1.1.1.2, ⟨hk.1.1.2, hk.1.2⟩⟩⟩⟩)⟩, ⟨by (with_reducible repeat (first | apply Kd.R_alloc | apply Kd.R_drewN | apply Kd.R_drew)); exact Kd.R_mono (Kd.R_far (p := ⟨gb313, 1, none⟩) (Kd.R_far (p := ⟨gb313, 0, none⟩) (Kd.R_types HO289.out BK313.out (by decide)) (fun _ hk => hk.2) (.int .i64 t310)) (fun _ hk => hk.2) (.int .i64 t311)) (fun _ hk => hk.1.2)⟩, ⟨by (with_reducible repeat (first | apply Kd.R_alloc | apply Kd.R_drewN | apply Kd.R_drew)); exact Kd.R_mono (Kd.R_far (p := ⟨gb313, 1, none⟩) (Kd.R_far (p := ⟨gb313, 0, none⟩) (Kd.R_types HO292.out BK313.out (by decide)) (fun _ hk => hk.2) (.int .i64 t310)) (fun _ hk => hk.2) (.int .i64 t311)) (fun _ hk => ⟨hk.1.1.1.1.2, ⟨hk.1.1.1.2, ⟨hk.1.1.1.1.1, ⟨hk.1.1.2, hk.1.2⟩⟩⟩⟩)⟩, ⟨by (with_reducible repeat (first | refine blk_drewN ?_ _ | refine blk_drew ?_ | refine blk_alloc ?_ _)); refine blk_far ?_ NB294_313.out _; (with_reducible repeat (first | refine blk_drewN ?_ _ | refine blk_drew ?_ | refine blk_alloc ?_ _)); refine blk_far ?_ NB294_313.out _; (with_reducible repeat (first | refine blk_drewN ?_ _ | refine blk_drew ?_ | refine blk_alloc ?_ _)); exact BK294.out⟩, ⟨by (with_reducible repeat (first | refine blk_drewN ?_ _ | refine blk_drew ?_ | refine blk_alloc ?_ _)); refine blk_far ?_ NB295_313.out _; (with_reducible repeat (first | refine blk_drewN ?_ _ | refine blk_drew ?_ | refine blk_alloc ?_ _)); refine blk_far ?_ NB295_313.out _; (with_reducible repeat (first | refine blk_drewN ?_ _ | refine blk_drew ?_ | refine blk_alloc ?_ _)); exact BK295.out⟩, ⟨by (with_reducible repeat (first | refine blk_drewN ?_ _ | refine blk_drew ?_ | refine blk_alloc ?_ _)); refine blk_far ?_ NB309_313.out _; (with_reducible repeat (first | refine blk_drewN ?_ _ | refine blk_drew ?_ | refine blk_alloc ?_ _)); refine blk_far ?_ NB309_313.out _; (with_reducible repeat (first | refine blk_drewN ?_ _ | refine blk_drew ?_ | refine blk_alloc ?_ _)); exact BK309.out⟩, ⟨by (with_reducible repeat (first | refine blk_drewN ?_ _ | refine blk_drew ?_ | refine blk_alloc ?_ _)); refine blk_put (cs := #[.int .i64 t310, .int .i64 0]) ?_ 1 _ rfl; (with_reducible repeat (first | refine blk_drewN ?_ _ | refine blk_drew ?_ | refine blk_alloc ?_ _)); refine blk_put (cs := #[.int .i64 0, .int .i64 0]) ?_ 0 _ rfl; (with_reducible repeat (first | refine blk_drewN ?_ _ | refine blk_drew ?_ | refine blk_alloc ?_ _)); exact BK313.out⟩, ⟨by repeat (first | (with_reducible first | exact HB.out | apply below_alloc | apply pw_below_drewN | apply below_drew1 | refine below_set ?_ (IsS62.ge HI277.out) | refine below_set ?_ GE294.out | refine below_set ?_ GE295.out | refine below_set ?_ GE309.out | refine below_set ?_ GE313.out) | exact HB.out)⟩⟩
  case rest =>
    clear HC12
    try clear c1
    try clear c2
    try clear p2
    try clear c3
    try clear c4
    try clear c5
    try clear p6
    try clear c8
    try clear c9
    try clear c10
    try clear c11
    try clear c15
    try clear c18
    try clear c19
    try clear c23
    try clear c35
    try clear c36
    try clear c37
    try clear c42
    try clear c43
    try clear c44
    try clear c45
    try clear c47
    try clear c47b0
    try clear c47b1
    try clear c48
    try clear c48b0
    try clear c48b1
    try clear c49
    try clear c49b0
    try clear c49b1
    try clear c49b2
    try clear c50
    try clear c51
    try clear c52
    try clear c53
    try clear c55
    try clear c56
    try clear c57
    try clear hcz20_0
    try clear hcz20_1
    try clear hcz20_2
    try clear hcz24_0
    try clear hcz24_1
    try clear hcz24_2
    try clear hcz32_0
    try clear hcz32_1
    try clear hcz32_2
    try clear hcz38_0
    try clear hcz38_1
    try clear hcz39_0
    try clear hcz39_1
    try clear hcz39_2
    try clear hcz46_0
    try clear hcz46_1
    try clear hcz54_0
    try clear hcz54_1
    try clear hcz58_0
    try clear hcz58_1
    try clear hfz20_0
    try clear hfz20_1
    try clear hfz20_2
    try clear hfz24_0
    try clear hfz24_1
    try clear hfz24_2
    try clear hfz32_0
    try clear hfz32_1
    try clear hfz32_2
    try clear hfz38_0
    try clear hfz38_1
    try clear hfz39_0
    try clear hfz39_1
    try clear hfz39_2
    try clear hfz46_0
    try clear hfz46_1
    try clear hfz54_0
    try clear hfz54_1
    try clear hfz58_0
    try clear hfz58_1
    obtain ⟨kq, x68_11, rfl, HA, HJ11, HO_295001, HO_295002, HO_296001, HO_296002, BK294, BK295, BK309, BK313, HB⟩ := hcut
    cases kq with
    | zero => exact absurd HA.out (by simp [trustquorumlaw21_LeadersShare.j0])
    | succ kj11 =>
      have H := HA.out
      clear HA
      simp only [trustquorumlaw21_LeadersShare.j0] at H
      by_cases c59 : x68_11 = true
      · subst c59
        have H1 : ((trustquorumlaw21_awake.f kj11).bind fun t314 => (some t314)) = some r := by rw [if_pos rfl] at H; exact H
        clear H
        have H := H1
        clear H1
        replace H := Option.bind_eq_some_iff.mp H
        obtain ⟨t314, A600, H⟩ := H
        replace H : (some t314) = some r := H
        have A60 := Aside0.mk A600
        clear A600
        obtain rfl := Option.some.inj H
        go_wp2_with (first | ((with_reducible refine gate_callee (f := 14) rfl ?_); refine goesL_ (some 69) rfl rfl Try.func14 (by kernel_rfl) rfl #[] rfl (by (try simp only [List.map_toArray, List.map_cons, List.map_nil]); first | done | rfl | (simp only [List.length_drop, List.length_take]; rfl)) ?_; (with_reducible refine (trustquorumlaw21_awake.calls kj11  t314 _ A60.out).mono ?_); rintro e w61 ⟨rfl, hb⟩; refine ⟨_, rfl, ?_⟩; have n0_ := Aside0.mk (Kd.R_below (by (with_reducible repeat (first | apply Kd.R_alloc | apply Kd.R_drewN | apply Kd.R_drew)); exact HO_295001.out) hb); have n1_ := Aside0.mk (Kd.R_below (by (with_reducible repeat (first | apply Kd.R_alloc | apply Kd.R_drewN | apply Kd.R_drew)); exact HO_295002.out) hb); have n2_ := Aside0.mk (Kd.R_below (by (with_reducible repeat (first | apply Kd.R_alloc | apply Kd.R_drewN | apply Kd.R_drew)); exact HO_296001.out) hb); have n3_ := Aside0.mk (Kd.R_below (by (with_reducible repeat (first | apply Kd.R_alloc | apply Kd.R_drewN | apply Kd.R_drew)); exact HO_296002.out) hb); have n4_ := Aside0.mk (blk_below (g := gb294) (o := .cells #[.int .i64 t278, .slice Ao21 t279.length co21, .slice Ao22 t282.length co22] 27 (0, 0)) (by (with_reducible repeat (first | refine blk_drewN ?_ _ | refine blk_drew ?_ | refine blk_alloc ?_ _)); exact BK294.out) hb); have n5_ := Aside0.mk (blk_below (g := gb295) (o := .cells #[.int .i64 t286, .slice Ao25 t287.length co25, .slice Ao26 t290.length co26] 27 (0, 0)) (by (with_reducible repeat (first | refine blk_drewN ?_ _ | refine blk_drew ?_ | refine blk_alloc ?_ _)); exact BK295.out) hb); have n6_ := Aside0.mk (blk_below (g := gb309) (o := .cells #[.int .i64 t306, .int .i64 t307] 31 (0, 0)) (by (with_reducible repeat (first | refine blk_drewN ?_ _ | refine blk_drew ?_ | refine blk_alloc ?_ _)); exact BK309.out) hb); have n7_ := Aside0.mk (blk_below (g := gb313) (o := .cells #[.int .i64 t310, .int .i64 t311] 31 (0, 0)) (by (with_reducible repeat (first | refine blk_drewN ?_ _ | refine blk_drew ?_ | refine blk_alloc ?_ _)); exact BK313.out) hb); have n8_ := Aside0.mk (below_step (by repeat (first | (with_reducible first | exact HB.out | apply below_alloc | apply pw_below_drewN | apply below_drew1 | refine below_set ?_ GE294.out | refine below_set ?_ GE295.out | refine below_set ?_ GE309.out | refine below_set ?_ GE313.out) | exact HB.out)) hb); clear HO_295001; clear HO_295002; clear HO_296001; clear HO_296002; clear BK294; clear BK295; clear BK309; clear BK313; clear HB; have HO_295001 := n0_; have HO_295002 := n1_; have HO_296001 := n2_; have HO_296002 := n3_; have BK294 := n4_; have BK295 := n5_; have BK309 := n6_; have BK313 := n7_; have HB := n8_; clear n0_ n1_ n2_ n3_ n4_ n5_ n6_ n7_ n8_; (try clear hb); (try clear hb2); (try clear hk); (try clear hi)))
        go_ret
        exact ⟨by first | rfl | (simp [errW_none, errW_some] <;> rfl) | (simp [*, errW_none, errW_some] <;> rfl), by repeat (first | (with_reducible first | exact HB.out | apply below_alloc | apply pw_below_drewN | apply below_drew1 | refine below_set ?_ GE294.out | refine below_set ?_ GE295.out | refine below_set ?_ GE309.out | refine below_set ?_ GE313.out) | exact HB.out)⟩
      · replace c59 := Bool.eq_false_iff.mpr c59
        subst c59
        have H1 : ((leaders_Neighbour.f kj11 t278 t279 t282 t296 t302 t304 t300).bind fun t315 => ((leaders_Neighbour.f kj11 t286 t287 t290 t298 t302 t304 t300).bind fun t316 => (if (t315 == t316) = true then ((trustquorumlaw21_awake.f kj11).bind fun t317 => (some t317)) else (some false)))) = some r := by rw [if_neg (show ¬ (false = true) by decide)] at H; exact H
        clear H
        have H := H1
        clear H1
        replace H := Option.bind_eq_some_iff.mp H
        obtain ⟨t315, A620, H⟩ := H
        replace H : ((leaders_Neighbour.f kj11 t286 t287 t290 t298 t302 t304 t300).bind fun t316 => (if (t315 == t316) = true then ((trustquorumlaw21_awake.f kj11).bind fun t317 => (some t317)) else (some false))) = some r := H
        have A62 := Aside0.mk A620
        clear A620
        replace H := Option.bind_eq_some_iff.mp H
        obtain ⟨t316, A630, H⟩ := H
        replace H : (if (t315 == t316) = true then ((trustquorumlaw21_awake.f kj11).bind fun t317 => (some t317)) else (some false)) = some r := H
        have A63 := Aside0.mk A630
        clear A630
        by_cases c64 : (t315 == t316) = true
        · rw [if_pos c64] at H
          have c64b0 : (t315 == t316) = true := c64
          (try (have c64b1 : decide (t315 = t316) = true := by simpa using c64))
          (try (have c64b2 : (t315 == t316) = true := by simpa using c64))
          clear c64
          replace H := Option.bind_eq_some_iff.mp H
          obtain ⟨t317, A650, H⟩ := H
          replace H : (some t317) = some r := H
          have A65 := Aside0.mk A650
          clear A650
          obtain rfl := Option.some.inj H
          try go_wp2
          have n0_ := Aside0.mk (Kd.R_drew HO_295001.out)
          have n1_ := Aside0.mk (Kd.R_drew HO_295002.out)
          have n2_ := Aside0.mk (Kd.R_drew HO_296001.out)
          have n3_ := Aside0.mk (Kd.R_drew HO_296002.out)
          have n4_ := Aside0.mk (blk_drew BK294.out)
          have n5_ := Aside0.mk (blk_drew BK295.out)
          have n6_ := Aside0.mk (blk_drew BK309.out)
          have n7_ := Aside0.mk (blk_drew BK313.out)
          have n8_ := Aside0.mk (below_drew1 HB.out)
          clear HO_295001
          clear HO_295002
          clear HO_296001
          clear HO_296002
          clear BK294
          clear BK295
          clear BK309
          clear BK313
          clear HB
          have HO_295001 := n0_
          have HO_295002 := n1_
          have HO_296001 := n2_
          have HO_296002 := n3_
          have BK294 := n4_
          have BK295 := n5_
          have BK309 := n6_
          have BK313 := n7_
          have HB := n8_
          clear n0_ n1_ n2_ n3_ n4_ n5_ n6_ n7_ n8_
          refine start_ (n := 17) (S := fun w' => w'.cell? ⟨gb294, 0, none⟩ = some (.int .i64 t278) ∧ w'.cell? ⟨gb294, 1, none⟩ = some (.slice Ao21 t279.length co21) ∧ w'.cell? ⟨gb294, 2, none⟩ = some (.slice Ao22 t282.length co22) ∧ w'.cell? ⟨gb295, 0, none⟩ = some (.int .i64 t286) ∧ w'.cell? ⟨gb295, 1, none⟩ = some (.slice Ao25 t287.length co25) ∧ w'.cell? ⟨gb295, 2, none⟩ = some (.slice Ao26 t290.length co26)) (ds := []) #[false, false, false, false, false, false, false, false, false, false, false, false, false, false, false, false, false] (by kernel_rfl) rfl rfl ⟨(blk_cell BK294.out 0).trans rfl, (blk_cell BK294.out 1).trans rfl, (blk_cell BK294.out 2).trans rfl, (blk_cell BK295.out 0).trans rfl, (blk_cell BK295.out 1).trans rfl, (blk_cell BK295.out 2).trans rfl⟩ (fun hHeld => ?_); refine with_tabW trustquorumlaw21_LeadersShare.tab8 trustquorumlaw21_LeadersShare.bits8 (fun HT_ HW_ => ?_)
          generalize wc.drew = w66 at HO_295001 HO_295002 HO_296001 HO_296002 BK294 BK295 BK309 BK313 HB hHeld ⊢
          refine pure_ (i := 1) (N := some 71) (v := ?_) (a' := ?_) #[false, true, false, false, false, false, false, false, false, false, false, false, false, false, false, false, false] rfl rfl (any_of HT_.out (by kernel_rfl)) (fun _ _ _ h => h) (Or.inl ⟨by rfl, ?_⟩) ?_ ?_
          rotate_left
          · intro w'
            go_simp
            with_reducible rfl
          rotate_left
          · simp only [Act.put, List.setIfInBounds_toArray, List.set_cons_zero, List.set_cons_succ, i64_w, i32_w]
            rfl
          refine pure_ (i := 2) (N := some 72) (v := ?_) (a' := ?_) #[false, true, true, false, false, false, false, false, false, false, false, false, false, false, false, false, false] rfl rfl (any_of HT_.out (by kernel_rfl)) (fun _ _ _ h => h) (Or.inl ⟨by rfl, ?_⟩) ?_ ?_
          rotate_left
          · intro w'
            go_simp
            with_reducible rfl
          rotate_left
          · simp only [Act.put, List.setIfInBounds_toArray, List.set_cons_zero, List.set_cons_succ, i64_w, i32_w]
            rfl
          refine pure_ (i := 3) (N := some 73) (v := ?_) (a' := ?_) #[false, true, true, true, false, false, false, false, false, false, false, false, false, false, false, false, false] rfl rfl (any_of HT_.out (by kernel_rfl)) (fun _ _ _ h => h) (Or.inl ⟨by rfl, ?_⟩) ?_ ?_
          rotate_left
          · intro w'
            go_simp
            with_reducible rfl
          rotate_left
          · simp only [Act.put, List.setIfInBounds_toArray, List.set_cons_zero, List.set_cons_succ, i64_w, i32_w]
            rfl
          refine pure_ (i := 4) (N := some 74) (v := ?_) (a' := ?_) #[false, true, true, true, true, false, false, false, false, false, false, false, false, false, false, false, false] rfl rfl (any_of HT_.out (by kernel_rfl)) (fun _ _ _ h => h) (Or.inl ⟨by rfl, ?_⟩) ?_ ?_
          rotate_left
          · intro w'
            go_simp
            with_reducible rfl
          rotate_left
          · simp only [Act.put, List.setIfInBounds_toArray, List.set_cons_zero, List.set_cons_succ, i64_w, i32_w]
            rfl
          refine pure_ (i := 7) (N := some 77) (v := ?_) (a' := ?_) #[false, true, true, true, true, false, false, true, false, false, false, false, false, false, false, false, false] rfl rfl (any_of HT_.out (by kernel_rfl)) (fun _ _ _ h => h) (Or.inl ⟨by rfl, ?_⟩) ?_ ?_
          rotate_left
          · intro w'
            go_simp
            with_reducible rfl
          rotate_left
          · simp only [Act.put, List.setIfInBounds_toArray, List.set_cons_zero, List.set_cons_succ, i64_w, i32_w]
            rfl
          refine pure_ (i := 8) (N := some 78) (v := ?_) (a' := ?_) #[false, true, true, true, true, false, false, true, true, false, false, false, false, false, false, false, false] rfl rfl (any_of HT_.out (by kernel_rfl)) (fun _ _ _ h => h) (Or.inl ⟨by rfl, ?_⟩) ?_ ?_
          rotate_left
          · intro w'
            go_simp
            with_reducible rfl
          rotate_left
          · simp only [Act.put, List.setIfInBounds_toArray, List.set_cons_zero, List.set_cons_succ, i64_w, i32_w]
            rfl
          refine pure_ (i := 9) (N := some 79) (v := ?_) (a' := ?_) #[false, true, true, true, true, false, false, true, true, true, false, false, false, false, false, false, false] rfl rfl (any_of HT_.out (by kernel_rfl)) (fun _ _ _ h => h) (Or.inl ⟨by rfl, ?_⟩) ?_ ?_
          rotate_left
          · intro w'
            go_simp
            with_reducible rfl
          rotate_left
          · simp only [Act.put, List.setIfInBounds_toArray, List.set_cons_zero, List.set_cons_succ, i64_w, i32_w]
            rfl
          refine pure_ (i := 10) (N := some 80) (v := ?_) (a' := ?_) #[false, true, true, true, true, false, false, true, true, true, true, false, false, false, false, false, false] rfl rfl (any_of HT_.out (by kernel_rfl)) (fun _ _ _ h => h) (Or.inl ⟨by rfl, ?_⟩) ?_ ?_
          rotate_left
          · intro w'
            go_simp
            with_reducible rfl
          rotate_left
          · simp only [Act.put, List.setIfInBounds_toArray, List.set_cons_zero, List.set_cons_succ, i64_w, i32_w]
            rfl
          refine take_ (i := 0) (N := some 70) (v := ?_) (a' := ?_) #[true, true, true, true, true, false, false, true, true, true, true, false, false, false, false, false, false] rfl rfl (take_ofW HT_.out HW_.out (by kernel_rfl)) (fun _ _ _ h => h) (Or.inl ⟨by rfl, ?_⟩) hHeld ?_ ?_
          rotate_left
          · rintro w' ⟨s0, s1, s2, s3, s4, s5⟩
            go_simp
            with_reducible rfl
          rotate_left
          · simp only [Act.put, List.setIfInBounds_toArray, List.set_cons_zero, List.set_cons_succ, i64_w, i32_w]
            rfl
          refine take_ (i := 6) (N := some 76) (v := ?_) (a' := ?_) #[true, true, true, true, true, false, true, true, true, true, true, false, false, false, false, false, false] rfl rfl (take_ofW HT_.out HW_.out (by kernel_rfl)) (fun _ _ _ h => h) (Or.inl ⟨by rfl, ?_⟩) hHeld ?_ ?_
          rotate_left
          · rintro w' ⟨s0, s1, s2, s3, s4, s5⟩
            go_simp
            with_reducible rfl
          rotate_left
          · simp only [Act.put, List.setIfInBounds_toArray, List.set_cons_zero, List.set_cons_succ, i64_w, i32_w]
            rfl
          refine one_ (i := 5) (N := some 75) #[true, true, true, true, true, true, true, true, true, true, true, false, false, false, false, false, false] rfl rfl (one_of HT_.out (by kernel_rfl)) (by decide) (fun K hK => ?_)
          refine goes_ Try.func16 (by kernel_rfl) rfl #[.agg #[.int .i64 t278, .slice Ao21 t279.length co21, .slice Ao22 t282.length co22], .int .i64 t296, .int .i64 t302, .int .i64 t304, .int .i64 t300] (by rfl) rfl rfl (by (try simp only [List.map_toArray, List.map_cons, List.map_nil]); first | done | rfl | (simp only [List.length_drop, List.length_take]; rfl)) ?_
          with_reducible refine (leaders_Neighbour.calls kj11 t278 _ _ t279 _ _ t282 t296 t302 t304 t300 t315 _ ?side1 ?side2 ?side3 ?side4 A62.out).mono ?_
          (case side1 => repeat (first | exact (Kd.R_reads' HO_295001.out).2.2 | (with_reducible refine Kd.C_alloc ?_ _) | (with_reducible refine Kd.C_drewN ?_ _) | (with_reducible refine Kd.C_drew ?_)))
          (case side2 => exact (Kd.R_reads' HO_295001.out).2.1)
          (case side3 => repeat (first | exact (Kd.R_reads' HO_295002.out).2.2 | (with_reducible refine Kd.C_alloc ?_ _) | (with_reducible refine Kd.C_drewN ?_ _) | (with_reducible refine Kd.C_drew ?_)))
          (case side4 => exact (Kd.R_reads' HO_295002.out).2.1)
          rintro e w67 ⟨rfl, hb⟩
          refine ⟨_, rfl, ?_⟩
          have n0_ := Aside0.mk (Kd.R_below (by (with_reducible repeat (first | apply Kd.R_alloc | apply Kd.R_drewN | apply Kd.R_drew)); exact HO_295001.out) hb)
          have n1_ := Aside0.mk (Kd.R_below (by (with_reducible repeat (first | apply Kd.R_alloc | apply Kd.R_drewN | apply Kd.R_drew)); exact HO_295002.out) hb)
          have n2_ := Aside0.mk (Kd.R_below (by (with_reducible repeat (first | apply Kd.R_alloc | apply Kd.R_drewN | apply Kd.R_drew)); exact HO_296001.out) hb)
          have n3_ := Aside0.mk (Kd.R_below (by (with_reducible repeat (first | apply Kd.R_alloc | apply Kd.R_drewN | apply Kd.R_drew)); exact HO_296002.out) hb)
          have n4_ := Aside0.mk (blk_below (g := gb294) (o := .cells #[.int .i64 t278, .slice Ao21 t279.length co21, .slice Ao22 t282.length co22] 27 (0, 0)) (by (with_reducible repeat (first | refine blk_drewN ?_ _ | refine blk_drew ?_ | refine blk_alloc ?_ _)); exact BK294.out) hb)
          have n5_ := Aside0.mk (blk_below (g := gb295) (o := .cells #[.int .i64 t286, .slice Ao25 t287.length co25, .slice Ao26 t290.length co26] 27 (0, 0)) (by (with_reducible repeat (first | refine blk_drewN ?_ _ | refine blk_drew ?_ | refine blk_alloc ?_ _)); exact BK295.out) hb)
          have n6_ := Aside0.mk (blk_below (g := gb309) (o := .cells #[.int .i64 t306, .int .i64 t307] 31 (0, 0)) (by (with_reducible repeat (first | refine blk_drewN ?_ _ | refine blk_drew ?_ | refine blk_alloc ?_ _)); exact BK309.out) hb)
          have n7_ := Aside0.mk (blk_below (g := gb313) (o := .cells #[.int .i64 t310, .int .i64 t311] 31 (0, 0)) (by (with_reducible repeat (first | refine blk_drewN ?_ _ | refine blk_drew ?_ | refine blk_alloc ?_ _)); exact BK313.out) hb)
          have n8_ := Aside0.mk (below_step (by repeat (first | (with_reducible first | exact HB.out | apply below_alloc | apply pw_below_drewN | apply below_drew1 | refine below_set ?_ GE294.out | refine below_set ?_ GE295.out | refine below_set ?_ GE309.out | refine below_set ?_ GE313.out) | exact HB.out)) hb)
          clear HO_295001
          clear HO_295002
          clear HO_296001
          clear HO_296002
          clear BK294
          clear BK295
          clear BK309
          clear BK313
          clear HB
          have HO_295001 := n0_
          have HO_295002 := n1_
          have HO_296001 := n2_
          have HO_296002 := n3_
          have BK294 := n4_
          have BK295 := n5_
          have BK309 := n6_
          have BK313 := n7_
          have HB := n8_
          clear n0_ n1_ n2_ n3_ n4_ n5_ n6_ n7_ n8_
          (try clear hb)
          (try clear hb2)
          (try clear hk)
          (try clear hi)
          refine hK.out _ _ ⟨(blk_cell BK294.out 0).trans rfl, (blk_cell BK294.out 1).trans rfl, (blk_cell BK294.out 2).trans rfl, (blk_cell BK295.out 0).trans rfl, (blk_cell BK295.out 1).trans rfl, (blk_cell BK295.out 2).trans rfl⟩ (fun hHeld => ?_)
          clear hK K
          refine norm_ (a' := ?_) ?_ ?_
          rotate_left
          · show Act.put _ (some 75) _ = _
            simp only [Act.put, List.setIfInBounds_toArray, List.set_cons_zero, List.set_cons_succ, i64_w, i32_w]
            rfl
          refine one_ (i := 11) (N := some 81) #[true, true, true, true, true, true, true, true, true, true, true, true, false, false, false, false, false] rfl rfl (one_of HT_.out (by kernel_rfl)) (by decide) (fun K hK => ?_)
          refine goes_ Try.func16 (by kernel_rfl) rfl #[.agg #[.int .i64 t286, .slice Ao25 t287.length co25, .slice Ao26 t290.length co26], .int .i64 t298, .int .i64 t302, .int .i64 t304, .int .i64 t300] (by rfl) rfl rfl (by (try simp only [List.map_toArray, List.map_cons, List.map_nil]); first | done | rfl | (simp only [List.length_drop, List.length_take]; rfl)) ?_
          with_reducible refine (leaders_Neighbour.calls kj11 t286 _ _ t287 _ _ t290 t298 t302 t304 t300 t316 _ ?side1 ?side2 ?side3 ?side4 A63.out).mono ?_
          (case side1 => repeat (first | exact (Kd.R_reads' HO_296001.out).2.2 | (with_reducible refine Kd.C_alloc ?_ _) | (with_reducible refine Kd.C_drewN ?_ _) | (with_reducible refine Kd.C_drew ?_)))
          (case side2 => exact (Kd.R_reads' HO_296001.out).2.1)
          (case side3 => repeat (first | exact (Kd.R_reads' HO_296002.out).2.2 | (with_reducible refine Kd.C_alloc ?_ _) | (with_reducible refine Kd.C_drewN ?_ _) | (with_reducible refine Kd.C_drew ?_)))
          (case side4 => exact (Kd.R_reads' HO_296002.out).2.1)
          rintro e w68 ⟨rfl, hb⟩
          refine ⟨_, rfl, ?_⟩
          have n0_ := Aside0.mk (Kd.R_below (by (with_reducible repeat (first | apply Kd.R_alloc | apply Kd.R_drewN | apply Kd.R_drew)); exact HO_295001.out) hb)
          have n1_ := Aside0.mk (Kd.R_below (by (with_reducible repeat (first | apply Kd.R_alloc | apply Kd.R_drewN | apply Kd.R_drew)); exact HO_295002.out) hb)
          have n2_ := Aside0.mk (Kd.R_below (by (with_reducible repeat (first | apply Kd.R_alloc | apply Kd.R_drewN | apply Kd.R_drew)); exact HO_296001.out) hb)
          have n3_ := Aside0.mk (Kd.R_below (by (with_reducible repeat (first | apply Kd.R_alloc | apply Kd.R_drewN | apply Kd.R_drew)); exact HO_296002.out) hb)
          have n4_ := Aside0.mk (blk_below (g := gb294) (o := .cells #[.int .i64 t278, .slice Ao21 t279.length co21, .slice Ao22 t282.length co22] 27 (0, 0)) (by (with_reducible repeat (first | refine blk_drewN ?_ _ | refine blk_drew ?_ | refine blk_alloc ?_ _)); exact BK294.out) hb)
          have n5_ := Aside0.mk (blk_below (g := gb295) (o := .cells #[.int .i64 t286, .slice Ao25 t287.length co25, .slice Ao26 t290.length co26] 27 (0, 0)) (by (with_reducible repeat (first | refine blk_drewN ?_ _ | refine blk_drew ?_ | refine blk_alloc ?_ _)); exact BK295.out) hb)
          have n6_ := Aside0.mk (blk_below (g := gb309) (o := .cells #[.int .i64 t306, .int .i64 t307] 31 (0, 0)) (by (with_reducible repeat (first | refine blk_drewN ?_ _ | refine blk_drew ?_ | refine blk_alloc ?_ _)); exact BK309.out) hb)
          have n7_ := Aside0.mk (blk_below (g := gb313) (o := .cells #[.int .i64 t310, .int .i64 t311] 31 (0, 0)) (by (with_reducible repeat (first | refine blk_drewN ?_ _ | refine blk_drew ?_ | refine blk_alloc ?_ _)); exact BK313.out) hb)
          have n8_ := Aside0.mk (below_step (by repeat (first | (with_reducible first | exact HB.out | apply below_alloc | apply pw_below_drewN | apply below_drew1 | refine below_set ?_ GE294.out | refine below_set ?_ GE295.out | refine below_set ?_ GE309.out | refine below_set ?_ GE313.out) | exact HB.out)) hb)
          clear HO_295001
          clear HO_295002
          clear HO_296001
          clear HO_296002
          clear BK294
          clear BK295
          clear BK309
          clear BK313
          clear HB
          have HO_295001 := n0_
          have HO_295002 := n1_
          have HO_296001 := n2_
          have HO_296002 := n3_
          have BK294 := n4_
          have BK295 := n5_
          have BK309 := n6_
          have BK313 := n7_
          have HB := n8_
          clear n0_ n1_ n2_ n3_ n4_ n5_ n6_ n7_ n8_
          (try clear hb)
          (try clear hb2)
          (try clear hk)
          (try clear hi)
          refine hK.out _ _ ⟨(blk_cell BK294.out 0).trans rfl, (blk_cell BK294.out 1).trans rfl, (blk_cell BK294.out 2).trans rfl, (blk_cell BK295.out 0).trans rfl, (blk_cell BK295.out 1).trans rfl, (blk_cell BK295.out 2).trans rfl⟩ (fun hHeld => ?_)
          clear hK K
          refine norm_ (a' := ?_) ?_ ?_
          rotate_left
          · show Act.put _ (some 81) _ = _
            simp only [Act.put, List.setIfInBounds_toArray, List.set_cons_zero, List.set_cons_succ, i64_w, i32_w]
            rfl
          refine pure_ (i := 12) (N := some 82) (v := ?_) (a' := ?_) #[true, true, true, true, true, true, true, true, true, true, true, true, true, false, false, false, false] rfl rfl (any_of HT_.out (by kernel_rfl)) (fun _ _ _ h => h) (Or.inl ⟨by rfl, ?_⟩) ?_ ?_
          rotate_left
          · intro w'
            go_simp
            with_reducible rfl
          rotate_left
          · simp only [Act.put, List.setIfInBounds_toArray, List.set_cons_zero, List.set_cons_succ, i64_w, i32_w]
            rfl
          refine pure_ (i := 13) (N := some 83) (v := ?_) (a' := ?_) #[true, true, true, true, true, true, true, true, true, true, true, true, true, true, false, false, false] rfl rfl (any_of HT_.out (by kernel_rfl)) (fun _ _ _ h => h) (Or.inl ⟨by rfl, ?_⟩) ?_ ?_
          rotate_left
          · intro w'
            go_simp
            with_reducible rfl
          rotate_left
          · simp only [Act.put, List.setIfInBounds_toArray, List.set_cons_zero, List.set_cons_succ, i64_w, i32_w]
            rfl
          refine one_ (i := 14) (N := some 84) #[true, true, true, true, true, true, true, true, true, true, true, true, true, true, true, false, false] rfl rfl (one_of HT_.out (by kernel_rfl)) (by decide) (fun K hK => ?_)
          refine goes_ Try.func14 (by kernel_rfl) rfl #[] (by rfl) rfl rfl (by (try simp only [List.map_toArray, List.map_cons, List.map_nil]); first | done | rfl | (simp only [List.length_drop, List.length_take]; rfl)) ?_
          with_reducible refine (trustquorumlaw21_awake.calls kj11  t317 _ A65.out).mono ?_
          rintro e w69 ⟨rfl, hb⟩
          refine ⟨_, rfl, ?_⟩
          have n0_ := Aside0.mk (Kd.R_below (by (with_reducible repeat (first | apply Kd.R_alloc | apply Kd.R_drewN | apply Kd.R_drew)); exact HO_295001.out) hb)
          have n1_ := Aside0.mk (Kd.R_below (by (with_reducible repeat (first | apply Kd.R_alloc | apply Kd.R_drewN | apply Kd.R_drew)); exact HO_295002.out) hb)
          have n2_ := Aside0.mk (Kd.R_below (by (with_reducible repeat (first | apply Kd.R_alloc | apply Kd.R_drewN | apply Kd.R_drew)); exact HO_296001.out) hb)
          have n3_ := Aside0.mk (Kd.R_below (by (with_reducible repeat (first | apply Kd.R_alloc | apply Kd.R_drewN | apply Kd.R_drew)); exact HO_296002.out) hb)
          have n4_ := Aside0.mk (blk_below (g := gb294) (o := .cells #[.int .i64 t278, .slice Ao21 t279.length co21, .slice Ao22 t282.length co22] 27 (0, 0)) (by (with_reducible repeat (first | refine blk_drewN ?_ _ | refine blk_drew ?_ | refine blk_alloc ?_ _)); exact BK294.out) hb)
          have n5_ := Aside0.mk (blk_below (g := gb295) (o := .cells #[.int .i64 t286, .slice Ao25 t287.length co25, .slice Ao26 t290.length co26] 27 (0, 0)) (by (with_reducible repeat (first | refine blk_drewN ?_ _ | refine blk_drew ?_ | refine blk_alloc ?_ _)); exact BK295.out) hb)
          have n6_ := Aside0.mk (blk_below (g := gb309) (o := .cells #[.int .i64 t306, .int .i64 t307] 31 (0, 0)) (by (with_reducible repeat (first | refine blk_drewN ?_ _ | refine blk_drew ?_ | refine blk_alloc ?_ _)); exact BK309.out) hb)
          have n7_ := Aside0.mk (blk_below (g := gb313) (o := .cells #[.int .i64 t310, .int .i64 t311] 31 (0, 0)) (by (with_reducible repeat (first | refine blk_drewN ?_ _ | refine blk_drew ?_ | refine blk_alloc ?_ _)); exact BK313.out) hb)
          have n8_ := Aside0.mk (below_step (by repeat (first | (with_reducible first | exact HB.out | apply below_alloc | apply pw_below_drewN | apply below_drew1 | refine below_set ?_ GE294.out | refine below_set ?_ GE295.out | refine below_set ?_ GE309.out | refine below_set ?_ GE313.out) | exact HB.out)) hb)
          clear HO_295001
          clear HO_295002
          clear HO_296001
          clear HO_296002
          clear BK294
          clear BK295
          clear BK309
          clear BK313
          clear HB
          have HO_295001 := n0_
          have HO_295002 := n1_
          have HO_296001 := n2_
          have HO_296002 := n3_
          have BK294 := n4_
          have BK295 := n5_
          have BK309 := n6_
          have BK313 := n7_
          have HB := n8_
          clear n0_ n1_ n2_ n3_ n4_ n5_ n6_ n7_ n8_
          (try clear hb)
          (try clear hb2)
          (try clear hk)
          (try clear hi)
          refine hK.out _ _ ⟨(blk_cell BK294.out 0).trans rfl, (blk_cell BK294.out 1).trans rfl, (blk_cell BK294.out 2).trans rfl, (blk_cell BK295.out 0).trans rfl, (blk_cell BK295.out 1).trans rfl, (blk_cell BK295.out 2).trans rfl⟩ (fun hHeld => ?_)
          clear hK K
          refine norm_ (a' := ?_) ?_ ?_
          rotate_left
          · show Act.put _ (some 84) _ = _
            simp only [Act.put, List.setIfInBounds_toArray, List.set_cons_zero, List.set_cons_succ, i64_w, i32_w]
            rfl
          refine pure_ (i := 15) (N := some 85) (v := ?_) (a' := ?_) #[true, true, true, true, true, true, true, true, true, true, true, true, true, true, true, true, false] rfl rfl (any_of HT_.out (by kernel_rfl)) (fun _ _ _ h => h) (Or.inl ⟨by rfl, ?_⟩) ?_ ?_
          rotate_left
          · intro w'
            go_simp
            with_reducible rfl
          rotate_left
          · simp only [Act.put, List.setIfInBounds_toArray, List.set_cons_zero, List.set_cons_succ, i64_w, i32_w]
            rfl
          refine pure_ (i := 16) (N := some 2) (v := ?_) (a' := ?_) #[true, true, true, true, true, true, true, true, true, true, true, true, true, true, true, true, true] rfl rfl (any_of HT_.out (by kernel_rfl)) (fun _ _ _ h => h) (Or.inl ⟨by rfl, ?_⟩) ?_ ?_
          rotate_left
          · intro w'
            go_simp
            with_reducible rfl
          rotate_left
          · simp only [Act.put, List.setIfInBounds_toArray, List.set_cons_zero, List.set_cons_succ, i64_w, i32_w]
            rfl
          refine done_ (done_of HT_.out (by kernel_rfl)) ?_
          try go_wp2
          go_ret
          exact ⟨by first | rfl | (simp [errW_none, errW_some] <;> rfl) | (simp [*, errW_none, errW_some] <;> rfl), by repeat (first | (with_reducible first | exact HB.out | apply below_alloc | apply pw_below_drewN | apply below_drew1 | refine below_set ?_ GE294.out | refine below_set ?_ GE295.out | refine below_set ?_ GE309.out | refine below_set ?_ GE313.out) | exact HB.out)⟩
        · rw [if_neg c64] at H
          have c64b0 : (t315 == t316) = false := by simpa using c64
          (try (have c64b1 : decide (t315 = t316) = false := by simpa using c64))
          (try (have c64b2 : (t315 == t316) = false := by simpa using c64))
          (try (have c64b3 : ¬ (t315 = t316) := by simpa using c64))
          clear c64
          obtain rfl := Option.some.inj H
          try go_wp2
          have n0_ := Aside0.mk (Kd.R_drew HO_295001.out)
          have n1_ := Aside0.mk (Kd.R_drew HO_295002.out)
          have n2_ := Aside0.mk (Kd.R_drew HO_296001.out)
          have n3_ := Aside0.mk (Kd.R_drew HO_296002.out)
          have n4_ := Aside0.mk (blk_drew BK294.out)
          have n5_ := Aside0.mk (blk_drew BK295.out)
          have n6_ := Aside0.mk (blk_drew BK309.out)
          have n7_ := Aside0.mk (blk_drew BK313.out)
          have n8_ := Aside0.mk (below_drew1 HB.out)
          clear HO_295001
          clear HO_295002
          clear HO_296001
          clear HO_296002
          clear BK294
          clear BK295
          clear BK309
          clear BK313
          clear HB
          have HO_295001 := n0_
          have HO_295002 := n1_
          have HO_296001 := n2_
          have HO_296002 := n3_
          have BK294 := n4_
          have BK295 := n5_
          have BK309 := n6_
          have BK313 := n7_
          have HB := n8_
          clear n0_ n1_ n2_ n3_ n4_ n5_ n6_ n7_ n8_
          refine start_ (n := 17) (S := fun w' => w'.cell? ⟨gb294, 0, none⟩ = some (.int .i64 t278) ∧ w'.cell? ⟨gb294, 1, none⟩ = some (.slice Ao21 t279.length co21) ∧ w'.cell? ⟨gb294, 2, none⟩ = some (.slice Ao22 t282.length co22) ∧ w'.cell? ⟨gb295, 0, none⟩ = some (.int .i64 t286) ∧ w'.cell? ⟨gb295, 1, none⟩ = some (.slice Ao25 t287.length co25) ∧ w'.cell? ⟨gb295, 2, none⟩ = some (.slice Ao26 t290.length co26)) (ds := []) #[false, false, false, false, false, false, false, false, false, false, false, false, false, false, false, false, false] (by kernel_rfl) rfl rfl ⟨(blk_cell BK294.out 0).trans rfl, (blk_cell BK294.out 1).trans rfl, (blk_cell BK294.out 2).trans rfl, (blk_cell BK295.out 0).trans rfl, (blk_cell BK295.out 1).trans rfl, (blk_cell BK295.out 2).trans rfl⟩ (fun hHeld => ?_); refine with_tabW trustquorumlaw21_LeadersShare.tab8 trustquorumlaw21_LeadersShare.bits8 (fun HT_ HW_ => ?_)
          generalize wc.drew = w70 at HO_295001 HO_295002 HO_296001 HO_296002 BK294 BK295 BK309 BK313 HB hHeld ⊢
          refine pure_ (i := 1) (N := some 71) (v := ?_) (a' := ?_) #[false, true, false, false, false, false, false, false, false, false, false, false, false, false, false, false, false] rfl rfl (any_of HT_.out (by kernel_rfl)) (fun _ _ _ h => h) (Or.inl ⟨by rfl, ?_⟩) ?_ ?_
          rotate_left
          · intro w'
            go_simp
            with_reducible rfl
          rotate_left
          · simp only [Act.put, List.setIfInBounds_toArray, List.set_cons_zero, List.set_cons_succ, i64_w, i32_w]
            rfl
          refine pure_ (i := 2) (N := some 72) (v := ?_) (a' := ?_) #[false, true, true, false, false, false, false, false, false, false, false, false, false, false, false, false, false] rfl rfl (any_of HT_.out (by kernel_rfl)) (fun _ _ _ h => h) (Or.inl ⟨by rfl, ?_⟩) ?_ ?_
          rotate_left
          · intro w'
            go_simp
            with_reducible rfl
          rotate_left
          · simp only [Act.put, List.setIfInBounds_toArray, List.set_cons_zero, List.set_cons_succ, i64_w, i32_w]
            rfl
          refine pure_ (i := 3) (N := some 73) (v := ?_) (a' := ?_) #[false, true, true, true, false, false, false, false, false, false, false, false, false, false, false, false, false] rfl rfl (any_of HT_.out (by kernel_rfl)) (fun _ _ _ h => h) (Or.inl ⟨by rfl, ?_⟩) ?_ ?_
          rotate_left
          · intro w'
            go_simp
            with_reducible rfl
          rotate_left
          · simp only [Act.put, List.setIfInBounds_toArray, List.set_cons_zero, List.set_cons_succ, i64_w, i32_w]
            rfl
          refine pure_ (i := 4) (N := some 74) (v := ?_) (a' := ?_) #[false, true, true, true, true, false, false, false, false, false, false, false, false, false, false, false, false] rfl rfl (any_of HT_.out (by kernel_rfl)) (fun _ _ _ h => h) (Or.inl ⟨by rfl, ?_⟩) ?_ ?_
          rotate_left
          · intro w'
            go_simp
            with_reducible rfl
          rotate_left
          · simp only [Act.put, List.setIfInBounds_toArray, List.set_cons_zero, List.set_cons_succ, i64_w, i32_w]
            rfl
          refine pure_ (i := 7) (N := some 77) (v := ?_) (a' := ?_) #[false, true, true, true, true, false, false, true, false, false, false, false, false, false, false, false, false] rfl rfl (any_of HT_.out (by kernel_rfl)) (fun _ _ _ h => h) (Or.inl ⟨by rfl, ?_⟩) ?_ ?_
          rotate_left
          · intro w'
            go_simp
            with_reducible rfl
          rotate_left
          · simp only [Act.put, List.setIfInBounds_toArray, List.set_cons_zero, List.set_cons_succ, i64_w, i32_w]
            rfl
          refine pure_ (i := 8) (N := some 78) (v := ?_) (a' := ?_) #[false, true, true, true, true, false, false, true, true, false, false, false, false, false, false, false, false] rfl rfl (any_of HT_.out (by kernel_rfl)) (fun _ _ _ h => h) (Or.inl ⟨by rfl, ?_⟩) ?_ ?_
          rotate_left
          · intro w'
            go_simp
            with_reducible rfl
          rotate_left
          · simp only [Act.put, List.setIfInBounds_toArray, List.set_cons_zero, List.set_cons_succ, i64_w, i32_w]
            rfl
          refine pure_ (i := 9) (N := some 79) (v := ?_) (a' := ?_) #[false, true, true, true, true, false, false, true, true, true, false, false, false, false, false, false, false] rfl rfl (any_of HT_.out (by kernel_rfl)) (fun _ _ _ h => h) (Or.inl ⟨by rfl, ?_⟩) ?_ ?_
          rotate_left
          · intro w'
            go_simp
            with_reducible rfl
          rotate_left
          · simp only [Act.put, List.setIfInBounds_toArray, List.set_cons_zero, List.set_cons_succ, i64_w, i32_w]
            rfl
          refine pure_ (i := 10) (N := some 80) (v := ?_) (a' := ?_) #[false, true, true, true, true, false, false, true, true, true, true, false, false, false, false, false, false] rfl rfl (any_of HT_.out (by kernel_rfl)) (fun _ _ _ h => h) (Or.inl ⟨by rfl, ?_⟩) ?_ ?_
          rotate_left
          · intro w'
            go_simp
            with_reducible rfl
          rotate_left
          · simp only [Act.put, List.setIfInBounds_toArray, List.set_cons_zero, List.set_cons_succ, i64_w, i32_w]
            rfl
          refine take_ (i := 0) (N := some 70) (v := ?_) (a' := ?_) #[true, true, true, true, true, false, false, true, true, true, true, false, false, false, false, false, false] rfl rfl (take_ofW HT_.out HW_.out (by kernel_rfl)) (fun _ _ _ h => h) (Or.inl ⟨by rfl, ?_⟩) hHeld ?_ ?_
          rotate_left
          · rintro w' ⟨s0, s1, s2, s3, s4, s5⟩
            go_simp
            with_reducible rfl
          rotate_left
          · simp only [Act.put, List.setIfInBounds_toArray, List.set_cons_zero, List.set_cons_succ, i64_w, i32_w]
            rfl
          refine take_ (i := 6) (N := some 76) (v := ?_) (a' := ?_) #[true, true, true, true, true, false, true, true, true, true, true, false, false, false, false, false, false] rfl rfl (take_ofW HT_.out HW_.out (by kernel_rfl)) (fun _ _ _ h => h) (Or.inl ⟨by rfl, ?_⟩) hHeld ?_ ?_
          rotate_left
          · rintro w' ⟨s0, s1, s2, s3, s4, s5⟩
            go_simp
            with_reducible rfl
          rotate_left
          · simp only [Act.put, List.setIfInBounds_toArray, List.set_cons_zero, List.set_cons_succ, i64_w, i32_w]
            rfl
          refine one_ (i := 5) (N := some 75) #[true, true, true, true, true, true, true, true, true, true, true, false, false, false, false, false, false] rfl rfl (one_of HT_.out (by kernel_rfl)) (by decide) (fun K hK => ?_)
          refine goes_ Try.func16 (by kernel_rfl) rfl #[.agg #[.int .i64 t278, .slice Ao21 t279.length co21, .slice Ao22 t282.length co22], .int .i64 t296, .int .i64 t302, .int .i64 t304, .int .i64 t300] (by rfl) rfl rfl (by (try simp only [List.map_toArray, List.map_cons, List.map_nil]); first | done | rfl | (simp only [List.length_drop, List.length_take]; rfl)) ?_
          with_reducible refine (leaders_Neighbour.calls kj11 t278 _ _ t279 _ _ t282 t296 t302 t304 t300 t315 _ ?side1 ?side2 ?side3 ?side4 A62.out).mono ?_
          (case side1 => repeat (first | exact (Kd.R_reads' HO_295001.out).2.2 | (with_reducible refine Kd.C_alloc ?_ _) | (with_reducible refine Kd.C_drewN ?_ _) | (with_reducible refine Kd.C_drew ?_)))
          (case side2 => exact (Kd.R_reads' HO_295001.out).2.1)
          (case side3 => repeat (first | exact (Kd.R_reads' HO_295002.out).2.2 | (with_reducible refine Kd.C_alloc ?_ _) | (with_reducible refine Kd.C_drewN ?_ _) | (with_reducible refine Kd.C_drew ?_)))
          (case side4 => exact (Kd.R_reads' HO_295002.out).2.1)
          rintro e w71 ⟨rfl, hb⟩
          refine ⟨_, rfl, ?_⟩
          have n0_ := Aside0.mk (Kd.R_below (by (with_reducible repeat (first | apply Kd.R_alloc | apply Kd.R_drewN | apply Kd.R_drew)); exact HO_295001.out) hb)
          have n1_ := Aside0.mk (Kd.R_below (by (with_reducible repeat (first | apply Kd.R_alloc | apply Kd.R_drewN | apply Kd.R_drew)); exact HO_295002.out) hb)
          have n2_ := Aside0.mk (Kd.R_below (by (with_reducible repeat (first | apply Kd.R_alloc | apply Kd.R_drewN | apply Kd.R_drew)); exact HO_296001.out) hb)
          have n3_ := Aside0.mk (Kd.R_below (by (with_reducible repeat (first | apply Kd.R_alloc | apply Kd.R_drewN | apply Kd.R_drew)); exact HO_296002.out) hb)
          have n4_ := Aside0.mk (blk_below (g := gb294) (o := .cells #[.int .i64 t278, .slice Ao21 t279.length co21, .slice Ao22 t282.length co22] 27 (0, 0)) (by (with_reducible repeat (first | refine blk_drewN ?_ _ | refine blk_drew ?_ | refine blk_alloc ?_ _)); exact BK294.out) hb)
          have n5_ := Aside0.mk (blk_below (g := gb295) (o := .cells #[.int .i64 t286, .slice Ao25 t287.length co25, .slice Ao26 t290.length co26] 27 (0, 0)) (by (with_reducible repeat (first | refine blk_drewN ?_ _ | refine blk_drew ?_ | refine blk_alloc ?_ _)); exact BK295.out) hb)
          have n6_ := Aside0.mk (blk_below (g := gb309) (o := .cells #[.int .i64 t306, .int .i64 t307] 31 (0, 0)) (by (with_reducible repeat (first | refine blk_drewN ?_ _ | refine blk_drew ?_ | refine blk_alloc ?_ _)); exact BK309.out) hb)
          have n7_ := Aside0.mk (blk_below (g := gb313) (o := .cells #[.int .i64 t310, .int .i64 t311] 31 (0, 0)) (by (with_reducible repeat (first | refine blk_drewN ?_ _ | refine blk_drew ?_ | refine blk_alloc ?_ _)); exact BK313.out) hb)
          have n8_ := Aside0.mk (below_step (by repeat (first | (with_reducible first | exact HB.out | apply below_alloc | apply pw_below_drewN | apply below_drew1 | refine below_set ?_ GE294.out | refine below_set ?_ GE295.out | refine below_set ?_ GE309.out | refine below_set ?_ GE313.out) | exact HB.out)) hb)
          clear HO_295001
          clear HO_295002
          clear HO_296001
          clear HO_296002
          clear BK294
          clear BK295
          clear BK309
          clear BK313
          clear HB
          have HO_295001 := n0_
          have HO_295002 := n1_
          have HO_296001 := n2_
          have HO_296002 := n3_
          have BK294 := n4_
          have BK295 := n5_
          have BK309 := n6_
          have BK313 := n7_
          have HB := n8_
          clear n0_ n1_ n2_ n3_ n4_ n5_ n6_ n7_ n8_
          (try clear hb)
          (try clear hb2)
          (try clear hk)
          (try clear hi)
          refine hK.out _ _ ⟨(blk_cell BK294.out 0).trans rfl, (blk_cell BK294.out 1).trans rfl, (blk_cell BK294.out 2).trans rfl, (blk_cell BK295.out 0).trans rfl, (blk_cell BK295.out 1).trans rfl, (blk_cell BK295.out 2).trans rfl⟩ (fun hHeld => ?_)
          clear hK K
          refine norm_ (a' := ?_) ?_ ?_
          rotate_left
          · show Act.put _ (some 75) _ = _
            simp only [Act.put, List.setIfInBounds_toArray, List.set_cons_zero, List.set_cons_succ, i64_w, i32_w]
            rfl
          refine one_ (i := 11) (N := some 81) #[true, true, true, true, true, true, true, true, true, true, true, true, false, false, false, false, false] rfl rfl (one_of HT_.out (by kernel_rfl)) (by decide) (fun K hK => ?_)
          refine goes_ Try.func16 (by kernel_rfl) rfl #[.agg #[.int .i64 t286, .slice Ao25 t287.length co25, .slice Ao26 t290.length co26], .int .i64 t298, .int .i64 t302, .int .i64 t304, .int .i64 t300] (by rfl) rfl rfl (by (try simp only [List.map_toArray, List.map_cons, List.map_nil]); first | done | rfl | (simp only [List.length_drop, List.length_take]; rfl)) ?_
          with_reducible refine (leaders_Neighbour.calls kj11 t286 _ _ t287 _ _ t290 t298 t302 t304 t300 t316 _ ?side1 ?side2 ?side3 ?side4 A63.out).mono ?_
          (case side1 => repeat (first | exact (Kd.R_reads' HO_296001.out).2.2 | (with_reducible refine Kd.C_alloc ?_ _) | (with_reducible refine Kd.C_drewN ?_ _) | (with_reducible refine Kd.C_drew ?_)))
          (case side2 => exact (Kd.R_reads' HO_296001.out).2.1)
          (case side3 => repeat (first | exact (Kd.R_reads' HO_296002.out).2.2 | (with_reducible refine Kd.C_alloc ?_ _) | (with_reducible refine Kd.C_drewN ?_ _) | (with_reducible refine Kd.C_drew ?_)))
          (case side4 => exact (Kd.R_reads' HO_296002.out).2.1)
          rintro e w72 ⟨rfl, hb⟩
          refine ⟨_, rfl, ?_⟩
          have n0_ := Aside0.mk (Kd.R_below (by (with_reducible repeat (first | apply Kd.R_alloc | apply Kd.R_drewN | apply Kd.R_drew)); exact HO_295001.out) hb)
          have n1_ := Aside0.mk (Kd.R_below (by (with_reducible repeat (first | apply Kd.R_alloc | apply Kd.R_drewN | apply Kd.R_drew)); exact HO_295002.out) hb)
          have n2_ := Aside0.mk (Kd.R_below (by (with_reducible repeat (first | apply Kd.R_alloc | apply Kd.R_drewN | apply Kd.R_drew)); exact HO_296001.out) hb)
          have n3_ := Aside0.mk (Kd.R_below (by (with_reducible repeat (first | apply Kd.R_alloc | apply Kd.R_drewN | apply Kd.R_drew)); exact HO_296002.out) hb)
          have n4_ := Aside0.mk (blk_below (g := gb294) (o := .cells #[.int .i64 t278, .slice Ao21 t279.length co21, .slice Ao22 t282.length co22] 27 (0, 0)) (by (with_reducible repeat (first | refine blk_drewN ?_ _ | refine blk_drew ?_ | refine blk_alloc ?_ _)); exact BK294.out) hb)
          have n5_ := Aside0.mk (blk_below (g := gb295) (o := .cells #[.int .i64 t286, .slice Ao25 t287.length co25, .slice Ao26 t290.length co26] 27 (0, 0)) (by (with_reducible repeat (first | refine blk_drewN ?_ _ | refine blk_drew ?_ | refine blk_alloc ?_ _)); exact BK295.out) hb)
          have n6_ := Aside0.mk (blk_below (g := gb309) (o := .cells #[.int .i64 t306, .int .i64 t307] 31 (0, 0)) (by (with_reducible repeat (first | refine blk_drewN ?_ _ | refine blk_drew ?_ | refine blk_alloc ?_ _)); exact BK309.out) hb)
          have n7_ := Aside0.mk (blk_below (g := gb313) (o := .cells #[.int .i64 t310, .int .i64 t311] 31 (0, 0)) (by (with_reducible repeat (first | refine blk_drewN ?_ _ | refine blk_drew ?_ | refine blk_alloc ?_ _)); exact BK313.out) hb)
          have n8_ := Aside0.mk (below_step (by repeat (first | (with_reducible first | exact HB.out | apply below_alloc | apply pw_below_drewN | apply below_drew1 | refine below_set ?_ GE294.out | refine below_set ?_ GE295.out | refine below_set ?_ GE309.out | refine below_set ?_ GE313.out) | exact HB.out)) hb)
          clear HO_295001
          clear HO_295002
          clear HO_296001
          clear HO_296002
          clear BK294
          clear BK295
          clear BK309
          clear BK313
          clear HB
          have HO_295001 := n0_
          have HO_295002 := n1_
          have HO_296001 := n2_
          have HO_296002 := n3_
          have BK294 := n4_
          have BK295 := n5_
          have BK309 := n6_
          have BK313 := n7_
          have HB := n8_
          clear n0_ n1_ n2_ n3_ n4_ n5_ n6_ n7_ n8_
          (try clear hb)
          (try clear hb2)
          (try clear hk)
          (try clear hi)
          refine hK.out _ _ ⟨(blk_cell BK294.out 0).trans rfl, (blk_cell BK294.out 1).trans rfl, (blk_cell BK294.out 2).trans rfl, (blk_cell BK295.out 0).trans rfl, (blk_cell BK295.out 1).trans rfl, (blk_cell BK295.out 2).trans rfl⟩ (fun hHeld => ?_)
          clear hK K
          refine norm_ (a' := ?_) ?_ ?_
          rotate_left
          · show Act.put _ (some 81) _ = _
            simp only [Act.put, List.setIfInBounds_toArray, List.set_cons_zero, List.set_cons_succ, i64_w, i32_w]
            rfl
          refine pure_ (i := 12) (N := some 82) (v := ?_) (a' := ?_) #[true, true, true, true, true, true, true, true, true, true, true, true, true, false, false, false, false] rfl rfl (any_of HT_.out (by kernel_rfl)) (fun _ _ _ h => h) (Or.inl ⟨by rfl, ?_⟩) ?_ ?_
          rotate_left
          · intro w'
            go_simp
            with_reducible rfl
          rotate_left
          · simp only [Act.put, List.setIfInBounds_toArray, List.set_cons_zero, List.set_cons_succ, i64_w, i32_w]
            rfl
          refine pure_ (i := 13) (N := some 83) (v := ?_) (a' := ?_) #[true, true, true, true, true, true, true, true, true, true, true, true, true, true, false, false, false] rfl rfl (any_of HT_.out (by kernel_rfl)) (fun _ _ _ h => h) (Or.inl ⟨by rfl, ?_⟩) ?_ ?_
          rotate_left
          · intro w'
            go_simp
            with_reducible rfl
          rotate_left
          · simp only [Act.put, List.setIfInBounds_toArray, List.set_cons_zero, List.set_cons_succ, i64_w, i32_w]
            rfl
          refine pure_ (i := 14) (N := some 84) (v := undef) (a' := ?_) #[true, true, true, true, true, true, true, true, true, true, true, true, true, true, true, false, false] rfl rfl (any_of HT_.out (by kernel_rfl)) (fun _ _ _ h => h) (Or.inr ⟨by rfl, rfl⟩) ?_ ?_
          rotate_left
          · simp only [Act.put, List.setIfInBounds_toArray, List.set_cons_zero, List.set_cons_succ, i64_w, i32_w]
            rfl
          refine pure_ (i := 15) (N := some 85) (v := ?_) (a' := ?_) #[true, true, true, true, true, true, true, true, true, true, true, true, true, true, true, true, false] rfl rfl (any_of HT_.out (by kernel_rfl)) (fun _ _ _ h => h) (Or.inl ⟨by rfl, ?_⟩) ?_ ?_
          rotate_left
          · intro w'
            go_simp
            with_reducible rfl
          rotate_left
          · simp only [Act.put, List.setIfInBounds_toArray, List.set_cons_zero, List.set_cons_succ, i64_w, i32_w]
            rfl
          refine pure_ (i := 16) (N := some 2) (v := ?_) (a' := ?_) #[true, true, true, true, true, true, true, true, true, true, true, true, true, true, true, true, true] rfl rfl (any_of HT_.out (by kernel_rfl)) (fun _ _ _ h => h) (Or.inl ⟨by rfl, ?_⟩) ?_ ?_
          rotate_left
          · intro w'
            go_simp
            with_reducible rfl
          rotate_left
          · simp only [Act.put, List.setIfInBounds_toArray, List.set_cons_zero, List.set_cons_succ, i64_w, i32_w]
            rfl
          refine done_ (done_of HT_.out (by kernel_rfl)) ?_
          try go_wp2
          go_ret
          exact ⟨by first | rfl | (simp [errW_none, errW_some] <;> rfl) | (simp [*, errW_none, errW_some] <;> rfl), by repeat (first | (with_reducible first | exact HB.out | apply below_alloc | apply pw_below_drewN | apply below_drew1 | refine below_set ?_ GE294.out | refine below_set ?_ GE295.out | refine below_set ?_ GE309.out | refine below_set ?_ GE313.out) | exact HB.out)⟩

/-- THE ONE PURE STATEMENT of trustquorumlaw21_LeadersShare: yours. -/
def trustquorumlaw21_LeadersShare.Pure : Prop := ∀ (l0 : List Int), l0.length ≤ maxLen → l0.length * 8 ≤ 140737488351232 → (∀ x ∈ l0, (Lit.int .i64 x).wf = true) → ∃ k, trustquorumlaw21_LeadersShare.f k l0 = some true
theorem trustquorumlaw21_LeadersShare.walk (P : trustquorumlaw21_LeadersShare.Pure) (a0 : Option Addr) (len0 cap0 : Nat) (z0 : List Int) (w : World) (w0 : (a0 = none ∧ len0 = 0 ∧ cap0 = 0 ∧ z0 = []) ∨ ∃ x, a0 = some x ∧ len0 ≤ cap0 ∧ cap0 ≤ maxLen ∧ z0.length = cap0 ∧ (∀ i, i < z0.length → w.cell? (x.add i) = some (.int .i64 (z0.getD i 0))) ∧ ∀ n ∈ z0, (Lit.int .i64 n).wf = true) (y0 : len0 * 8 ≤ 140737488351232) :
    Calls Try.prog 4 #[.slice a0 len0 cap0] w fun e w' => e = .returned (.bool true) ∧ Below w.heap.size w w' := by
  obtain ⟨l0, rfl, hr0, hm0, hw0, hc0⟩ := ReadsInt.ofRowC w0
  obtain ⟨k, h⟩ := P l0 hm0 y0 hw0
  refine (trustquorumlaw21_LeadersShare.calls k _ _ l0 true w (Kd.C_of_reads (d := (0 : Int)) (h1 := fun _ => rfl) hr0) hc0 h).mono ?_
  rintro e w' ⟨rfl, hd⟩
  exact ⟨rfl, hd⟩

end Go.Proofs.Ytphndccgadblnaa.QLeadersShare
