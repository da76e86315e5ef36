/- Lean functions that answer as the Go functions do which the law reaches, and proofs that the Go code comes to exactly these answers. Conditions: those that each theorem names. -/
import Derived.Test.YtphndccgadblnaaQLeadersChosenx0
import Derived.Test.YtphndccgadblnaaQLeadersChosenx2
import Derived.Test.YtphndccgadblnaaQLeadersChosenx4
import Derived.Test.YtphndccgadblnaaQLeadersChosenx5
import Derived.Test.YtphndccgadblnaaQLeadersChosenx6
import Derived.Test.YtphndccgadblnaaQLeadersChosenx8
import Derived.Test.YtphndccgadblnaaQLeadersChosenx9
namespace Go.Proofs.Ytphndccgadblnaa.QLeadersChosen
open Go.RowKit Go.Proofs.YtphndccgadblnaaW.PrintWords Go.Proofs.YtphndccgadblnaaW.PrintLast Go.Proofs.YtphndccgadblnaaW.PrintMore
attribute [local go_sem] max2_int min2_int max_two min_two max_three min_three max_four min_four   -- for this text's walks alone
set_option linter.unusedVariables false
set_option linter.unusedSimpArgs false

/-! ### trustquorumlaw21_LeadersChosen: function 5 -/
mutual
def trustquorumlaw21_LeadersChosen.j0 : Nat → Int → Int → Int → Int → Bool → Int → List Int → List (S27) → Option (Bool)
  | 0, _, _, _, _, _, _, _, _ => none
  | k + 1, x5, x6, x7, x8, x62, x300000, x300001, x300002 => if x62 = true then (some false) else (trustquorumlaw21_LeadersChosen.l0 k x5 x6 x7 x8 0 x300000 x300001 x300002)
def trustquorumlaw21_LeadersChosen.l0 : Nat → Int → Int → Int → Int → Int → Int → List Int → List (S27) → Option (Bool)
  | 0, _, _, _, _, _, _, _, _ => none
  | k + 1, x5, x6, x7, x8, x10, x300000, x300001, x300002 => if x10 < 10 then ((leaders_Neighbour.f k x300000 x300001 x300002 x5 x6 x7 x10).bind fun t313 => (if t313 = true then ((leaders_Hash.f 2 x6 x7 x10).bind fun t314 => ((leaders_Hash.f 2 x6 x7 x8).bind fun t315 => (if t314 > t315 then (some false) else (if x10 > x8 then ((leaders_Hash.f 2 x6 x7 x10).bind fun t316 => ((leaders_Hash.f 2 x6 x7 x8).bind fun t317 => (if t316 = t317 then (some false) else (trustquorumlaw21_LeadersChosen.l0 k x5 x6 x7 x8 (wrap64 (x10 + 1)) x300000 x300001 x300002)))) else (trustquorumlaw21_LeadersChosen.l0 k x5 x6 x7 x8 (wrap64 (x10 + 1)) x300000 x300001 x300002))))) else (trustquorumlaw21_LeadersChosen.l0 k x5 x6 x7 x8 (wrap64 (x10 + 1)) x300000 x300001 x300002))) else ((trustquorumlaw21_awake.f k).bind fun t312 => (some t312))
end
def trustquorumlaw21_LeadersChosen.f (k : Nat) (l0 : List Int) : Option (Bool) := (trustquorummake_New.f l0).bind fun bt286 => ((trustquorummake_Tape_Range.f bt286.1 bt286.2 1 10).bind fun bt289 => ((trustquorummake_Trust.f k bt286.1 bt289.2 bt289.1 3).bind fun bt291 => ((trustquorummake_Tape_N.f bt286.1 bt291.2.2.2 10).bind fun bt300 => ((trustquorummake_Tape_N.f bt286.1 bt300.2 1000).bind fun bt302 => ((trustquorummake_Tape_Range.f bt286.1 bt302.2 1 50).bind fun bt304 => ((leaders_Choose.f k bt291.1 bt291.2.1 bt291.2.2.1 bt300.1 bt302.1 bt304.1).bind fun bt306 => (if bt306.2 = 0 then ((leaders_Neighbour.f k bt291.1 bt291.2.1 bt291.2.2.1 bt300.1 bt302.1 bt304.1 bt306.1).bind fun t308 => (if t308 = true then ((leaders_Neighbour.f k bt291.1 bt291.2.1 bt291.2.2.1 bt300.1 bt302.1 bt304.1 bt300.1).bind fun t309 => (if t309 = true then (if bt306.1 = bt300.1 then (trustquorumlaw21_LeadersChosen.j0 k bt300.1 bt302.1 bt304.1 bt306.1 false bt291.1 bt291.2.1 bt291.2.2.1) else ((trustquorumref02_Uses.f k bt291.1 bt291.2.1 bt291.2.2.1).bind fun t310 => ((trustquorumref01_Has.f t310 bt306.1).bind fun t311 => (trustquorumlaw21_LeadersChosen.j0 k bt300.1 bt302.1 bt304.1 bt306.1 (!t311) bt291.1 bt291.2.1 bt291.2.2.1)))) else (trustquorumlaw21_LeadersChosen.j0 k bt300.1 bt302.1 bt304.1 bt306.1 true bt291.1 bt291.2.1 bt291.2.2.1))) else (trustquorumlaw21_LeadersChosen.j0 k bt300.1 bt302.1 bt304.1 bt306.1 true bt291.1 bt291.2.1 bt291.2.2.1))) else (trustquorumlaw21_LeadersChosen.j0 k bt300.1 bt302.1 bt304.1 bt306.1 true bt291.1 bt291.2.1 bt291.2.2.1))))))))
theorem trustquorumlaw21_LeadersChosen.mono_l : ∀ k, (∀ y0 y1 y2 y3 y4 y5 y6 y7, LeO (trustquorumlaw21_LeadersChosen.j0 k y0 y1 y2 y3 y4 y5 y6 y7) (trustquorumlaw21_LeadersChosen.j0 (k + 1) y0 y1 y2 y3 y4 y5 y6 y7)) ∧ (∀ y0 y1 y2 y3 y4 y5 y6 y7, LeO (trustquorumlaw21_LeadersChosen.l0 k y0 y1 y2 y3 y4 y5 y6 y7) (trustquorumlaw21_LeadersChosen.l0 (k + 1) y0 y1 y2 y3 y4 y5 y6 y7))
  | 0 => ⟨fun _ _ _ _ _ _ _ _ r h => by simp [trustquorumlaw21_LeadersChosen.j0] at h, fun _ _ _ _ _ _ _ _ r h => by simp [trustquorumlaw21_LeadersChosen.l0] at h⟩
  | k + 1 => by
    obtain ⟨ih0, ih1⟩ := trustquorumlaw21_LeadersChosen.mono_l k
    refine ⟨?_, ?_⟩
    · intro y0 y1 y2 y3 y4 y5 y6 y7
      unfold trustquorumlaw21_LeadersChosen.j0
      repeat' first
      | (with_reducible exact ih0 _ _ _ _ _ _ _ _)
      | (with_reducible exact ih1 _ _ _ _ _ _ _ _)
      | (with_reducible exact leaders_Choose.mono _ _ _ _ _ _ _)
      | (with_reducible exact leaders_Neighbour.mono _ _ _ _ _ _ _ _)
      | (with_reducible exact trustquorumlaw21_awake.mono _)
      | (with_reducible exact trustquorummake_Trust.mono _ _ _ _ _)
      | (with_reducible exact trustquorumref02_Uses.mono _ _ _ _)
      | (with_reducible exact LeO.refl _)
      | (with_reducible exact LeO.none _)
      | (with_reducible refine LeO.ite ?_ ?_)
      | (with_reducible refine LeO.bind ?_ (fun _ => ?_))
      | exact ih0 _ _ _ _ _ _ _ _
      | exact ih1 _ _ _ _ _ _ _ _
      | exact leaders_Choose.mono _ _ _ _ _ _ _
      | exact leaders_Neighbour.mono _ _ _ _ _ _ _ _
      | exact trustquorumlaw21_awake.mono _
      | exact trustquorummake_Trust.mono _ _ _ _ _
      | exact trustquorumref02_Uses.mono _ _ _ _
      | exact LeO.none _
      | refine LeO.ite ?_ ?_
      | refine LeO.bind ?_ (fun _ => ?_)
    · intro y0 y1 y2 y3 y4 y5 y6 y7
      unfold trustquorumlaw21_LeadersChosen.l0
      repeat' first
      | (with_reducible exact ih0 _ _ _ _ _ _ _ _)
      | (with_reducible exact ih1 _ _ _ _ _ _ _ _)
      | (with_reducible exact leaders_Choose.mono _ _ _ _ _ _ _)
      | (with_reducible exact leaders_Neighbour.mono _ _ _ _ _ _ _ _)
      | (with_reducible exact trustquorumlaw21_awake.mono _)
      | (with_reducible exact trustquorummake_Trust.mono _ _ _ _ _)
      | (with_reducible exact trustquorumref02_Uses.mono _ _ _ _)
      | (with_reducible exact LeO.refl _)
      | (with_reducible exact LeO.none _)
      | (with_reducible refine LeO.ite ?_ ?_)
      | (with_reducible refine LeO.bind ?_ (fun _ => ?_))
      | exact ih0 _ _ _ _ _ _ _ _
      | exact ih1 _ _ _ _ _ _ _ _
      | exact leaders_Choose.mono _ _ _ _ _ _ _
      | exact leaders_Neighbour.mono _ _ _ _ _ _ _ _
      | exact trustquorumlaw21_awake.mono _
      | exact trustquorummake_Trust.mono _ _ _ _ _
      | exact trustquorumref02_Uses.mono _ _ _ _
      | exact LeO.none _
      | refine LeO.ite ?_ ?_
      | refine LeO.bind ?_ (fun _ => ?_)
theorem trustquorumlaw21_LeadersChosen.mono : ∀ a0 k, LeO (trustquorumlaw21_LeadersChosen.f k a0) (trustquorumlaw21_LeadersChosen.f (k + 1) a0) := by
  intro a0 k
  obtain ⟨ih0, ih1⟩ := trustquorumlaw21_LeadersChosen.mono_l k
  unfold trustquorumlaw21_LeadersChosen.f
  repeat' first
      | (with_reducible exact ih0 _ _ _ _ _ _ _ _)
      | (with_reducible exact ih1 _ _ _ _ _ _ _ _)
      | (with_reducible exact leaders_Choose.mono _ _ _ _ _ _ _)
      | (with_reducible exact leaders_Neighbour.mono _ _ _ _ _ _ _ _)
      | (with_reducible exact trustquorumlaw21_awake.mono _)
      | (with_reducible exact trustquorummake_Trust.mono _ _ _ _ _)
      | (with_reducible exact trustquorumref02_Uses.mono _ _ _ _)
      | (with_reducible exact LeO.refl _)
      | (with_reducible exact LeO.none _)
      | (with_reducible refine LeO.ite ?_ ?_)
      | (with_reducible refine LeO.bind ?_ (fun _ => ?_))
      | exact ih0 _ _ _ _ _ _ _ _
      | exact ih1 _ _ _ _ _ _ _ _
      | exact leaders_Choose.mono _ _ _ _ _ _ _
      | exact leaders_Neighbour.mono _ _ _ _ _ _ _ _
      | exact trustquorumlaw21_awake.mono _
      | exact trustquorummake_Trust.mono _ _ _ _ _
      | exact trustquorumref02_Uses.mono _ _ _ _
      | exact LeO.none _
      | refine LeO.ite ?_ ?_
      | refine LeO.bind ?_ (fun _ => ?_)
set_option maxHeartbeats 8000000 in
set_option maxRecDepth 100000 in
theorem trustquorumlaw21_LeadersChosen.calls (k : Nat) (A0 : Option Addr) (c0 : Nat) (l0 : List Int) (r : Bool) (w : World) (hr0 : Kd.C (Kd.int .i64) w A0 l0.length l0) (hc0 : l0.length ≤ c0) (h : trustquorumlaw21_LeadersChosen.f k l0 = some r) :
    Calls Try.prog 5 #[.slice A0 l0.length c0] w fun e w' => e = .returned (.bool r) ∧ Below w.heap.size w w' := by
  have hu27 := Try.underlying27
  have HR0 := Aside0.mk hr0
  have HC0 := Aside0.mk hc0
  clear hr0 hc0
  have HB := Aside0.mk (Below.refl w.heap.size w)
  have H : ((trustquorummake_New.f l0).bind fun bt286 => ((trustquorummake_Tape_Range.f bt286.1 bt286.2 1 10).bind fun bt289 => ((trustquorummake_Trust.f k bt286.1 bt289.2 bt289.1 3).bind fun bt291 => ((trustquorummake_Tape_N.f bt286.1 bt291.2.2.2 10).bind fun bt300 => ((trustquorummake_Tape_N.f bt286.1 bt300.2 1000).bind fun bt302 => ((trustquorummake_Tape_Range.f bt286.1 bt302.2 1 50).bind fun bt304 => ((leaders_Choose.f k bt291.1 bt291.2.1 bt291.2.2.1 bt300.1 bt302.1 bt304.1).bind fun bt306 => (if bt306.2 = 0 then ((leaders_Neighbour.f k bt291.1 bt291.2.1 bt291.2.2.1 bt300.1 bt302.1 bt304.1 bt306.1).bind fun t308 => (if t308 = true then ((leaders_Neighbour.f k bt291.1 bt291.2.1 bt291.2.2.1 bt300.1 bt302.1 bt304.1 bt300.1).bind fun t309 => (if t309 = true then (if bt306.1 = bt300.1 then (trustquorumlaw21_LeadersChosen.j0 k bt300.1 bt302.1 bt304.1 bt306.1 false bt291.1 bt291.2.1 bt291.2.2.1) else ((trustquorumref02_Uses.f k bt291.1 bt291.2.1 bt291.2.2.1).bind fun t310 => ((trustquorumref01_Has.f t310 bt306.1).bind fun t311 => (trustquorumlaw21_LeadersChosen.j0 k bt300.1 bt302.1 bt304.1 bt306.1 (!t311) bt291.1 bt291.2.1 bt291.2.2.1)))) else (trustquorumlaw21_LeadersChosen.j0 k bt300.1 bt302.1 bt304.1 bt306.1 true bt291.1 bt291.2.1 bt291.2.2.1))) else (trustquorumlaw21_LeadersChosen.j0 k bt300.1 bt302.1 bt304.1 bt306.1 true bt291.1 bt291.2.1 bt291.2.2.1))) else (trustquorumlaw21_LeadersChosen.j0 k bt300.1 bt302.1 bt304.1 bt306.1 true bt291.1 bt291.2.1 bt291.2.2.1))))))))) = some r := h
  clear h
  replace H := Option.bind_eq_some_iff.mp H
  obtain ⟨⟨t286, t287⟩, A20, H⟩ := H
  replace H : ((trustquorummake_Tape_Range.f t286 t287 1 10).bind fun bt289 => ((trustquorummake_Trust.f k t286 bt289.2 bt289.1 3).bind fun bt291 => ((trustquorummake_Tape_N.f t286 bt291.2.2.2 10).bind fun bt300 => ((trustquorummake_Tape_N.f t286 bt300.2 1000).bind fun bt302 => ((trustquorummake_Tape_Range.f t286 bt302.2 1 50).bind fun bt304 => ((leaders_Choose.f k bt291.1 bt291.2.1 bt291.2.2.1 bt300.1 bt302.1 bt304.1).bind fun bt306 => (if bt306.2 = 0 then ((leaders_Neighbour.f k bt291.1 bt291.2.1 bt291.2.2.1 bt300.1 bt302.1 bt304.1 bt306.1).bind fun t308 => (if t308 = true then ((leaders_Neighbour.f k bt291.1 bt291.2.1 bt291.2.2.1 bt300.1 bt302.1 bt304.1 bt300.1).bind fun t309 => (if t309 = true then (if bt306.1 = bt300.1 then (trustquorumlaw21_LeadersChosen.j0 k bt300.1 bt302.1 bt304.1 bt306.1 false bt291.1 bt291.2.1 bt291.2.2.1) else ((trustquorumref02_Uses.f k bt291.1 bt291.2.1 bt291.2.2.1).bind fun t310 => ((trustquorumref01_Has.f t310 bt306.1).bind fun t311 => (trustquorumlaw21_LeadersChosen.j0 k bt300.1 bt302.1 bt304.1 bt306.1 (!t311) bt291.1 bt291.2.1 bt291.2.2.1)))) else (trustquorumlaw21_LeadersChosen.j0 k bt300.1 bt302.1 bt304.1 bt306.1 true bt291.1 bt291.2.1 bt291.2.2.1))) else (trustquorumlaw21_LeadersChosen.j0 k bt300.1 bt302.1 bt304.1 bt306.1 true bt291.1 bt291.2.1 bt291.2.2.1))) else (trustquorumlaw21_LeadersChosen.j0 k bt300.1 bt302.1 bt304.1 bt306.1 true bt291.1 bt291.2.1 bt291.2.2.1)))))))) = some r := H
  have A2 := Aside0.mk A20
  clear A20
  replace H := Option.bind_eq_some_iff.mp H
  obtain ⟨⟨t289, t290⟩, A30, H⟩ := H
  replace H : ((trustquorummake_Trust.f k t286 t290 t289 3).bind fun bt291 => ((trustquorummake_Tape_N.f t286 bt291.2.2.2 10).bind fun bt300 => ((trustquorummake_Tape_N.f t286 bt300.2 1000).bind fun bt302 => ((trustquorummake_Tape_Range.f t286 bt302.2 1 50).bind fun bt304 => ((leaders_Choose.f k bt291.1 bt291.2.1 bt291.2.2.1 bt300.1 bt302.1 bt304.1).bind fun bt306 => (if bt306.2 = 0 then ((leaders_Neighbour.f k bt291.1 bt291.2.1 bt291.2.2.1 bt300.1 bt302.1 bt304.1 bt306.1).bind fun t308 => (if t308 = true then ((leaders_Neighbour.f k bt291.1 bt291.2.1 bt291.2.2.1 bt300.1 bt302.1 bt304.1 bt300.1).bind fun t309 => (if t309 = true then (if bt306.1 = bt300.1 then (trustquorumlaw21_LeadersChosen.j0 k bt300.1 bt302.1 bt304.1 bt306.1 false bt291.1 bt291.2.1 bt291.2.2.1) else ((trustquorumref02_Uses.f k bt291.1 bt291.2.1 bt291.2.2.1).bind fun t310 => ((trustquorumref01_Has.f t310 bt306.1).bind fun t311 => (trustquorumlaw21_LeadersChosen.j0 k bt300.1 bt302.1 bt304.1 bt306.1 (!t311) bt291.1 bt291.2.1 bt291.2.2.1)))) else (trustquorumlaw21_LeadersChosen.j0 k bt300.1 bt302.1 bt304.1 bt306.1 true bt291.1 bt291.2.1 bt291.2.2.1))) else (trustquorumlaw21_LeadersChosen.j0 k bt300.1 bt302.1 bt304.1 bt306.1 true bt291.1 bt291.2.1 bt291.2.2.1))) else (trustquorumlaw21_LeadersChosen.j0 k bt300.1 bt302.1 bt304.1 bt306.1 true bt291.1 bt291.2.1 bt291.2.2.1))))))) = some r := H
  have A3 := Aside0.mk A30
  clear A30
  replace H := Option.bind_eq_some_iff.mp H
  obtain ⟨⟨t291, t292, t295, t298⟩, A40, H⟩ := H
  replace H : ((trustquorummake_Tape_N.f t286 t298 10).bind fun bt300 => ((trustquorummake_Tape_N.f t286 bt300.2 1000).bind fun bt302 => ((trustquorummake_Tape_Range.f t286 bt302.2 1 50).bind fun bt304 => ((leaders_Choose.f k t291 t292 t295 bt300.1 bt302.1 bt304.1).bind fun bt306 => (if bt306.2 = 0 then ((leaders_Neighbour.f k t291 t292 t295 bt300.1 bt302.1 bt304.1 bt306.1).bind fun t308 => (if t308 = true then ((leaders_Neighbour.f k t291 t292 t295 bt300.1 bt302.1 bt304.1 bt300.1).bind fun t309 => (if t309 = true then (if bt306.1 = bt300.1 then (trustquorumlaw21_LeadersChosen.j0 k bt300.1 bt302.1 bt304.1 bt306.1 false t291 t292 t295) else ((trustquorumref02_Uses.f k t291 t292 t295).bind fun t310 => ((trustquorumref01_Has.f t310 bt306.1).bind fun t311 => (trustquorumlaw21_LeadersChosen.j0 k bt300.1 bt302.1 bt304.1 bt306.1 (!t311) t291 t292 t295)))) else (trustquorumlaw21_LeadersChosen.j0 k bt300.1 bt302.1 bt304.1 bt306.1 true t291 t292 t295))) else (trustquorumlaw21_LeadersChosen.j0 k bt300.1 bt302.1 bt304.1 bt306.1 true t291 t292 t295))) else (trustquorumlaw21_LeadersChosen.j0 k bt300.1 bt302.1 bt304.1 bt306.1 true t291 t292 t295)))))) = some r := H
  have A4 := Aside0.mk A40
  clear A40
  replace H := Option.bind_eq_some_iff.mp H
  obtain ⟨⟨t300, t301⟩, A50, H⟩ := H
  replace H : ((trustquorummake_Tape_N.f t286 t301 1000).bind fun bt302 => ((trustquorummake_Tape_Range.f t286 bt302.2 1 50).bind fun bt304 => ((leaders_Choose.f k t291 t292 t295 t300 bt302.1 bt304.1).bind fun bt306 => (if bt306.2 = 0 then ((leaders_Neighbour.f k t291 t292 t295 t300 bt302.1 bt304.1 bt306.1).bind fun t308 => (if t308 = true then ((leaders_Neighbour.f k t291 t292 t295 t300 bt302.1 bt304.1 t300).bind fun t309 => (if t309 = true then (if bt306.1 = t300 then (trustquorumlaw21_LeadersChosen.j0 k t300 bt302.1 bt304.1 bt306.1 false t291 t292 t295) else ((trustquorumref02_Uses.f k t291 t292 t295).bind fun t310 => ((trustquorumref01_Has.f t310 bt306.1).bind fun t311 => (trustquorumlaw21_LeadersChosen.j0 k t300 bt302.1 bt304.1 bt306.1 (!t311) t291 t292 t295)))) else (trustquorumlaw21_LeadersChosen.j0 k t300 bt302.1 bt304.1 bt306.1 true t291 t292 t295))) else (trustquorumlaw21_LeadersChosen.j0 k t300 bt302.1 bt304.1 bt306.1 true t291 t292 t295))) else (trustquorumlaw21_LeadersChosen.j0 k t300 bt302.1 bt304.1 bt306.1 true t291 t292 t295))))) = some r := H
  have A5 := Aside0.mk A50
  clear A50
  replace H := Option.bind_eq_some_iff.mp H
  obtain ⟨⟨t302, t303⟩, A60, H⟩ := H
  replace H : ((trustquorummake_Tape_Range.f t286 t303 1 50).bind fun bt304 => ((leaders_Choose.f k t291 t292 t295 t300 t302 bt304.1).bind fun bt306 => (if bt306.2 = 0 then ((leaders_Neighbour.f k t291 t292 t295 t300 t302 bt304.1 bt306.1).bind fun t308 => (if t308 = true then ((leaders_Neighbour.f k t291 t292 t295 t300 t302 bt304.1 t300).bind fun t309 => (if t309 = true then (if bt306.1 = t300 then (trustquorumlaw21_LeadersChosen.j0 k t300 t302 bt304.1 bt306.1 false t291 t292 t295) else ((trustquorumref02_Uses.f k t291 t292 t295).bind fun t310 => ((trustquorumref01_Has.f t310 bt306.1).bind fun t311 => (trustquorumlaw21_LeadersChosen.j0 k t300 t302 bt304.1 bt306.1 (!t311) t291 t292 t295)))) else (trustquorumlaw21_LeadersChosen.j0 k t300 t302 bt304.1 bt306.1 true t291 t292 t295))) else (trustquorumlaw21_LeadersChosen.j0 k t300 t302 bt304.1 bt306.1 true t291 t292 t295))) else (trustquorumlaw21_LeadersChosen.j0 k t300 t302 bt304.1 bt306.1 true t291 t292 t295)))) = some r := H
  have A6 := Aside0.mk A60
  clear A60
  replace H := Option.bind_eq_some_iff.mp H
  obtain ⟨⟨t304, t305⟩, A70, H⟩ := H
  replace H : ((leaders_Choose.f k t291 t292 t295 t300 t302 t304).bind fun bt306 => (if bt306.2 = 0 then ((leaders_Neighbour.f k t291 t292 t295 t300 t302 t304 bt306.1).bind fun t308 => (if t308 = true then ((leaders_Neighbour.f k t291 t292 t295 t300 t302 t304 t300).bind fun t309 => (if t309 = true then (if bt306.1 = t300 then (trustquorumlaw21_LeadersChosen.j0 k t300 t302 t304 bt306.1 false t291 t292 t295) else ((trustquorumref02_Uses.f k t291 t292 t295).bind fun t310 => ((trustquorumref01_Has.f t310 bt306.1).bind fun t311 => (trustquorumlaw21_LeadersChosen.j0 k t300 t302 t304 bt306.1 (!t311) t291 t292 t295)))) else (trustquorumlaw21_LeadersChosen.j0 k t300 t302 t304 bt306.1 true t291 t292 t295))) else (trustquorumlaw21_LeadersChosen.j0 k t300 t302 t304 bt306.1 true t291 t292 t295))) else (trustquorumlaw21_LeadersChosen.j0 k t300 t302 t304 bt306.1 true t291 t292 t295))) = some r := H
  have A7 := Aside0.mk A70
  clear A70
  replace H := Option.bind_eq_some_iff.mp H
  obtain ⟨⟨t306, t307⟩, A80, H⟩ := H
  replace H : (if t307 = 0 then ((leaders_Neighbour.f k t291 t292 t295 t300 t302 t304 t306).bind fun t308 => (if t308 = true then ((leaders_Neighbour.f k t291 t292 t295 t300 t302 t304 t300).bind fun t309 => (if t309 = true then (if t306 = t300 then (trustquorumlaw21_LeadersChosen.j0 k t300 t302 t304 t306 false t291 t292 t295) else ((trustquorumref02_Uses.f k t291 t292 t295).bind fun t310 => ((trustquorumref01_Has.f t310 t306).bind fun t311 => (trustquorumlaw21_LeadersChosen.j0 k t300 t302 t304 t306 (!t311) t291 t292 t295)))) else (trustquorumlaw21_LeadersChosen.j0 k t300 t302 t304 t306 true t291 t292 t295))) else (trustquorumlaw21_LeadersChosen.j0 k t300 t302 t304 t306 true t291 t292 t295))) else (trustquorumlaw21_LeadersChosen.j0 k t300 t302 t304 t306 true t291 t292 t295)) = some r := H
  have A8 := Aside0.mk A80
  clear A80
  have HC9 := Aside0.mk H
  clear H
  go_enter Try.func5, Try.ntmps5
  go_upto_region 5 with (first | ((with_reducible refine gate_callee (f := 8) rfl ?_); refine goesL_ (some 12) rfl rfl Try.func8 (by kernel_rfl) rfl #[.slice A0 l0.length c0] rfl (by (try simp only [List.map_toArray, List.map_cons, List.map_nil]); first | done | rfl | (simp only [List.length_drop, List.length_take]; rfl)) ?_; (with_reducible refine (trustquorummake_New.calls _ _ l0 t286 t287 w _ ?side1 ?side2 ?side3 A2.out).mono ?_); (case side1 => repeat (first | (with_reducible first | exact HB.out | apply below_alloc | apply pw_below_drewN | apply below_drew1) | exact HB.out)); (case side2 => exact HR0.out); (case side3 => exact HC0.out); rintro e w10 ⟨g288, rfl, hi, hb, hb2⟩; refine ⟨_, rfl, ?_⟩; have n0_ := Aside0.mk (hb); have n1_ := Aside0.mk (hi); clear HB; have HB := n0_; have HI288 := n1_; clear n0_ n1_; (try clear hb); (try clear hb2); (try clear hk); (try clear hi)) | ((with_reducible refine gate_callee (f := 10) rfl ?_); refine goesL_ (some 15) rfl rfl Try.func10 (by kernel_rfl) rfl #[.pointer (some ⟨g288, 0, none⟩), .int .i64 1, .int .i64 10] rfl (by (try simp only [List.map_toArray, List.map_cons, List.map_nil]); first | done | rfl | (simp only [List.length_drop, List.length_take]; rfl)) ?_; (with_reducible refine (trustquorummake_Tape_Range.calls g288 t286 t287 1 10 t289 t290 w _ ?side1 ?side2 A3.out).mono ?_); (case side1 => repeat (first | (with_reducible first | exact HI288.out | apply IsS62.alloc | apply IsS62.drewN | apply IsS62.drew | apply IsS62.set_1) | exact HI288.out)); (case side2 => repeat (first | (with_reducible first | exact HB.out | apply below_alloc | apply pw_below_drewN | apply below_drew1 | refine below_set ?_ (IsS62.ge HI288.out)) | exact HB.out)); rintro e w11 ⟨rfl, hi, hb, hk⟩; refine ⟨_, rfl, ?_⟩; have n0_ := Aside0.mk (hb); have n1_ := Aside0.mk (hi); clear HB; clear HI288; have HB := n0_; have HI288 := n1_; clear n0_ n1_; (try clear hb); (try clear hb2); (try clear hk); (try clear hi)) | ((with_reducible refine gate_callee (f := 9) rfl ?_); refine goesL_ (some 16) rfl rfl Try.func9 (by kernel_rfl) rfl #[.pointer (some ⟨g288, 0, none⟩), .int .i64 t289, .int .i64 3] rfl (by (try simp only [List.map_toArray, List.map_cons, List.map_nil]); first | done | rfl | (simp only [List.length_drop, List.length_take]; rfl)) ?_; (with_reducible refine (trustquorummake_Trust.calls k g288 t286 t290 t289 3 t291 t292 t295 t298 w _ ?side1 ?side2 A4.out).mono ?_); (case side1 => repeat (first | (with_reducible first | exact HI288.out | apply IsS62.alloc | apply IsS62.drewN | apply IsS62.drew | apply IsS62.set_1) | exact HI288.out)); (case side2 => repeat (first | (with_reducible first | exact HB.out | apply below_alloc | apply pw_below_drewN | apply below_drew1 | refine below_set ?_ (IsS62.ge HI288.out)) | exact HB.out)); rintro e w12 ⟨v293, v296, rfl, ho0, ho1, hi, hb, hk⟩; refine ⟨_, rfl, ?_⟩; have n0_ := Aside0.mk (Kd.R_lower ho0 (below_size (by repeat (first | (with_reducible first | exact HB.out | apply below_alloc | apply pw_below_drewN | apply below_drew1 | refine below_set ?_ (IsS62.ge HI288.out)) | exact HB.out)))); have n1_ := Aside0.mk (Kd.R_lower ho1 (below_size (by repeat (first | (with_reducible first | exact HB.out | apply below_alloc | apply pw_below_drewN | apply below_drew1 | refine below_set ?_ (IsS62.ge HI288.out)) | exact HB.out)))); have n2_ := Aside0.mk (hb); have n3_ := Aside0.mk (hi); clear HB; clear HI288; have HO294 := n0_; have HO297 := n1_; have HB := n2_; have HI288 := n3_; clear n0_ n1_ n2_ n3_; (try clear hb); (try clear hb2); (try clear hk); (try clear hi); (try clear ho0); (try clear ho1)) | ((with_reducible refine gate_dst (N := 4) rfl ?_); refine box_event ?hg (N := 4) ?hd (cs := #[.int .i64 0, .slice none 0 0, .slice none 0 0]) (t := 27) ?hr ?_; (case hd => rfl); (case hg => rfl); (case hr => first | (go_simp; done) | (go_simp; rfl)); intro gb299 hg w13 hbox hb; have n0_ := Aside0.mk (Kd.R_below (by (with_reducible repeat (first | apply Kd.R_alloc | apply Kd.R_drewN | apply Kd.R_drew)); exact HO294.out) hb); have n1_ := Aside0.mk (Kd.R_below (Kd.R_elderB (by (with_reducible repeat (first | apply Kd.R_alloc | apply Kd.R_drewN | apply Kd.R_drew)); exact HO297.out) gb299 (Nat.le_of_eq hg.symm)) hb); have n2_ := Aside0.mk (IsS62.below (by repeat (first | (with_reducible first | exact HI288.out | apply IsS62.alloc | apply IsS62.drewN | apply IsS62.drew | apply IsS62.set_1) | exact HI288.out)) hb); have n3_ := Aside0.mk (below_step (by repeat (first | (with_reducible first | exact HB.out | apply below_alloc | apply pw_below_drewN | apply below_drew1 | refine below_set ?_ (IsS62.ge HI288.out)) | exact HB.out)) hb); have n4_ := Aside0.mk (hbox); have n5_ := Aside0.mk ((by rw [hg]; exact (below_size (by repeat (first | (with_reducible first | exact HB.out | apply below_alloc | apply pw_below_drewN | apply below_drew1 | refine below_set ?_ (IsS62.ge HI288.out)) | exact HB.out))) : w.heap.size ≤ gb299)); have n6_ := Aside0.mk ((by rw [hg]; exact (below_size (by repeat (first | (with_reducible first | exact HB.out | apply below_alloc | apply pw_below_drewN | apply below_drew1 | refine below_set ?_ (IsS62.ge HI288.out)) | exact HB.out))) : w.heap.size ≤ gb299)); have n7_ := Aside0.mk ((by rw [hg]; exact Nat.ne_of_lt (IsS62.lt (show IsS62 w _ g288 t286 t298 from by repeat (first | (with_reducible first | exact HI288.out | apply IsS62.alloc | apply IsS62.drewN | apply IsS62.drew | apply IsS62.set_1) | exact HI288.out))) : g288 ≠ gb299)); have n8_ := Aside0.mk ((by rw [hg]; exact Nat.ne_of_gt (IsS62.lt (show IsS62 w _ g288 t286 t298 from by repeat (first | (with_reducible first | exact HI288.out | apply IsS62.alloc | apply IsS62.drewN | apply IsS62.drew | apply IsS62.set_1) | exact HI288.out))) : gb299 ≠ g288)); clear HO294; clear HO297; clear HI288; clear HB; have HO294 := n0_; have HO297 := n1_; have HI288 := n2_; have HB := n3_; have BK299 := n4_; have GW299 := n5_; have GE299 := n6_; have NB288_299 := n7_; have NB299_288 := n8_; clear n0_ n1_ n2_ n3_ n4_ n5_ n6_ n7_ n8_; clear hb hbox hg; have hnb14 := NB299_288.out; have hnc14 := NB288_299.out; have hcz15_0 : w13.cell? ⟨gb299, 0, none⟩ = some (.int .i64 0) := (blk_cell BK299.out 0).trans rfl; have hcz15_1 : w13.cell? ⟨gb299, 1, none⟩ = some (.slice none 0 0) := (blk_cell BK299.out 1).trans rfl; have hcz15_2 : w13.cell? ⟨gb299, 2, none⟩ = some (.slice none 0 0) := (blk_cell BK299.out 2).trans rfl; have hfz15_0 := blk_frozen BK299.out 0; have hfz15_1 := blk_frozen BK299.out 1; have hfz15_2 := blk_frozen BK299.out 2; obtain ⟨Ao16, co16, eo16⟩ := Kd.R_slice HO294.out; subst eo16; obtain ⟨Ao17, co17, eo17⟩ := Kd.R_slice HO297.out; subst eo17) | ((with_reducible refine gate_callee (f := 15) rfl ?_); refine goesL_ (some 18) rfl rfl Try.func15 (by kernel_rfl) rfl #[.pointer (some ⟨g288, 0, none⟩), .int .i64 10] rfl (by (try simp only [List.map_toArray, List.map_cons, List.map_nil]); first | done | rfl | (simp only [List.length_drop, List.length_take]; rfl)) ?_; (with_reducible refine (trustquorummake_Tape_N.calls g288 t286 t298 10 t300 t301 w _ ?side1 ?side2 A5.out).mono ?_); (case side1 => repeat (first | (with_reducible first | exact HI288.out | apply IsS62.alloc | apply IsS62.drewN | apply IsS62.drew | apply IsS62.set_1 | refine IsS62.far ?_ NB288_299.out _) | exact HI288.out)); (case side2 => repeat (first | (with_reducible first | exact HB.out | apply below_alloc | apply pw_below_drewN | apply below_drew1 | refine below_set ?_ (IsS62.ge HI288.out) | refine below_set ?_ GE299.out) | exact HB.out)); rintro e w18 ⟨rfl, hi, hb, hk⟩; refine ⟨_, rfl, ?_⟩; have n0_ := Aside0.mk (Kd.R_mono (Kd.R_keep (IsS62.apart (show IsS62 w _ g288 t286 t298 from by repeat (first | (with_reducible first | exact HI288.out | apply IsS62.alloc | apply IsS62.drewN | apply IsS62.drew | apply IsS62.set_1 | refine IsS62.far ?_ NB288_299.out _) | exact HI288.out)) (by (with_reducible repeat (first | apply Kd.R_alloc | apply Kd.R_drewN | apply Kd.R_drew)); exact (Kd.R_mono (Kd.R_far (p := ⟨gb299, 2, none⟩) (Kd.R_far (p := ⟨gb299, 1, none⟩) (Kd.R_far (p := ⟨gb299, 0, none⟩) (Kd.R_types HO294.out BK299.out (by decide)) (fun _ hk => hk.2) (.int .i64 t291)) (fun _ hk => hk.2) (.slice Ao16 t292.length co16)) (fun _ hk => hk.2) (.slice Ao17 t295.length co17)) (fun _ h_ => h_.1))) (by decide)) hk (fun _ h => h.2)) (fun _ h => h.1)); have n1_ := Aside0.mk (Kd.R_mono (Kd.R_keep (IsS62.apart (show IsS62 w _ g288 t286 t298 from by repeat (first | (with_reducible first | exact HI288.out | apply IsS62.alloc | apply IsS62.drewN | apply IsS62.drew | apply IsS62.set_1 | refine IsS62.far ?_ NB288_299.out _) | exact HI288.out)) (by (with_reducible repeat (first | apply Kd.R_alloc | apply Kd.R_drewN | apply Kd.R_drew)); exact (Kd.R_mono (Kd.R_far (p := ⟨gb299, 2, none⟩) (Kd.R_far (p := ⟨gb299, 1, none⟩) (Kd.R_far (p := ⟨gb299, 0, none⟩) (Kd.R_mono HO297.out (fun k_ hk => (⟨hk, hk.2⟩ : _ ∧ k_ ≠ gb299))) (fun _ hk => hk.2) (.int .i64 t291)) (fun _ hk => hk.2) (.slice Ao16 t292.length co16)) (fun _ hk => hk.2) (.slice Ao17 t295.length co17)) (fun _ h_ => h_.1))) (by decide)) hk (fun _ h => h.2)) (fun _ h => h.1)); have n2_ := Aside0.mk (KeepBut.blk hk (g' := gb299) (o := .cells #[.int .i64 t291, .slice Ao16 t292.length co16, .slice Ao17 t295.length co17] 27 (0, 0)) (by (with_reducible repeat (first | refine blk_drewN ?_ _ | refine blk_drew ?_ | refine blk_alloc ?_ _)); refine blk_put (cs := #[.int .i64 t291, .slice Ao16 t292.length co16, .slice none 0 0]) ?_ 2 _ rfl; (with_reducible repeat (first | refine blk_drewN ?_ _ | refine blk_drew ?_ | refine blk_alloc ?_ _)); refine blk_put (cs := #[.int .i64 t291, .slice none 0 0, .slice none 0 0]) ?_ 1 _ rfl; (with_reducible repeat (first | refine blk_drewN ?_ _ | refine blk_drew ?_ | refine blk_alloc ?_ _)); refine blk_put (cs := #[.int .i64 0, .slice none 0 0, .slice none 0 0]) ?_ 0 _ rfl; (with_reducible repeat (first | refine blk_drewN ?_ _ | refine blk_drew ?_ | refine blk_alloc ?_ _)); exact BK299.out) NB299_288.out (by simp)); have n3_ := Aside0.mk (hb); have n4_ := Aside0.mk (hi); clear HO294; clear HO297; clear BK299; clear HB; clear HI288; have HO294 := n0_; have HO297 := n1_; have BK299 := n2_; have HB := n3_; have HI288 := n4_; clear n0_ n1_ n2_ n3_ n4_; (try clear hb); (try clear hb2); (try clear hk); (try clear hi)) | ((with_reducible refine gate_callee (f := 15) rfl ?_); refine goesL_ (some 20) rfl rfl Try.func15 (by kernel_rfl) rfl #[.pointer (some ⟨g288, 0, none⟩), .int .i64 1000] rfl (by (try simp only [List.map_toArray, List.map_cons, List.map_nil]); first | done | rfl | (simp only [List.length_drop, List.length_take]; rfl)) ?_; (with_reducible refine (trustquorummake_Tape_N.calls g288 t286 t301 1000 t302 t303 w _ ?side1 ?side2 A6.out).mono ?_); (case side1 => repeat (first | (with_reducible first | exact HI288.out | apply IsS62.alloc | apply IsS62.drewN | apply IsS62.drew | apply IsS62.set_1 | refine IsS62.far ?_ NB288_299.out _) | exact HI288.out)); (case side2 => repeat (first | (with_reducible first | exact HB.out | apply below_alloc | apply pw_below_drewN | apply below_drew1 | refine below_set ?_ (IsS62.ge HI288.out) | refine below_set ?_ GE299.out) | exact HB.out)); rintro e w19 ⟨rfl, hi, hb, hk⟩; refine ⟨_, rfl, ?_⟩; have n0_ := Aside0.mk (Kd.R_mono (Kd.R_keep (IsS62.apart (show IsS62 w _ g288 t286 t301 from by repeat (first | (with_reducible first | exact HI288.out | apply IsS62.alloc | apply IsS62.drewN | apply IsS62.drew | apply IsS62.set_1 | refine IsS62.far ?_ NB288_299.out _) | exact HI288.out)) (by (with_reducible repeat (first | apply Kd.R_alloc | apply Kd.R_drewN | apply Kd.R_drew)); exact HO294.out) (by decide)) hk (fun _ h => h.2)) (fun _ h => h.1)); have n1_ := Aside0.mk (Kd.R_mono (Kd.R_keep (IsS62.apart (show IsS62 w _ g288 t286 t301 from by repeat (first | (with_reducible first | exact HI288.out | apply IsS62.alloc | apply IsS62.drewN | apply IsS62.drew | apply IsS62.set_1 | refine IsS62.far ?_ NB288_299.out _) | exact HI288.out)) (by (with_reducible repeat (first | apply Kd.R_alloc | apply Kd.R_drewN | apply Kd.R_drew)); exact HO297.out) (by decide)) hk (fun _ h => h.2)) (fun _ h => h.1)); have n2_ := Aside0.mk (KeepBut.blk hk (g' := gb299) (o := .cells #[.int .i64 t291, .slice Ao16 t292.length co16, .slice Ao17 t295.length co17] 27 (0, 0)) (by (with_reducible repeat (first | refine blk_drewN ?_ _ | refine blk_drew ?_ | refine blk_alloc ?_ _)); exact BK299.out) NB299_288.out (by simp)); have n3_ := Aside0.mk (hb); have n4_ := Aside0.mk (hi); clear HO294; clear HO297; clear BK299; clear HB; clear HI288; have HO294 := n0_; have HO297 := n1_; have BK299 := n2_; have HB := n3_; have HI288 := n4_; clear n0_ n1_ n2_ n3_ n4_; (try clear hb); (try clear hb2); (try clear hk); (try clear hi)) | ((with_reducible refine gate_callee (f := 10) rfl ?_); refine goesL_ (some 22) rfl rfl Try.func10 (by kernel_rfl) rfl #[.pointer (some ⟨g288, 0, none⟩), .int .i64 1, .int .i64 50] rfl (by (try simp only [List.map_toArray, List.map_cons, List.map_nil]); first | done | rfl | (simp only [List.length_drop, List.length_take]; rfl)) ?_; (with_reducible refine (trustquorummake_Tape_Range.calls g288 t286 t303 1 50 t304 t305 w _ ?side1 ?side2 A7.out).mono ?_); (case side1 => repeat (first | (with_reducible first | exact HI288.out | apply IsS62.alloc | apply IsS62.drewN | apply IsS62.drew | apply IsS62.set_1 | refine IsS62.far ?_ NB288_299.out _) | exact HI288.out)); (case side2 => repeat (first | (with_reducible first | exact HB.out | apply below_alloc | apply pw_below_drewN | apply below_drew1 | refine below_set ?_ (IsS62.ge HI288.out) | refine below_set ?_ GE299.out) | exact HB.out)); rintro e w20 ⟨rfl, hi, hb, hk⟩; refine ⟨_, rfl, ?_⟩; have n0_ := Aside0.mk (Kd.R_mono (Kd.R_keep (IsS62.apart (show IsS62 w _ g288 t286 t303 from by repeat (first | (with_reducible first | exact HI288.out | apply IsS62.alloc | apply IsS62.drewN | apply IsS62.drew | apply IsS62.set_1 | refine IsS62.far ?_ NB288_299.out _) | exact HI288.out)) (by (with_reducible repeat (first | apply Kd.R_alloc | apply Kd.R_drewN | apply Kd.R_drew)); exact HO294.out) (by decide)) hk (fun _ h => h.2)) (fun _ h => h.1)); have n1_ := Aside0.mk (Kd.R_mono (Kd.R_keep (IsS62.apart (show IsS62 w _ g288 t286 t303 from by repeat (first | (with_reducible first | exact HI288.out | apply IsS62.alloc | apply IsS62.drewN | apply IsS62.drew | apply IsS62.set_1 | refine IsS62.far ?_ NB288_299.out _) | exact HI288.out)) (by (with_reducible repeat (first | apply Kd.R_alloc | apply Kd.R_drewN | apply Kd.R_drew)); exact HO297.out) (by decide)) hk (fun _ h => h.2)) (fun _ h => h.1)); have n2_ := Aside0.mk (KeepBut.blk hk (g' := gb299) (o := .cells #[.int .i64 t291, .slice Ao16 t292.length co16, .slice Ao17 t295.length co17] 27 (0, 0)) (by (with_reducible repeat (first | refine blk_drewN ?_ _ | refine blk_drew ?_ | refine blk_alloc ?_ _)); exact BK299.out) NB299_288.out (by simp)); have n3_ := Aside0.mk (hb); have n4_ := Aside0.mk (hi); clear HO294; clear HO297; clear BK299; clear HB; clear HI288; have HO294 := n0_; have HO297 := n1_; have BK299 := n2_; have HB := n3_; have HI288 := n4_; clear n0_ n1_ n2_ n3_ n4_; (try clear hb); (try clear hb2); (try clear hk); (try clear hi); have hcz21_0 : w20.cell? ⟨gb299, 0, none⟩ = some (.int .i64 t291) := (blk_cell BK299.out 0).trans rfl; have hcz21_1 : w20.cell? ⟨gb299, 1, none⟩ = some (.slice Ao16 t292.length co16) := (blk_cell BK299.out 1).trans rfl; have hcz21_2 : w20.cell? ⟨gb299, 2, none⟩ = some (.slice Ao17 t295.length co17) := (blk_cell BK299.out 2).trans rfl; have hfz21_0 := blk_frozen BK299.out 0; have hfz21_1 := blk_frozen BK299.out 1; have hfz21_2 := blk_frozen BK299.out 2) | ((with_reducible refine gate_callee (f := 17) rfl ?_); refine goesL_ (some 28) rfl rfl Try.func17 (by kernel_rfl) rfl #[.agg #[.int .i64 t291, .slice Ao16 t292.length co16, .slice Ao17 t295.length co17], .int .i64 t300, .int .i64 t302, .int .i64 t304] rfl (by (try simp only [List.map_toArray, List.map_cons, List.map_nil]); first | done | rfl | (simp only [List.length_drop, List.length_take]; rfl)) ?_; (with_reducible refine (leaders_Choose.calls k t291 _ _ t292 _ _ t295 t300 t302 t304 t306 t307 _ ?side1 ?side2 ?side3 ?side4 A8.out).mono ?_); (case side1 => repeat (first | exact (Kd.R_reads' HO294.out).2.2 | (with_reducible refine Kd.C_alloc ?_ _) | (with_reducible refine Kd.C_drewN ?_ _) | (with_reducible refine Kd.C_drew ?_))); (case side2 => exact (Kd.R_reads' HO294.out).2.1); (case side3 => repeat (first | exact (Kd.R_reads' HO297.out).2.2 | (with_reducible refine Kd.C_alloc ?_ _) | (with_reducible refine Kd.C_drewN ?_ _) | (with_reducible refine Kd.C_drew ?_))); (case side4 => exact (Kd.R_reads' HO297.out).2.1); rintro e w22 ⟨rfl, hb⟩; refine ⟨_, rfl, ?_⟩; have n0_ := Aside0.mk (Kd.R_below (by (with_reducible repeat (first | apply Kd.R_alloc | apply Kd.R_drewN | apply Kd.R_drew)); exact HO294.out) hb); have n1_ := Aside0.mk (Kd.R_below (by (with_reducible repeat (first | apply Kd.R_alloc | apply Kd.R_drewN | apply Kd.R_drew)); exact HO297.out) hb); have n2_ := Aside0.mk (IsS62.below (by repeat (first | (with_reducible first | exact HI288.out | apply IsS62.alloc | apply IsS62.drewN | apply IsS62.drew | apply IsS62.set_1 | refine IsS62.far ?_ NB288_299.out _) | exact HI288.out)) hb); have n3_ := Aside0.mk (blk_below (g := gb299) (o := .cells #[.int .i64 t291, .slice Ao16 t292.length co16, .slice Ao17 t295.length co17] 27 (0, 0)) (by (with_reducible repeat (first | refine blk_drewN ?_ _ | refine blk_drew ?_ | refine blk_alloc ?_ _)); exact BK299.out) hb); have n4_ := Aside0.mk (below_step (by repeat (first | (with_reducible first | exact HB.out | apply below_alloc | apply pw_below_drewN | apply below_drew1 | refine below_set ?_ (IsS62.ge HI288.out) | refine below_set ?_ GE299.out) | exact HB.out)) hb); clear HO294; clear HO297; clear HI288; clear BK299; clear HB; have HO294 := n0_; have HO297 := n1_; have HI288 := n2_; have BK299 := n3_; have HB := n4_; clear n0_ n1_ n2_ n3_ n4_; (try clear hb); (try clear hb2); (try clear hk); (try clear hi)))
  (try simp only [Act.put, List.setIfInBounds_toArray, List.set_cons_zero, List.set_cons_succ])
  go_cut [62] (fun v62 wc => ∃ (kq : Nat) (x62_8 : Bool), v62 = .bool x62_8 ∧ Aside0 (trustquorumlaw21_LeadersChosen.j0 kq t300 t302 t304 t306 x62_8 t291 t292 t295 = some r) ∧ Aside0 (kq ≤ k) ∧ Aside0 (Kd.R (Kd.int .i64) 3 wc w.heap.size (fun _ => True) (.slice Ao16 t292.length co16) t292) ∧ Aside0 (Kd.R k27 27 wc w.heap.size (fun k_ => some k_ ≠ ((.slice Ao16 t292.length co16) : Value).ownBlock ∧ k_ ≠ gb299) (.slice Ao17 t295.length co17) t295) ∧ Aside0 (wc.heap[gb299]? = some (.cells #[.int .i64 t291, (.slice Ao16 t292.length co16), (.slice Ao17 t295.length co17)] 27 (0, 0))) ∧ Aside0 (Below w.heap.size w wc))
  case first =>
    have H := HC9.out
    clear HC9
    by_cases c23 : t307 = 0
    · rw [if_pos c23] at H
      have c23b0 : (t307 == 0) = true := beq_iff_eq.mpr c23
      have c23b1 : (t307 != 0) = false := bne_eq_false_iff_eq.mpr c23
      clear c23
      (first | rw [c23b0] | (simp only [i64_w, i32_w]; rw [c23b0]) | skip)
      replace H := Option.bind_eq_some_iff.mp H
      obtain ⟨t308, A240, H⟩ := H
      replace H : (if t308 = true then ((leaders_Neighbour.f k t291 t292 t295 t300 t302 t304 t300).bind fun t309 => (if t309 = true then (if t306 = t300 then (trustquorumlaw21_LeadersChosen.j0 k t300 t302 t304 t306 false t291 t292 t295) else ((trustquorumref02_Uses.f k t291 t292 t295).bind fun t310 => ((trustquorumref01_Has.f t310 t306).bind fun t311 => (trustquorumlaw21_LeadersChosen.j0 k t300 t302 t304 t306 (!t311) t291 t292 t295)))) else (trustquorumlaw21_LeadersChosen.j0 k t300 t302 t304 t306 true t291 t292 t295))) else (trustquorumlaw21_LeadersChosen.j0 k t300 t302 t304 t306 true t291 t292 t295)) = some r := H
      have A24 := Aside0.mk A240
      clear A240
      by_cases c25 : t308 = true
      · subst c25
        have H1 : ((leaders_Neighbour.f k t291 t292 t295 t300 t302 t304 t300).bind fun t309 => (if t309 = true then (if t306 = t300 then (trustquorumlaw21_LeadersChosen.j0 k t300 t302 t304 t306 false t291 t292 t295) else ((trustquorumref02_Uses.f k t291 t292 t295).bind fun t310 => ((trustquorumref01_Has.f t310 t306).bind fun t311 => (trustquorumlaw21_LeadersChosen.j0 k t300 t302 t304 t306 (!t311) t291 t292 t295)))) else (trustquorumlaw21_LeadersChosen.j0 k t300 t302 t304 t306 true t291 t292 t295))) = some r := by rw [if_pos rfl] at H; exact H
        clear H
        have H := H1
        clear H1
        replace H := Option.bind_eq_some_iff.mp H
        obtain ⟨t309, A260, H⟩ := H
        replace H : (if t309 = true then (if t306 = t300 then (trustquorumlaw21_LeadersChosen.j0 k t300 t302 t304 t306 false t291 t292 t295) else ((trustquorumref02_Uses.f k t291 t292 t295).bind fun t310 => ((trustquorumref01_Has.f t310 t306).bind fun t311 => (trustquorumlaw21_LeadersChosen.j0 k t300 t302 t304 t306 (!t311) t291 t292 t295)))) else (trustquorumlaw21_LeadersChosen.j0 k t300 t302 t304 t306 true t291 t292 t295)) = some r := H
        have A26 := Aside0.mk A260
        clear A260
        by_cases c27 : t309 = true
        · subst c27
          have H1 : (if t306 = t300 then (trustquorumlaw21_LeadersChosen.j0 k t300 t302 t304 t306 false t291 t292 t295) else ((trustquorumref02_Uses.f k t291 t292 t295).bind fun t310 => ((trustquorumref01_Has.f t310 t306).bind fun t311 => (trustquorumlaw21_LeadersChosen.j0 k t300 t302 t304 t306 (!t311) t291 t292 t295)))) = some r := by rw [if_pos rfl] at H; exact H
          clear H
          have H := H1
          clear H1
          by_cases c28 : t306 = t300
          · rw [if_pos c28] at H
            have c28b0 : (t306 == t300) = true := beq_iff_eq.mpr c28
            have c28b1 : (t306 != t300) = false := bne_eq_false_iff_eq.mpr c28
            clear c28
            have H' := Aside0.mk H
            clear H
            have hnb29 := NB299_288.out
            have hnc29 := NB288_299.out
            have hcz30_0 : w22.cell? ⟨gb299, 0, none⟩ = some (.int .i64 t291) := (blk_cell BK299.out 0).trans rfl
            have hcz30_1 : w22.cell? ⟨gb299, 1, none⟩ = some (.slice Ao16 t292.length co16) := (blk_cell BK299.out 1).trans rfl
            have hcz30_2 : w22.cell? ⟨gb299, 2, none⟩ = some (.slice Ao17 t295.length co17) := (blk_cell BK299.out 2).trans rfl
            have hfz30_0 := blk_frozen BK299.out 0
            have hfz30_1 := blk_frozen BK299.out 1
            have hfz30_2 := blk_frozen BK299.out 2
            go_wp2_with (first | (go_at_call 16; (with_reducible refine (leaders_Neighbour.calls k t291 _ _ t292 _ _ t295 t300 t302 t304 t306 true _ ?side1 ?side2 ?side3 ?side4 A24.out).mono ?_); (case side1 => repeat (first | exact (Kd.R_reads' HO294.out).2.2 | (with_reducible refine Kd.C_alloc ?_ _) | (with_reducible refine Kd.C_drewN ?_ _) | (with_reducible refine Kd.C_drew ?_))); (case side2 => exact (Kd.R_reads' HO294.out).2.1); (case side3 => repeat (first | exact (Kd.R_reads' HO297.out).2.2 | (with_reducible refine Kd.C_alloc ?_ _) | (with_reducible refine Kd.C_drewN ?_ _) | (with_reducible refine Kd.C_drew ?_))); (case side4 => exact (Kd.R_reads' HO297.out).2.1); rintro e w31 ⟨rfl, hb⟩; have n0_ := Aside0.mk (Kd.R_below (by (with_reducible repeat (first | apply Kd.R_alloc | apply Kd.R_drewN | apply Kd.R_drew)); exact HO294.out) hb); have n1_ := Aside0.mk (Kd.R_below (by (with_reducible repeat (first | apply Kd.R_alloc | apply Kd.R_drewN | apply Kd.R_drew)); exact HO297.out) hb); have n2_ := Aside0.mk (IsS62.below (by repeat (first | (with_reducible first | exact HI288.out | apply IsS62.alloc | apply IsS62.drewN | apply IsS62.drew | apply IsS62.set_1 | refine IsS62.far ?_ NB288_299.out _) | exact HI288.out)) hb); have n3_ := Aside0.mk (blk_below (g := gb299) (o := .cells #[.int .i64 t291, .slice Ao16 t292.length co16, .slice Ao17 t295.length co17] 27 (0, 0)) (by (with_reducible repeat (first | refine blk_drewN ?_ _ | refine blk_drew ?_ | refine blk_alloc ?_ _)); exact BK299.out) hb); have n4_ := Aside0.mk (below_step (by repeat (first | (with_reducible first | exact HB.out | apply below_alloc | apply pw_below_drewN | apply below_drew1 | refine below_set ?_ (IsS62.ge HI288.out) | refine below_set ?_ GE299.out) | exact HB.out)) hb); clear HO294; clear HO297; clear HI288; clear BK299; clear HB; have HO294 := n0_; have HO297 := n1_; have HI288 := n2_; have BK299 := n3_; have HB := n4_; clear n0_ n1_ n2_ n3_ n4_; (try clear hb); (try clear hb2); (try clear hk); (try clear hi); have hcz32_0 : w31.cell? ⟨gb299, 0, none⟩ = some (.int .i64 t291) := (blk_cell BK299.out 0).trans rfl; have hcz32_1 : w31.cell? ⟨gb299, 1, none⟩ = some (.slice Ao16 t292.length co16) := (blk_cell BK299.out 1).trans rfl; have hcz32_2 : w31.cell? ⟨gb299, 2, none⟩ = some (.slice Ao17 t295.length co17) := (blk_cell BK299.out 2).trans rfl; have hfz32_0 := blk_frozen BK299.out 0; have hfz32_1 := blk_frozen BK299.out 1; have hfz32_2 := blk_frozen BK299.out 2) | (go_at_call 16; (with_reducible refine (leaders_Neighbour.calls k t291 _ _ t292 _ _ t295 t300 t302 t304 t300 true _ ?side1 ?side2 ?side3 ?side4 A26.out).mono ?_); (case side1 => repeat (first | exact (Kd.R_reads' HO294.out).2.2 | (with_reducible refine Kd.C_alloc ?_ _) | (with_reducible refine Kd.C_drewN ?_ _) | (with_reducible refine Kd.C_drew ?_))); (case side2 => exact (Kd.R_reads' HO294.out).2.1); (case side3 => repeat (first | exact (Kd.R_reads' HO297.out).2.2 | (with_reducible refine Kd.C_alloc ?_ _) | (with_reducible refine Kd.C_drewN ?_ _) | (with_reducible refine Kd.C_drew ?_))); (case side4 => exact (Kd.R_reads' HO297.out).2.1); rintro e w33 ⟨rfl, hb⟩; have n0_ := Aside0.mk (Kd.R_below (by (with_reducible repeat (first | apply Kd.R_alloc | apply Kd.R_drewN | apply Kd.R_drew)); exact HO294.out) hb); have n1_ := Aside0.mk (Kd.R_below (by (with_reducible repeat (first | apply Kd.R_alloc | apply Kd.R_drewN | apply Kd.R_drew)); exact HO297.out) hb); have n2_ := Aside0.mk (IsS62.below (by repeat (first | (with_reducible first | exact HI288.out | apply IsS62.alloc | apply IsS62.drewN | apply IsS62.drew | apply IsS62.set_1 | refine IsS62.far ?_ NB288_299.out _) | exact HI288.out)) hb); have n3_ := Aside0.mk (blk_below (g := gb299) (o := .cells #[.int .i64 t291, .slice Ao16 t292.length co16, .slice Ao17 t295.length co17] 27 (0, 0)) (by (with_reducible repeat (first | refine blk_drewN ?_ _ | refine blk_drew ?_ | refine blk_alloc ?_ _)); exact BK299.out) hb); have n4_ := Aside0.mk (below_step (by repeat (first | (with_reducible first | exact HB.out | apply below_alloc | apply pw_below_drewN | apply below_drew1 | refine below_set ?_ (IsS62.ge HI288.out) | refine below_set ?_ GE299.out) | exact HB.out)) hb); clear HO294; clear HO297; clear HI288; clear BK299; clear HB; have HO294 := n0_; have HO297 := n1_; have HI288 := n2_; have BK299 := n3_; have HB := n4_; clear n0_ n1_ n2_ n3_ n4_; (try clear hb); (try clear hb2); (try clear hk); (try clear hi)))
            go_meet
            case rel => exact ⟨_, (false), (by first | rfl | (simp; done) | (simp [*]; done)), H', ⟨by first | omega | exact Nat.le_refl _⟩, ⟨by (with_reducible repeat (first | apply Kd.R_alloc | apply Kd.R_drewN | apply Kd.R_drew)); exact HO294.out⟩, ⟨by (with_reducible repeat (first | apply Kd.R_alloc | apply Kd.R_drewN | apply Kd.R_drew)); exact HO297.out⟩, ⟨by (with_reducible repeat (first | refine blk_drewN ?_ _ | refine blk_drew ?_ | refine blk_alloc ?_ _)); exact BK299.out⟩, ⟨by repeat (first | (with_reducible first | exact HB.out | apply below_alloc | apply pw_below_drewN | apply below_drew1 | refine below_set ?_ (IsS62.ge HI288.out) | refine below_set ?_ GE299.out) | exact HB.out)⟩⟩
          · rw [if_neg c28] at H
            have c28b0 : (t306 == t300) = false := beq_eq_false_iff_ne.mpr c28
            have c28b1 : (t306 != t300) = true := bne_iff_ne.mpr c28
            replace H := Option.bind_eq_some_iff.mp H
            obtain ⟨t310, A340, H⟩ := H
            replace H : ((trustquorumref01_Has.f t310 t306).bind fun t311 => (trustquorumlaw21_LeadersChosen.j0 k t300 t302 t304 t306 (!t311) t291 t292 t295)) = some r := H
            have A34 := Aside0.mk A340
            clear A340
            replace H := Option.bind_eq_some_iff.mp H
            obtain ⟨t311, A350, H⟩ := H
            replace H : (trustquorumlaw21_LeadersChosen.j0 k t300 t302 t304 t306 (!t311) t291 t292 t295) = some r := H
            have A35 := Aside0.mk A350
            clear A350
            have H' := Aside0.mk H
            clear H
            have hnb36 := NB299_288.out
            have hnc36 := NB288_299.out
            have hcz37_0 : w22.cell? ⟨gb299, 0, none⟩ = some (.int .i64 t291) := (blk_cell BK299.out 0).trans rfl
            have hcz37_1 : w22.cell? ⟨gb299, 1, none⟩ = some (.slice Ao16 t292.length co16) := (blk_cell BK299.out 1).trans rfl
            have hcz37_2 : w22.cell? ⟨gb299, 2, none⟩ = some (.slice Ao17 t295.length co17) := (blk_cell BK299.out 2).trans rfl
            have hfz37_0 := blk_frozen BK299.out 0
            have hfz37_1 := blk_frozen BK299.out 1
            have hfz37_2 := blk_frozen BK299.out 2
            go_wp2_with (first | (go_at_call 16; (with_reducible refine (leaders_Neighbour.calls k t291 _ _ t292 _ _ t295 t300 t302 t304 t306 true _ ?side1 ?side2 ?side3 ?side4 A24.out).mono ?_); (case side1 => repeat (first | exact (Kd.R_reads' HO294.out).2.2 | (with_reducible refine Kd.C_alloc ?_ _) | (with_reducible refine Kd.C_drewN ?_ _) | (with_reducible refine Kd.C_drew ?_))); (case side2 => exact (Kd.R_reads' HO294.out).2.1); (case side3 => repeat (first | exact (Kd.R_reads' HO297.out).2.2 | (with_reducible refine Kd.C_alloc ?_ _) | (with_reducible refine Kd.C_drewN ?_ _) | (with_reducible refine Kd.C_drew ?_))); (case side4 => exact (Kd.R_reads' HO297.out).2.1); rintro e w38 ⟨rfl, hb⟩; have n0_ := Aside0.mk (Kd.R_below (by (with_reducible repeat (first | apply Kd.R_alloc | apply Kd.R_drewN | apply Kd.R_drew)); exact HO294.out) hb); have n1_ := Aside0.mk (Kd.R_below (by (with_reducible repeat (first | apply Kd.R_alloc | apply Kd.R_drewN | apply Kd.R_drew)); exact HO297.out) hb); have n2_ := Aside0.mk (IsS62.below (by repeat (first | (with_reducible first | exact HI288.out | apply IsS62.alloc | apply IsS62.drewN | apply IsS62.drew | apply IsS62.set_1 | refine IsS62.far ?_ NB288_299.out _) | exact HI288.out)) hb); have n3_ := Aside0.mk (blk_below (g := gb299) (o := .cells #[.int .i64 t291, .slice Ao16 t292.length co16, .slice Ao17 t295.length co17] 27 (0, 0)) (by (with_reducible repeat (first | refine blk_drewN ?_ _ | refine blk_drew ?_ | refine blk_alloc ?_ _)); exact BK299.out) hb); have n4_ := Aside0.mk (below_step (by repeat (first | (with_reducible first | exact HB.out | apply below_alloc | apply pw_below_drewN | apply below_drew1 | refine below_set ?_ (IsS62.ge HI288.out) | refine below_set ?_ GE299.out) | exact HB.out)) hb); clear HO294; clear HO297; clear HI288; clear BK299; clear HB; have HO294 := n0_; have HO297 := n1_; have HI288 := n2_; have BK299 := n3_; have HB := n4_; clear n0_ n1_ n2_ n3_ n4_; (try clear hb); (try clear hb2); (try clear hk); (try clear hi); have hcz39_0 : w38.cell? ⟨gb299, 0, none⟩ = some (.int .i64 t291) := (blk_cell BK299.out 0).trans rfl; have hcz39_1 : w38.cell? ⟨gb299, 1, none⟩ = some (.slice Ao16 t292.length co16) := (blk_cell BK299.out 1).trans rfl; have hcz39_2 : w38.cell? ⟨gb299, 2, none⟩ = some (.slice Ao17 t295.length co17) := (blk_cell BK299.out 2).trans rfl; have hfz39_0 := blk_frozen BK299.out 0; have hfz39_1 := blk_frozen BK299.out 1; have hfz39_2 := blk_frozen BK299.out 2) | (go_at_call 16; (with_reducible refine (leaders_Neighbour.calls k t291 _ _ t292 _ _ t295 t300 t302 t304 t300 true _ ?side1 ?side2 ?side3 ?side4 A26.out).mono ?_); (case side1 => repeat (first | exact (Kd.R_reads' HO294.out).2.2 | (with_reducible refine Kd.C_alloc ?_ _) | (with_reducible refine Kd.C_drewN ?_ _) | (with_reducible refine Kd.C_drew ?_))); (case side2 => exact (Kd.R_reads' HO294.out).2.1); (case side3 => repeat (first | exact (Kd.R_reads' HO297.out).2.2 | (with_reducible refine Kd.C_alloc ?_ _) | (with_reducible refine Kd.C_drewN ?_ _) | (with_reducible refine Kd.C_drew ?_))); (case side4 => exact (Kd.R_reads' HO297.out).2.1); rintro e w40 ⟨rfl, hb⟩; have n0_ := Aside0.mk (Kd.R_below (by (with_reducible repeat (first | apply Kd.R_alloc | apply Kd.R_drewN | apply Kd.R_drew)); exact HO294.out) hb); have n1_ := Aside0.mk (Kd.R_below (by (with_reducible repeat (first | apply Kd.R_alloc | apply Kd.R_drewN | apply Kd.R_drew)); exact HO297.out) hb); have n2_ := Aside0.mk (IsS62.below (by repeat (first | (with_reducible first | exact HI288.out | apply IsS62.alloc | apply IsS62.drewN | apply IsS62.drew | apply IsS62.set_1 | refine IsS62.far ?_ NB288_299.out _) | exact HI288.out)) hb); have n3_ := Aside0.mk (blk_below (g := gb299) (o := .cells #[.int .i64 t291, .slice Ao16 t292.length co16, .slice Ao17 t295.length co17] 27 (0, 0)) (by (with_reducible repeat (first | refine blk_drewN ?_ _ | refine blk_drew ?_ | refine blk_alloc ?_ _)); exact BK299.out) hb); have n4_ := Aside0.mk (below_step (by repeat (first | (with_reducible first | exact HB.out | apply below_alloc | apply pw_below_drewN | apply below_drew1 | refine below_set ?_ (IsS62.ge HI288.out) | refine below_set ?_ GE299.out) | exact HB.out)) hb); clear HO294; clear HO297; clear HI288; clear BK299; clear HB; have HO294 := n0_; have HO297 := n1_; have HI288 := n2_; have BK299 := n3_; have HB := n4_; clear n0_ n1_ n2_ n3_ n4_; (try clear hb); (try clear hb2); (try clear hk); (try clear hi); have hcz41_0 : w40.cell? ⟨gb299, 0, none⟩ = some (.int .i64 t291) := (blk_cell BK299.out 0).trans rfl; have hcz41_1 : w40.cell? ⟨gb299, 1, none⟩ = some (.slice Ao16 t292.length co16) := (blk_cell BK299.out 1).trans rfl; have hcz41_2 : w40.cell? ⟨gb299, 2, none⟩ = some (.slice Ao17 t295.length co17) := (blk_cell BK299.out 2).trans rfl; have hfz41_0 := blk_frozen BK299.out 0; have hfz41_1 := blk_frozen BK299.out 1; have hfz41_2 := blk_frozen BK299.out 2) | (go_at_call 13; (with_reducible refine (trustquorumref02_Uses.calls k t291 _ _ t292 _ _ t295 t310 _ ?side1 ?side2 ?side3 ?side4 A34.out).mono ?_); (case side1 => repeat (first | exact (Kd.R_reads' HO294.out).2.2 | (with_reducible refine Kd.C_alloc ?_ _) | (with_reducible refine Kd.C_drewN ?_ _) | (with_reducible refine Kd.C_drew ?_))); (case side2 => exact (Kd.R_reads' HO294.out).2.1); (case side3 => repeat (first | exact (Kd.R_reads' HO297.out).2.2 | (with_reducible refine Kd.C_alloc ?_ _) | (with_reducible refine Kd.C_drewN ?_ _) | (with_reducible refine Kd.C_drew ?_))); (case side4 => exact (Kd.R_reads' HO297.out).2.1); rintro e w42 ⟨rfl, hb⟩; have n0_ := Aside0.mk (Kd.R_below (by (with_reducible repeat (first | apply Kd.R_alloc | apply Kd.R_drewN | apply Kd.R_drew)); exact HO294.out) hb); have n1_ := Aside0.mk (Kd.R_below (by (with_reducible repeat (first | apply Kd.R_alloc | apply Kd.R_drewN | apply Kd.R_drew)); exact HO297.out) hb); have n2_ := Aside0.mk (IsS62.below (by repeat (first | (with_reducible first | exact HI288.out | apply IsS62.alloc | apply IsS62.drewN | apply IsS62.drew | apply IsS62.set_1 | refine IsS62.far ?_ NB288_299.out _) | exact HI288.out)) hb); have n3_ := Aside0.mk (blk_below (g := gb299) (o := .cells #[.int .i64 t291, .slice Ao16 t292.length co16, .slice Ao17 t295.length co17] 27 (0, 0)) (by (with_reducible repeat (first | refine blk_drewN ?_ _ | refine blk_drew ?_ | refine blk_alloc ?_ _)); exact BK299.out) hb); have n4_ := Aside0.mk (below_step (by repeat (first | (with_reducible first | exact HB.out | apply below_alloc | apply pw_below_drewN | apply below_drew1 | refine below_set ?_ (IsS62.ge HI288.out) | refine below_set ?_ GE299.out) | exact HB.out)) hb); clear HO294; clear HO297; clear HI288; clear BK299; clear HB; have HO294 := n0_; have HO297 := n1_; have HI288 := n2_; have BK299 := n3_; have HB := n4_; clear n0_ n1_ n2_ n3_ n4_; (try clear hb); (try clear hb2); (try clear hk); (try clear hi)) | (go_at_call 12; (with_reducible refine (trustquorumref01_Has.calls t310 t306 t311 _ A35.out).mono ?_); rintro e w' ⟨rfl, ⟨nd, rfl⟩⟩))
            go_meet
            case rel => exact ⟨_, (!t311), (by first | rfl | (simp; done) | (simp [*]; done)), H', ⟨by first | omega | exact Nat.le_refl _⟩, ⟨by (with_reducible repeat (first | apply Kd.R_alloc | apply Kd.R_drewN | apply Kd.R_drew)); exact HO294.out⟩, ⟨by (with_reducible repeat (first | apply Kd.R_alloc | apply Kd.R_drewN | apply Kd.R_drew)); exact HO297.out⟩, ⟨by (with_reducible repeat (first | refine blk_drewN ?_ _ | refine blk_drew ?_ | refine blk_alloc ?_ _)); exact BK299.out⟩, ⟨by repeat (first | (with_reducible first | exact HB.out | apply below_alloc | apply pw_below_drewN | apply below_drew1 | refine below_set ?_ (IsS62.ge HI288.out) | refine below_set ?_ GE299.out) | exact HB.out)⟩⟩
        · replace c27 := Bool.eq_false_iff.mpr c27
          subst c27
          have H1 : (trustquorumlaw21_LeadersChosen.j0 k t300 t302 t304 t306 true t291 t292 t295) = some r := by rw [if_neg (show ¬ (false = true) by decide)] at H; exact H
          clear H
          have H := H1
          clear H1
          have H' := Aside0.mk H
          clear H
          have hnb43 := NB299_288.out
          have hnc43 := NB288_299.out
          have hcz44_0 : w22.cell? ⟨gb299, 0, none⟩ = some (.int .i64 t291) := (blk_cell BK299.out 0).trans rfl
          have hcz44_1 : w22.cell? ⟨gb299, 1, none⟩ = some (.slice Ao16 t292.length co16) := (blk_cell BK299.out 1).trans rfl
          have hcz44_2 : w22.cell? ⟨gb299, 2, none⟩ = some (.slice Ao17 t295.length co17) := (blk_cell BK299.out 2).trans rfl
          have hfz44_0 := blk_frozen BK299.out 0
          have hfz44_1 := blk_frozen BK299.out 1
          have hfz44_2 := blk_frozen BK299.out 2
          go_wp2_with (first | (go_at_call 16; (with_reducible refine (leaders_Neighbour.calls k t291 _ _ t292 _ _ t295 t300 t302 t304 t306 true _ ?side1 ?side2 ?side3 ?side4 A24.out).mono ?_); (case side1 => repeat (first | exact (Kd.R_reads' HO294.out).2.2 | (with_reducible refine Kd.C_alloc ?_ _) | (with_reducible refine Kd.C_drewN ?_ _) | (with_reducible refine Kd.C_drew ?_))); (case side2 => exact (Kd.R_reads' HO294.out).2.1); (case side3 => repeat (first | exact (Kd.R_reads' HO297.out).2.2 | (with_reducible refine Kd.C_alloc ?_ _) | (with_reducible refine Kd.C_drewN ?_ _) | (with_reducible refine Kd.C_drew ?_))); (case side4 => exact (Kd.R_reads' HO297.out).2.1); rintro e w45 ⟨rfl, hb⟩; have n0_ := Aside0.mk (Kd.R_below (by (with_reducible repeat (first | apply Kd.R_alloc | apply Kd.R_drewN | apply Kd.R_drew)); exact HO294.out) hb); have n1_ := Aside0.mk (Kd.R_below (by (with_reducible repeat (first | apply Kd.R_alloc | apply Kd.R_drewN | apply Kd.R_drew)); exact HO297.out) hb); have n2_ := Aside0.mk (IsS62.below (by repeat (first | (with_reducible first | exact HI288.out | apply IsS62.alloc | apply IsS62.drewN | apply IsS62.drew | apply IsS62.set_1 | refine IsS62.far ?_ NB288_299.out _) | exact HI288.out)) hb); have n3_ := Aside0.mk (blk_below (g := gb299) (o := .cells #[.int .i64 t291, .slice Ao16 t292.length co16, .slice Ao17 t295.length co17] 27 (0, 0)) (by (with_reducible repeat (first | refine blk_drewN ?_ _ | refine blk_drew ?_ | refine blk_alloc ?_ _)); exact BK299.out) hb); have n4_ := Aside0.mk (below_step (by repeat (first | (with_reducible first | exact HB.out | apply below_alloc | apply pw_below_drewN | apply below_drew1 | refine below_set ?_ (IsS62.ge HI288.out) | refine below_set ?_ GE299.out) | exact HB.out)) hb); clear HO294; clear HO297; clear HI288; clear BK299; clear HB; have HO294 := n0_; have HO297 := n1_; have HI288 := n2_; have BK299 := n3_; have HB := n4_; clear n0_ n1_ n2_ n3_ n4_; (try clear hb); (try clear hb2); (try clear hk); (try clear hi); have hcz46_0 : w45.cell? ⟨gb299, 0, none⟩ = some (.int .i64 t291) := (blk_cell BK299.out 0).trans rfl; have hcz46_1 : w45.cell? ⟨gb299, 1, none⟩ = some (.slice Ao16 t292.length co16) := (blk_cell BK299.out 1).trans rfl; have hcz46_2 : w45.cell? ⟨gb299, 2, none⟩ = some (.slice Ao17 t295.length co17) := (blk_cell BK299.out 2).trans rfl; have hfz46_0 := blk_frozen BK299.out 0; have hfz46_1 := blk_frozen BK299.out 1; have hfz46_2 := blk_frozen BK299.out 2) | (go_at_call 16; (with_reducible refine (leaders_Neighbour.calls k t291 _ _ t292 _ _ t295 t300 t302 t304 t300 false _ ?side1 ?side2 ?side3 ?side4 A26.out).mono ?_); (case side1 => repeat (first | exact (Kd.R_reads' HO294.out).2.2 | (with_reducible refine Kd.C_alloc ?_ _) | (with_reducible refine Kd.C_drewN ?_ _) | (with_reducible refine Kd.C_drew ?_))); (case side2 => exact (Kd.R_reads' HO294.out).2.1); (case side3 => repeat (first | exact (Kd.R_reads' HO297.out).2.2 | (with_reducible refine Kd.C_alloc ?_ _) | (with_reducible refine Kd.C_drewN ?_ _) | (with_reducible refine Kd.C_drew ?_))); (case side4 => exact (Kd.R_reads' HO297.out).2.1); rintro e w47 ⟨rfl, hb⟩; have n0_ := Aside0.mk (Kd.R_below (by (with_reducible repeat (first | apply Kd.R_alloc | apply Kd.R_drewN | apply Kd.R_drew)); exact HO294.out) hb); have n1_ := Aside0.mk (Kd.R_below (by (with_reducible repeat (first | apply Kd.R_alloc | apply Kd.R_drewN | apply Kd.R_drew)); exact HO297.out) hb); have n2_ := Aside0.mk (IsS62.below (by repeat (first | (with_reducible first | exact HI288.out | apply IsS62.alloc | apply IsS62.drewN | apply IsS62.drew | apply IsS62.set_1 | refine IsS62.far ?_ NB288_299.out _) | exact HI288.out)) hb); have n3_ := Aside0.mk (blk_below (g := gb299) (o := .cells #[.int .i64 t291, .slice Ao16 t292.length co16, .slice Ao17 t295.length co17] 27 (0, 0)) (by (with_reducible repeat (first | refine blk_drewN ?_ _ | refine blk_drew ?_ | refine blk_alloc ?_ _)); exact BK299.out) hb); have n4_ := Aside0.mk (below_step (by repeat (first | (with_reducible first | exact HB.out | apply below_alloc | apply pw_below_drewN | apply below_drew1 | refine below_set ?_ (IsS62.ge HI288.out) | refine below_set ?_ GE299.out) | exact HB.out)) hb); clear HO294; clear HO297; clear HI288; clear BK299; clear HB; have HO294 := n0_; have HO297 := n1_; have HI288 := n2_; have BK299 := n3_; have HB := n4_; clear n0_ n1_ n2_ n3_ n4_; (try clear hb); (try clear hb2); (try clear hk); (try clear hi)))
          go_meet
          case rel => exact ⟨_, (true), (by first | rfl | (simp; done) | (simp [*]; done)), H', ⟨by first | omega | exact Nat.le_refl _⟩, ⟨by (with_reducible repeat (first | apply Kd.R_alloc | apply Kd.R_drewN | apply Kd.R_drew)); exact HO294.out⟩, ⟨by (with_reducible repeat (first | apply Kd.R_alloc | apply Kd.R_drewN | apply Kd.R_drew)); exact HO297.out⟩, ⟨by (with_reducible repeat (first | refine blk_drewN ?_ _ | refine blk_drew ?_ | refine blk_alloc ?_ _)); exact BK299.out⟩, ⟨by repeat (first | (with_reducible first | exact HB.out | apply below_alloc | apply pw_below_drewN | apply below_drew1 | refine below_set ?_ (IsS62.ge HI288.out) | refine below_set ?_ GE299.out) | exact HB.out)⟩⟩
      · replace c25 := Bool.eq_false_iff.mpr c25
        subst c25
        have H1 : (trustquorumlaw21_LeadersChosen.j0 k t300 t302 t304 t306 true t291 t292 t295) = some r := by rw [if_neg (show ¬ (false = true) by decide)] at H; exact H
        clear H
        have H := H1
        clear H1
        have H' := Aside0.mk H
        clear H
        have hnb48 := NB299_288.out
        have hnc48 := NB288_299.out
        have hcz49_0 : w22.cell? ⟨gb299, 0, none⟩ = some (.int .i64 t291) := (blk_cell BK299.out 0).trans rfl
        have hcz49_1 : w22.cell? ⟨gb299, 1, none⟩ = some (.slice Ao16 t292.length co16) := (blk_cell BK299.out 1).trans rfl
        have hcz49_2 : w22.cell? ⟨gb299, 2, none⟩ = some (.slice Ao17 t295.length co17) := (blk_cell BK299.out 2).trans rfl
        have hfz49_0 := blk_frozen BK299.out 0
        have hfz49_1 := blk_frozen BK299.out 1
        have hfz49_2 := blk_frozen BK299.out 2
        go_wp2_with (first | (go_at_call 16; (with_reducible refine (leaders_Neighbour.calls k t291 _ _ t292 _ _ t295 t300 t302 t304 t306 false _ ?side1 ?side2 ?side3 ?side4 A24.out).mono ?_); (case side1 => repeat (first | exact (Kd.R_reads' HO294.out).2.2 | (with_reducible refine Kd.C_alloc ?_ _) | (with_reducible refine Kd.C_drewN ?_ _) | (with_reducible refine Kd.C_drew ?_))); (case side2 => exact (Kd.R_reads' HO294.out).2.1); (case side3 => repeat (first | exact (Kd.R_reads' HO297.out).2.2 | (with_reducible refine Kd.C_alloc ?_ _) | (with_reducible refine Kd.C_drewN ?_ _) | (with_reducible refine Kd.C_drew ?_))); (case side4 => exact (Kd.R_reads' HO297.out).2.1); rintro e w50 ⟨rfl, hb⟩; have n0_ := Aside0.mk (Kd.R_below (by (with_reducible repeat (first | apply Kd.R_alloc | apply Kd.R_drewN | apply Kd.R_drew)); exact HO294.out) hb); have n1_ := Aside0.mk (Kd.R_below (by (with_reducible repeat (first | apply Kd.R_alloc | apply Kd.R_drewN | apply Kd.R_drew)); exact HO297.out) hb); have n2_ := Aside0.mk (IsS62.below (by repeat (first | (with_reducible first | exact HI288.out | apply IsS62.alloc | apply IsS62.drewN | apply IsS62.drew | apply IsS62.set_1 | refine IsS62.far ?_ NB288_299.out _) | exact HI288.out)) hb); have n3_ := Aside0.mk (blk_below (g := gb299) (o := .cells #[.int .i64 t291, .slice Ao16 t292.length co16, .slice Ao17 t295.length co17] 27 (0, 0)) (by (with_reducible repeat (first | refine blk_drewN ?_ _ | refine blk_drew ?_ | refine blk_alloc ?_ _)); exact BK299.out) hb); have n4_ := Aside0.mk (below_step (by repeat (first | (with_reducible first | exact HB.out | apply below_alloc | apply pw_below_drewN | apply below_drew1 | refine below_set ?_ (IsS62.ge HI288.out) | refine below_set ?_ GE299.out) | exact HB.out)) hb); clear HO294; clear HO297; clear HI288; clear BK299; clear HB; have HO294 := n0_; have HO297 := n1_; have HI288 := n2_; have BK299 := n3_; have HB := n4_; clear n0_ n1_ n2_ n3_ n4_; (try clear hb); (try clear hb2); (try clear hk); (try clear hi)))
        go_meet
        case rel => exact ⟨_, (true), (by first | rfl | (simp; done) | (simp [*]; done)), H', ⟨by first | omega | exact Nat.le_refl _⟩, ⟨by (with_reducible repeat (first | apply Kd.R_alloc | apply Kd.R_drewN | apply Kd.R_drew)); exact HO294.out⟩, ⟨by (with_reducible repeat (first | apply Kd.R_alloc | apply Kd.R_drewN | apply Kd.R_drew)); exact HO297.out⟩, ⟨by (with_reducible repeat (first | refine blk_drewN ?_ _ | refine blk_drew ?_ | refine blk_alloc ?_ _)); exact BK299.out⟩, ⟨by repeat (first | (with_reducible first | exact HB.out | apply below_alloc | apply pw_below_drewN | apply below_drew1 | refine below_set ?_ (IsS62.ge HI288.out) | refine below_set ?_ GE299.out) | exact HB.out)⟩⟩
    · rw [if_neg c23] at H
      have c23b0 : (t307 == 0) = false := beq_eq_false_iff_ne.mpr c23
      have c23b1 : (t307 != 0) = true := bne_iff_ne.mpr c23
      (first | rw [c23b0] | (simp only [i64_w, i32_w]; rw [c23b0]) | skip)
      have H' := Aside0.mk H
      clear H
      go_wp2
      go_meet
      case rel => exact ⟨_, (true), (by first | rfl | (simp; done) | (simp [*]; done)), H', ⟨by first | omega | exact Nat.le_refl _⟩, ⟨by (with_reducible repeat (first | apply Kd.R_alloc | apply Kd.R_drewN | apply Kd.R_drew)); exact HO294.out⟩, ⟨by (with_reducible repeat (first | apply Kd.R_alloc | apply Kd.R_drewN | apply Kd.R_drew)); exact HO297.out⟩, ⟨by (with_reducible repeat (first | refine blk_drewN ?_ _ | refine blk_drew ?_ | refine blk_alloc ?_ _)); exact BK299.out⟩, ⟨by repeat (first | (with_reducible first | exact HB.out | apply below_alloc | apply pw_below_drewN | apply below_drew1 | refine below_set ?_ (IsS62.ge HI288.out) | refine below_set ?_ GE299.out) | exact HB.out)⟩⟩
  case rest =>
    clear HC9
    try clear c1
    try clear c2
    try clear p2
    try clear c3
    try clear c4
    try clear c5
    try clear c8
    try clear c9
    try clear c10
    try clear c14
    try clear c15
    try clear c17
    try clear c23
    try clear c23b0
    try clear c23b1
    try clear c25
    try clear c27
    try clear c28
    try clear c28b0
    try clear c28b1
    try clear c29
    try clear c36
    try clear c43
    try clear c48
    try clear hcz15_0
    try clear hcz15_1
    try clear hcz15_2
    try clear hcz21_0
    try clear hcz21_1
    try clear hcz21_2
    try clear hcz30_0
    try clear hcz30_1
    try clear hcz30_2
    try clear hcz32_0
    try clear hcz32_1
    try clear hcz32_2
    try clear hcz37_0
    try clear hcz37_1
    try clear hcz37_2
    try clear hcz39_0
    try clear hcz39_1
    try clear hcz39_2
    try clear hcz41_0
    try clear hcz41_1
    try clear hcz41_2
    try clear hcz44_0
    try clear hcz44_1
    try clear hcz44_2
    try clear hcz46_0
    try clear hcz46_1
    try clear hcz46_2
    try clear hcz49_0
    try clear hcz49_1
    try clear hcz49_2
    try clear hfz15_0
    try clear hfz15_1
    try clear hfz15_2
    try clear hfz21_0
    try clear hfz21_1
    try clear hfz21_2
    try clear hfz30_0
    try clear hfz30_1
    try clear hfz30_2
    try clear hfz32_0
    try clear hfz32_1
    try clear hfz32_2
    try clear hfz37_0
    try clear hfz37_1
    try clear hfz37_2
    try clear hfz39_0
    try clear hfz39_1
    try clear hfz39_2
    try clear hfz41_0
    try clear hfz41_1
    try clear hfz41_2
    try clear hfz44_0
    try clear hfz44_1
    try clear hfz44_2
    try clear hfz46_0
    try clear hfz46_1
    try clear hfz46_2
    try clear hfz49_0
    try clear hfz49_1
    try clear hfz49_2
    obtain ⟨kq, x62_8, rfl, HA, HJ8, HO_300001, HO_300002, BK299, HB⟩ := hcut
    cases kq with
    | zero => exact absurd HA.out (by simp [trustquorumlaw21_LeadersChosen.j0])
    | succ kj8 =>
      have H := HA.out
      clear HA
      simp only [trustquorumlaw21_LeadersChosen.j0] at H
      by_cases c51 : x62_8 = true
      · subst c51
        have H1 : (some false) = some r := by rw [if_pos rfl] at H; exact H
        clear H
        have H := H1
        clear H1
        obtain rfl := Option.some.inj H
        go_wp2
        go_ret
        exact ⟨by first | rfl | (simp [errW_none, errW_some] <;> rfl) | (simp [*, errW_none, errW_some] <;> rfl), by repeat (first | (with_reducible first | exact HB.out | apply below_alloc | apply pw_below_drewN | apply below_drew1 | refine below_set ?_ GE299.out) | exact HB.out)⟩
      · replace c51 := Bool.eq_false_iff.mpr c51
        subst c51
        have H1 : (trustquorumlaw21_LeadersChosen.l0 kj8 t300 t302 t304 t306 0 t291 t292 t295) = some r := by rw [if_neg (show ¬ (false = true) by decide)] at H; exact H
        clear H
        have H := H1
        clear H1
        have H' := Aside0.mk H
        clear H
        go_wp2
        go_loopg [10] kj8 (fun kq v10 w' => ∃ (x10_2 : Int), v10 = .int .i64 x10_2 ∧ Aside0 (trustquorumlaw21_LeadersChosen.l0 kq t300 t302 t304 t306 x10_2 t291 t292 t295 = some r) ∧ Aside0 (kq ≤ kj8) ∧ Aside0 (Kd.R (Kd.int .i64) 3 w' w.heap.size (fun _ => True) (.slice Ao16 t292.length co16) t292) ∧ Aside0 (Kd.R k27 27 w' w.heap.size (fun k_ => some k_ ≠ ((.slice Ao16 t292.length co16) : Value).ownBlock ∧ k_ ≠ gb299) (.slice Ao17 t295.length co17) t295) ∧ Aside0 (w'.heap[gb299]? = some (.cells #[.int .i64 t291, (.slice Ao16 t292.length co16), (.slice Ao17 t295.length co17)] 27 (0, 0))) ∧ Aside0 (Below w.heap.size w w'))
        case atStart => exact ⟨(0), (by first | rfl | (simp; done) | (simp [*]; done)), H', ⟨Nat.le_refl _⟩, ⟨by (with_reducible repeat (first | apply Kd.R_alloc | apply Kd.R_drewN | apply Kd.R_drew)); exact HO_300001.out⟩, ⟨by (with_reducible repeat (first | apply Kd.R_alloc | apply Kd.R_drewN | apply Kd.R_drew)); exact HO_300002.out⟩, ⟨by (with_reducible repeat (first | refine blk_drewN ?_ _ | refine blk_drew ?_ | refine blk_alloc ?_ _)); exact BK299.out⟩, ⟨by repeat (first | (with_reducible first | exact HB.out | apply below_alloc | apply pw_below_drewN | apply below_drew1 | refine below_set ?_ GE299.out) | exact HB.out)⟩⟩
        case round =>
          clear H'
          try clear c1
          try clear c2
          try clear p2
          try clear c3
          try clear c4
          try clear c5
          try clear c8
          try clear c9
          try clear c10
          try clear c14
          try clear c15
          try clear c17
          try clear c23
          try clear c23b0
          try clear c23b1
          try clear c25
          try clear c27
          try clear c28
          try clear c28b0
          try clear c28b1
          try clear c29
          try clear c36
          try clear c43
          try clear c48
          try clear c51
          try clear hcz15_0
          try clear hcz15_1
          try clear hcz15_2
          try clear hcz21_0
          try clear hcz21_1
          try clear hcz21_2
          try clear hcz30_0
          try clear hcz30_1
          try clear hcz30_2
          try clear hcz32_0
          try clear hcz32_1
          try clear hcz32_2
          try clear hcz37_0
          try clear hcz37_1
          try clear hcz37_2
          try clear hcz39_0
          try clear hcz39_1
          try clear hcz39_2
          try clear hcz41_0
          try clear hcz41_1
          try clear hcz41_2
          try clear hcz44_0
          try clear hcz44_1
          try clear hcz44_2
          try clear hcz46_0
          try clear hcz46_1
          try clear hcz46_2
          try clear hcz49_0
          try clear hcz49_1
          try clear hcz49_2
          try clear hfz15_0
          try clear hfz15_1
          try clear hfz15_2
          try clear hfz21_0
          try clear hfz21_1
          try clear hfz21_2
          try clear hfz30_0
          try clear hfz30_1
          try clear hfz30_2
          try clear hfz32_0
          try clear hfz32_1
          try clear hfz32_2
          try clear hfz37_0
          try clear hfz37_1
          try clear hfz37_2
          try clear hfz39_0
          try clear hfz39_1
          try clear hfz39_2
          try clear hfz41_0
          try clear hfz41_1
          try clear hfz41_2
          try clear hfz44_0
          try clear hfz44_1
          try clear hfz44_2
          try clear hfz46_0
          try clear hfz46_1
          try clear hfz46_2
          try clear hfz49_0
          try clear hfz49_1
          try clear hfz49_2
          try clear p2
          obtain ⟨x10_2, rfl, HA, HK2, HO_300001, HO_300002, BK299, HB⟩ := hrel
          cases gk with
          | zero => exact absurd HA.out (by simp [trustquorumlaw21_LeadersChosen.l0])
          | succ k2 =>
            have H := HA.out
            clear HA
            simp only [trustquorumlaw21_LeadersChosen.l0] at H
            by_cases c52 : x10_2 < 10
            · rw [if_pos c52] at H
              have c52b0 : decide (x10_2 < 10) = true := decide_eq_true c52
              clear c52
              replace H := Option.bind_eq_some_iff.mp H
              obtain ⟨t313, A530, H⟩ := H
              replace H : (if t313 = true then ((leaders_Hash.f 2 t302 t304 x10_2).bind fun t314 => ((leaders_Hash.f 2 t302 t304 t306).bind fun t315 => (if t314 > t315 then (some false) else (if x10_2 > t306 then ((leaders_Hash.f 2 t302 t304 x10_2).bind fun t316 => ((leaders_Hash.f 2 t302 t304 t306).bind fun t317 => (if t316 = t317 then (some false) else (trustquorumlaw21_LeadersChosen.l0 k2 t300 t302 t304 t306 (wrap64 (x10_2 + 1)) t291 t292 t295)))) else (trustquorumlaw21_LeadersChosen.l0 k2 t300 t302 t304 t306 (wrap64 (x10_2 + 1)) t291 t292 t295))))) else (trustquorumlaw21_LeadersChosen.l0 k2 t300 t302 t304 t306 (wrap64 (x10_2 + 1)) t291 t292 t295)) = some r := H
              have A53 := Aside0.mk A530
              clear A530
              by_cases c54 : t313 = true
              · subst c54
                have H1 : ((leaders_Hash.f 2 t302 t304 x10_2).bind fun t314 => ((leaders_Hash.f 2 t302 t304 t306).bind fun t315 => (if t314 > t315 then (some false) else (if x10_2 > t306 then ((leaders_Hash.f 2 t302 t304 x10_2).bind fun t316 => ((leaders_Hash.f 2 t302 t304 t306).bind fun t317 => (if t316 = t317 then (some false) else (trustquorumlaw21_LeadersChosen.l0 k2 t300 t302 t304 t306 (wrap64 (x10_2 + 1)) t291 t292 t295)))) else (trustquorumlaw21_LeadersChosen.l0 k2 t300 t302 t304 t306 (wrap64 (x10_2 + 1)) t291 t292 t295))))) = some r := by rw [if_pos rfl] at H; exact H
                clear H
                have H := H1
                clear H1
                replace H := Option.bind_eq_some_iff.mp H
                obtain ⟨t314, A550, H⟩ := H
                replace H : ((leaders_Hash.f 2 t302 t304 t306).bind fun t315 => (if t314 > t315 then (some false) else (if x10_2 > t306 then ((leaders_Hash.f 2 t302 t304 x10_2).bind fun t316 => ((leaders_Hash.f 2 t302 t304 t306).bind fun t317 => (if t316 = t317 then (some false) else (trustquorumlaw21_LeadersChosen.l0 k2 t300 t302 t304 t306 (wrap64 (x10_2 + 1)) t291 t292 t295)))) else (trustquorumlaw21_LeadersChosen.l0 k2 t300 t302 t304 t306 (wrap64 (x10_2 + 1)) t291 t292 t295)))) = some r := H
                have A55 := Aside0.mk A550
                clear A550
                replace H := Option.bind_eq_some_iff.mp H
                obtain ⟨t315, A560, H⟩ := H
                replace H : (if t314 > t315 then (some false) else (if x10_2 > t306 then ((leaders_Hash.f 2 t302 t304 x10_2).bind fun t316 => ((leaders_Hash.f 2 t302 t304 t306).bind fun t317 => (if t316 = t317 then (some false) else (trustquorumlaw21_LeadersChosen.l0 k2 t300 t302 t304 t306 (wrap64 (x10_2 + 1)) t291 t292 t295)))) else (trustquorumlaw21_LeadersChosen.l0 k2 t300 t302 t304 t306 (wrap64 (x10_2 + 1)) t291 t292 t295))) = some r := H
                have A56 := Aside0.mk A560
                clear A560
                by_cases c57 : t314 > t315
                · rw [if_pos c57] at H
                  have c57b0 : decide (t315 < t314) = true := decide_eq_true c57
                  clear c57
                  obtain rfl := Option.some.inj H
                  have hcz58_0 : wr.cell? ⟨gb299, 0, none⟩ = some (.int .i64 t291) := (blk_cell BK299.out 0).trans rfl
                  have hcz58_1 : wr.cell? ⟨gb299, 1, none⟩ = some (.slice Ao16 t292.length co16) := (blk_cell BK299.out 1).trans rfl
                  have hcz58_2 : wr.cell? ⟨gb299, 2, none⟩ = some (.slice Ao17 t295.length co17) := (blk_cell BK299.out 2).trans rfl
                  have hfz58_0 := blk_frozen BK299.out 0
                  have hfz58_1 := blk_frozen BK299.out 1
                  have hfz58_2 := blk_frozen BK299.out 2
                  go_wp2_with (first | ((with_reducible refine gate_callee (f := 16) rfl ?_); refine goesL_ (some 72) rfl rfl Try.func16 (by kernel_rfl) rfl #[.agg #[.int .i64 t291, .slice Ao16 t292.length co16, .slice Ao17 t295.length co17], .int .i64 t300, .int .i64 t302, .int .i64 t304, .int .i64 x10_2] rfl (by (try simp only [List.map_toArray, List.map_cons, List.map_nil]); first | done | rfl | (simp only [List.length_drop, List.length_take]; rfl)) ?_; (with_reducible refine (leaders_Neighbour.calls k2 t291 _ _ t292 _ _ t295 t300 t302 t304 x10_2 true _ ?side1 ?side2 ?side3 ?side4 A53.out).mono ?_); (case side1 => repeat (first | exact (Kd.R_reads' HO_300001.out).2.2 | (with_reducible refine Kd.C_alloc ?_ _) | (with_reducible refine Kd.C_drewN ?_ _) | (with_reducible refine Kd.C_drew ?_))); (case side2 => exact (Kd.R_reads' HO_300001.out).2.1); (case side3 => repeat (first | exact (Kd.R_reads' HO_300002.out).2.2 | (with_reducible refine Kd.C_alloc ?_ _) | (with_reducible refine Kd.C_drewN ?_ _) | (with_reducible refine Kd.C_drew ?_))); (case side4 => exact (Kd.R_reads' HO_300002.out).2.1); rintro e w59 ⟨rfl, hb⟩; refine ⟨_, rfl, ?_⟩; have n0_ := Aside0.mk (Kd.R_below (by (with_reducible repeat (first | apply Kd.R_alloc | apply Kd.R_drewN | apply Kd.R_drew)); exact HO_300001.out) hb); have n1_ := Aside0.mk (Kd.R_below (by (with_reducible repeat (first | apply Kd.R_alloc | apply Kd.R_drewN | apply Kd.R_drew)); exact HO_300002.out) hb); have n2_ := Aside0.mk (blk_below (g := gb299) (o := .cells #[.int .i64 t291, .slice Ao16 t292.length co16, .slice Ao17 t295.length co17] 27 (0, 0)) (by (with_reducible repeat (first | refine blk_drewN ?_ _ | refine blk_drew ?_ | refine blk_alloc ?_ _)); exact BK299.out) hb); have n3_ := Aside0.mk (below_step (by repeat (first | (with_reducible first | exact HB.out | apply below_alloc | apply pw_below_drewN | apply below_drew1 | refine below_set ?_ GE299.out) | exact HB.out)) hb); clear HO_300001; clear HO_300002; clear BK299; clear HB; have HO_300001 := n0_; have HO_300002 := n1_; have BK299 := n2_; have HB := n3_; clear n0_ n1_ n2_ n3_; (try clear hb); (try clear hb2); (try clear hk); (try clear hi)) | (go_at_call 18; (with_reducible refine (leaders_Hash.calls 2 t302 t304 x10_2 t314 _ A55.out).mono ?_); rintro e w' ⟨rfl, ⟨nd, rfl⟩⟩) | (go_at_call 18; (with_reducible refine (leaders_Hash.calls 2 t302 t304 t306 t315 _ A56.out).mono ?_); rintro e w' ⟨rfl, ⟨nd, rfl⟩⟩))
                  go_ret
                  exact ⟨by first | rfl | (simp [errW_none, errW_some] <;> rfl) | (simp [*, errW_none, errW_some] <;> rfl), by repeat (first | (with_reducible first | exact HB.out | apply below_alloc | apply pw_below_drewN | apply below_drew1 | refine below_set ?_ GE299.out) | exact HB.out)⟩
                · rw [if_neg c57] at H
                  have c57b0 : decide (t315 < t314) = false := decide_eq_false c57
                  clear c57
                  by_cases c60 : x10_2 > t306
                  · rw [if_pos c60] at H
                    have c60b0 : decide (t306 < x10_2) = true := decide_eq_true c60
                    clear c60
                    replace H := Option.bind_eq_some_iff.mp H
                    obtain ⟨t316, A610, H⟩ := H
                    replace H : ((leaders_Hash.f 2 t302 t304 t306).bind fun t317 => (if t316 = t317 then (some false) else (trustquorumlaw21_LeadersChosen.l0 k2 t300 t302 t304 t306 (wrap64 (x10_2 + 1)) t291 t292 t295))) = some r := H
                    have A61 := Aside0.mk A610
                    clear A610
                    replace H := Option.bind_eq_some_iff.mp H
                    obtain ⟨t317, A620, H⟩ := H
                    replace H : (if t316 = t317 then (some false) else (trustquorumlaw21_LeadersChosen.l0 k2 t300 t302 t304 t306 (wrap64 (x10_2 + 1)) t291 t292 t295)) = some r := H
                    have A62 := Aside0.mk A620
                    clear A620
                    have e61 : Aside0 (t314 = t316) := Aside0.mk (Option.some.inj (A55.out.symm.trans A61.out))
                    have e62 : Aside0 (t315 = t317) := Aside0.mk (Option.some.inj (A56.out.symm.trans A62.out))
                    by_cases c63 : t316 = t317
                    · rw [if_pos c63] at H
                      have c63b0 : (t314 == t315) = true := by rw [e61.out, e62.out]; exact beq_iff_eq.mpr c63
                      have c63b1 : (t314 != t315) = false := by rw [e61.out, e62.out]; exact bne_eq_false_iff_eq.mpr c63
                      clear c63
                      obtain rfl := Option.some.inj H
                      have hcz64_0 : wr.cell? ⟨gb299, 0, none⟩ = some (.int .i64 t291) := (blk_cell BK299.out 0).trans rfl
                      have hcz64_1 : wr.cell? ⟨gb299, 1, none⟩ = some (.slice Ao16 t292.length co16) := (blk_cell BK299.out 1).trans rfl
                      have hcz64_2 : wr.cell? ⟨gb299, 2, none⟩ = some (.slice Ao17 t295.length co17) := (blk_cell BK299.out 2).trans rfl
                      have hfz64_0 := blk_frozen BK299.out 0
                      have hfz64_1 := blk_frozen BK299.out 1
                      have hfz64_2 := blk_frozen BK299.out 2
                      go_wp2_with (first | ((with_reducible refine gate_callee (f := 16) rfl ?_); refine goesL_ (some 72) rfl rfl Try.func16 (by kernel_rfl) rfl #[.agg #[.int .i64 t291, .slice Ao16 t292.length co16, .slice Ao17 t295.length co17], .int .i64 t300, .int .i64 t302, .int .i64 t304, .int .i64 x10_2] rfl (by (try simp only [List.map_toArray, List.map_cons, List.map_nil]); first | done | rfl | (simp only [List.length_drop, List.length_take]; rfl)) ?_; (with_reducible refine (leaders_Neighbour.calls k2 t291 _ _ t292 _ _ t295 t300 t302 t304 x10_2 true _ ?side1 ?side2 ?side3 ?side4 A53.out).mono ?_); (case side1 => repeat (first | exact (Kd.R_reads' HO_300001.out).2.2 | (with_reducible refine Kd.C_alloc ?_ _) | (with_reducible refine Kd.C_drewN ?_ _) | (with_reducible refine Kd.C_drew ?_))); (case side2 => exact (Kd.R_reads' HO_300001.out).2.1); (case side3 => repeat (first | exact (Kd.R_reads' HO_300002.out).2.2 | (with_reducible refine Kd.C_alloc ?_ _) | (with_reducible refine Kd.C_drewN ?_ _) | (with_reducible refine Kd.C_drew ?_))); (case side4 => exact (Kd.R_reads' HO_300002.out).2.1); rintro e w65 ⟨rfl, hb⟩; refine ⟨_, rfl, ?_⟩; have n0_ := Aside0.mk (Kd.R_below (by (with_reducible repeat (first | apply Kd.R_alloc | apply Kd.R_drewN | apply Kd.R_drew)); exact HO_300001.out) hb); have n1_ := Aside0.mk (Kd.R_below (by (with_reducible repeat (first | apply Kd.R_alloc | apply Kd.R_drewN | apply Kd.R_drew)); exact HO_300002.out) hb); have n2_ := Aside0.mk (blk_below (g := gb299) (o := .cells #[.int .i64 t291, .slice Ao16 t292.length co16, .slice Ao17 t295.length co17] 27 (0, 0)) (by (with_reducible repeat (first | refine blk_drewN ?_ _ | refine blk_drew ?_ | refine blk_alloc ?_ _)); exact BK299.out) hb); have n3_ := Aside0.mk (below_step (by repeat (first | (with_reducible first | exact HB.out | apply below_alloc | apply pw_below_drewN | apply below_drew1 | refine below_set ?_ GE299.out) | exact HB.out)) hb); clear HO_300001; clear HO_300002; clear BK299; clear HB; have HO_300001 := n0_; have HO_300002 := n1_; have BK299 := n2_; have HB := n3_; clear n0_ n1_ n2_ n3_; (try clear hb); (try clear hb2); (try clear hk); (try clear hi)) | (go_at_call 18; (with_reducible refine (leaders_Hash.calls 2 t302 t304 x10_2 t314 _ A55.out).mono ?_); rintro e w' ⟨rfl, ⟨nd, rfl⟩⟩) | (go_at_call 18; (with_reducible refine (leaders_Hash.calls 2 t302 t304 t306 t315 _ A56.out).mono ?_); rintro e w' ⟨rfl, ⟨nd, rfl⟩⟩) | (go_at_call 18; (with_reducible refine (leaders_Hash.calls 2 t302 t304 x10_2 t316 _ A61.out).mono ?_); rintro e w' ⟨rfl, ⟨nd, rfl⟩⟩) | (go_at_call 18; (with_reducible refine (leaders_Hash.calls 2 t302 t304 t306 t317 _ A62.out).mono ?_); rintro e w' ⟨rfl, ⟨nd, rfl⟩⟩))
                      go_ret
                      exact ⟨by first | rfl | (simp [errW_none, errW_some] <;> rfl) | (simp [*, errW_none, errW_some] <;> rfl), by repeat (first | (with_reducible first | exact HB.out | apply below_alloc | apply pw_below_drewN | apply below_drew1 | refine below_set ?_ GE299.out) | exact HB.out)⟩
                    · rw [if_neg c63] at H
                      have c63b0 : (t314 == t315) = false := by rw [e61.out, e62.out]; exact beq_eq_false_iff_ne.mpr c63
                      have c63b1 : (t314 != t315) = true := by rw [e61.out, e62.out]; exact bne_iff_ne.mpr c63
                      have H' := Aside0.mk H
                      clear H
                      have hcz66_0 : wr.cell? ⟨gb299, 0, none⟩ = some (.int .i64 t291) := (blk_cell BK299.out 0).trans rfl
                      have hcz66_1 : wr.cell? ⟨gb299, 1, none⟩ = some (.slice Ao16 t292.length co16) := (blk_cell BK299.out 1).trans rfl
                      have hcz66_2 : wr.cell? ⟨gb299, 2, none⟩ = some (.slice Ao17 t295.length co17) := (blk_cell BK299.out 2).trans rfl
                      have hfz66_0 := blk_frozen BK299.out 0
                      have hfz66_1 := blk_frozen BK299.out 1
                      have hfz66_2 := blk_frozen BK299.out 2
                      go_wp2_with (first | ((with_reducible refine gate_callee (f := 16) rfl ?_); refine goesL_ (some 72) rfl rfl Try.func16 (by kernel_rfl) rfl #[.agg #[.int .i64 t291, .slice Ao16 t292.length co16, .slice Ao17 t295.length co17], .int .i64 t300, .int .i64 t302, .int .i64 t304, .int .i64 x10_2] rfl (by (try simp only [List.map_toArray, List.map_cons, List.map_nil]); first | done | rfl | (simp only [List.length_drop, List.length_take]; rfl)) ?_; (with_reducible refine (leaders_Neighbour.calls k2 t291 _ _ t292 _ _ t295 t300 t302 t304 x10_2 true _ ?side1 ?side2 ?side3 ?side4 A53.out).mono ?_); (case side1 => repeat (first | exact (Kd.R_reads' HO_300001.out).2.2 | (with_reducible refine Kd.C_alloc ?_ _) | (with_reducible refine Kd.C_drewN ?_ _) | (with_reducible refine Kd.C_drew ?_))); (case side2 => exact (Kd.R_reads' HO_300001.out).2.1); (case side3 => repeat (first | exact (Kd.R_reads' HO_300002.out).2.2 | (with_reducible refine Kd.C_alloc ?_ _) | (with_reducible refine Kd.C_drewN ?_ _) | (with_reducible refine Kd.C_drew ?_))); (case side4 => exact (Kd.R_reads' HO_300002.out).2.1); rintro e w67 ⟨rfl, hb⟩; refine ⟨_, rfl, ?_⟩; have n0_ := Aside0.mk (Kd.R_below (by (with_reducible repeat (first | apply Kd.R_alloc | apply Kd.R_drewN | apply Kd.R_drew)); exact HO_300001.out) hb); have n1_ := Aside0.mk (Kd.R_below (by (with_reducible repeat (first | apply Kd.R_alloc | apply Kd.R_drewN | apply Kd.R_drew)); exact HO_300002.out) hb); have n2_ := Aside0.mk (blk_below (g := gb299) (o := .cells #[.int .i64 t291, .slice Ao16 t292.length co16, .slice Ao17 t295.length co17] 27 (0, 0)) (by (with_reducible repeat (first | refine blk_drewN ?_ _ | refine blk_drew ?_ | refine blk_alloc ?_ _)); exact BK299.out) hb); have n3_ := Aside0.mk (below_step (by repeat (first | (with_reducible first | exact HB.out | apply below_alloc | apply pw_below_drewN | apply below_drew1 | refine below_set ?_ GE299.out) | exact HB.out)) hb); clear HO_300001; clear HO_300002; clear BK299; clear HB; have HO_300001 := n0_; have HO_300002 := n1_; have BK299 := n2_; have HB := n3_; clear n0_ n1_ n2_ n3_; (try clear hb); (try clear hb2); (try clear hk); (try clear hi)) | (go_at_call 18; (with_reducible refine (leaders_Hash.calls 2 t302 t304 x10_2 t314 _ A55.out).mono ?_); rintro e w' ⟨rfl, ⟨nd, rfl⟩⟩) | (go_at_call 18; (with_reducible refine (leaders_Hash.calls 2 t302 t304 t306 t315 _ A56.out).mono ?_); rintro e w' ⟨rfl, ⟨nd, rfl⟩⟩) | (go_at_call 18; (with_reducible refine (leaders_Hash.calls 2 t302 t304 x10_2 t316 _ A61.out).mono ?_); rintro e w' ⟨rfl, ⟨nd, rfl⟩⟩) | (go_at_call 18; (with_reducible refine (leaders_Hash.calls 2 t302 t304 t306 t317 _ A62.out).mono ?_); rintro e w' ⟨rfl, ⟨nd, rfl⟩⟩))
                      go_roundg k2
                      case measure => have := HJ8.out; have := HK2.out; omega
                      case rel => exact ⟨(wrap64 (x10_2 + 1)), (by first | rfl | (simp; done) | (simp [*]; done)), H', ⟨by have := HJ8.out; have := HK2.out; omega⟩, ⟨by (with_reducible repeat (first | apply Kd.R_alloc | apply Kd.R_drewN | apply Kd.R_drew)); exact HO_300001.out⟩, ⟨by (with_reducible repeat (first | apply Kd.R_alloc | apply Kd.R_drewN | apply Kd.R_drew)); exact HO_300002.out⟩, ⟨by (with_reducible repeat (first | refine blk_drewN ?_ _ | refine blk_drew ?_ | refine blk_alloc ?_ _)); exact BK299.out⟩, ⟨by repeat (first | (with_reducible first | exact HB.out | apply below_alloc | apply pw_below_drewN | apply below_drew1 | refine below_set ?_ GE299.out) | exact HB.out)⟩⟩
                  · rw [if_neg c60] at H
                    have c60b0 : decide (t306 < x10_2) = false := decide_eq_false c60
                    clear c60
                    have H' := Aside0.mk H
                    clear H
                    have hcz68_0 : wr.cell? ⟨gb299, 0, none⟩ = some (.int .i64 t291) := (blk_cell BK299.out 0).trans rfl
                    have hcz68_1 : wr.cell? ⟨gb299, 1, none⟩ = some (.slice Ao16 t292.length co16) := (blk_cell BK299.out 1).trans rfl
                    have hcz68_2 : wr.cell? ⟨gb299, 2, none⟩ = some (.slice Ao17 t295.length co17) := (blk_cell BK299.out 2).trans rfl
                    have hfz68_0 := blk_frozen BK299.out 0
                    have hfz68_1 := blk_frozen BK299.out 1
                    have hfz68_2 := blk_frozen BK299.out 2
                    go_wp2_with (first | ((with_reducible refine gate_callee (f := 16) rfl ?_); refine goesL_ (some 72) rfl rfl Try.func16 (by kernel_rfl) rfl #[.agg #[.int .i64 t291, .slice Ao16 t292.length co16, .slice Ao17 t295.length co17], .int .i64 t300, .int .i64 t302, .int .i64 t304, .int .i64 x10_2] rfl (by (try simp only [List.map_toArray, List.map_cons, List.map_nil]); first | done | rfl | (simp only [List.length_drop, List.length_take]; rfl)) ?_; (with_reducible refine (leaders_Neighbour.calls k2 t291 _ _ t292 _ _ t295 t300 t302 t304 x10_2 true _ ?side1 ?side2 ?side3 ?side4 A53.out).mono ?_); (case side1 => repeat (first | exact (Kd.R_reads' HO_300001.out).2.2 | (with_reducible refine Kd.C_alloc ?_ _) | (with_reducible refine Kd.C_drewN ?_ _) | (with_reducible refine Kd.C_drew ?_))); (case side2 => exact (Kd.R_reads' HO_300001.out).2.1); (case side3 => repeat (first | exact (Kd.R_reads' HO_300002.out).2.2 | (with_reducible refine Kd.C_alloc ?_ _) | (with_reducible refine Kd.C_drewN ?_ _) | (with_reducible refine Kd.C_drew ?_))); (case side4 => exact (Kd.R_reads' HO_300002.out).2.1); rintro e w69 ⟨rfl, hb⟩; refine ⟨_, rfl, ?_⟩; have n0_ := Aside0.mk (Kd.R_below (by (with_reducible repeat (first | apply Kd.R_alloc | apply Kd.R_drewN | apply Kd.R_drew)); exact HO_300001.out) hb); have n1_ := Aside0.mk (Kd.R_below (by (with_reducible repeat (first | apply Kd.R_alloc | apply Kd.R_drewN | apply Kd.R_drew)); exact HO_300002.out) hb); have n2_ := Aside0.mk (blk_below (g := gb299) (o := .cells #[.int .i64 t291, .slice Ao16 t292.length co16, .slice Ao17 t295.length co17] 27 (0, 0)) (by (with_reducible repeat (first | refine blk_drewN ?_ _ | refine blk_drew ?_ | refine blk_alloc ?_ _)); exact BK299.out) hb); have n3_ := Aside0.mk (below_step (by repeat (first | (with_reducible first | exact HB.out | apply below_alloc | apply pw_below_drewN | apply below_drew1 | refine below_set ?_ GE299.out) | exact HB.out)) hb); clear HO_300001; clear HO_300002; clear BK299; clear HB; have HO_300001 := n0_; have HO_300002 := n1_; have BK299 := n2_; have HB := n3_; clear n0_ n1_ n2_ n3_; (try clear hb); (try clear hb2); (try clear hk); (try clear hi)) | (go_at_call 18; (with_reducible refine (leaders_Hash.calls 2 t302 t304 x10_2 t314 _ A55.out).mono ?_); rintro e w' ⟨rfl, ⟨nd, rfl⟩⟩) | (go_at_call 18; (with_reducible refine (leaders_Hash.calls 2 t302 t304 t306 t315 _ A56.out).mono ?_); rintro e w' ⟨rfl, ⟨nd, rfl⟩⟩))
                    go_roundg k2
                    case measure => have := HJ8.out; have := HK2.out; omega
                    case rel => exact ⟨(wrap64 (x10_2 + 1)), (by first | rfl | (simp; done) | (simp [*]; done)), H', ⟨by have := HJ8.out; have := HK2.out; omega⟩, ⟨by (with_reducible repeat (first | apply Kd.R_alloc | apply Kd.R_drewN | apply Kd.R_drew)); exact HO_300001.out⟩, ⟨by (with_reducible repeat (first | apply Kd.R_alloc | apply Kd.R_drewN | apply Kd.R_drew)); exact HO_300002.out⟩, ⟨by (with_reducible repeat (first | refine blk_drewN ?_ _ | refine blk_drew ?_ | refine blk_alloc ?_ _)); exact BK299.out⟩, ⟨by repeat (first | (with_reducible first | exact HB.out | apply below_alloc | apply pw_below_drewN | apply below_drew1 | refine below_set ?_ GE299.out) | exact HB.out)⟩⟩
              · replace c54 := Bool.eq_false_iff.mpr c54
                subst c54
                have H1 : (trustquorumlaw21_LeadersChosen.l0 k2 t300 t302 t304 t306 (wrap64 (x10_2 + 1)) t291 t292 t295) = some r := by rw [if_neg (show ¬ (false = true) by decide)] at H; exact H
                clear H
                have H := H1
                clear H1
                have H' := Aside0.mk H
                clear H
                have hcz70_0 : wr.cell? ⟨gb299, 0, none⟩ = some (.int .i64 t291) := (blk_cell BK299.out 0).trans rfl
                have hcz70_1 : wr.cell? ⟨gb299, 1, none⟩ = some (.slice Ao16 t292.length co16) := (blk_cell BK299.out 1).trans rfl
                have hcz70_2 : wr.cell? ⟨gb299, 2, none⟩ = some (.slice Ao17 t295.length co17) := (blk_cell BK299.out 2).trans rfl
                have hfz70_0 := blk_frozen BK299.out 0
                have hfz70_1 := blk_frozen BK299.out 1
                have hfz70_2 := blk_frozen BK299.out 2
                go_wp2_with (first | ((with_reducible refine gate_callee (f := 16) rfl ?_); refine goesL_ (some 72) rfl rfl Try.func16 (by kernel_rfl) rfl #[.agg #[.int .i64 t291, .slice Ao16 t292.length co16, .slice Ao17 t295.length co17], .int .i64 t300, .int .i64 t302, .int .i64 t304, .int .i64 x10_2] rfl (by (try simp only [List.map_toArray, List.map_cons, List.map_nil]); first | done | rfl | (simp only [List.length_drop, List.length_take]; rfl)) ?_; (with_reducible refine (leaders_Neighbour.calls k2 t291 _ _ t292 _ _ t295 t300 t302 t304 x10_2 false _ ?side1 ?side2 ?side3 ?side4 A53.out).mono ?_); (case side1 => repeat (first | exact (Kd.R_reads' HO_300001.out).2.2 | (with_reducible refine Kd.C_alloc ?_ _) | (with_reducible refine Kd.C_drewN ?_ _) | (with_reducible refine Kd.C_drew ?_))); (case side2 => exact (Kd.R_reads' HO_300001.out).2.1); (case side3 => repeat (first | exact (Kd.R_reads' HO_300002.out).2.2 | (with_reducible refine Kd.C_alloc ?_ _) | (with_reducible refine Kd.C_drewN ?_ _) | (with_reducible refine Kd.C_drew ?_))); (case side4 => exact (Kd.R_reads' HO_300002.out).2.1); rintro e w71 ⟨rfl, hb⟩; refine ⟨_, rfl, ?_⟩; have n0_ := Aside0.mk (Kd.R_below (by (with_reducible repeat (first | apply Kd.R_alloc | apply Kd.R_drewN | apply Kd.R_drew)); exact HO_300001.out) hb); have n1_ := Aside0.mk (Kd.R_below (by (with_reducible repeat (first | apply Kd.R_alloc | apply Kd.R_drewN | apply Kd.R_drew)); exact HO_300002.out) hb); have n2_ := Aside0.mk (blk_below (g := gb299) (o := .cells #[.int .i64 t291, .slice Ao16 t292.length co16, .slice Ao17 t295.length co17] 27 (0, 0)) (by (with_reducible repeat (first | refine blk_drewN ?_ _ | refine blk_drew ?_ | refine blk_alloc ?_ _)); exact BK299.out) hb); have n3_ := Aside0.mk (below_step (by repeat (first | (with_reducible first | exact HB.out | apply below_alloc | apply pw_below_drewN | apply below_drew1 | refine below_set ?_ GE299.out) | exact HB.out)) hb); clear HO_300001; clear HO_300002; clear BK299; clear HB; have HO_300001 := n0_; have HO_300002 := n1_; have BK299 := n2_; have HB := n3_; clear n0_ n1_ n2_ n3_; (try clear hb); (try clear hb2); (try clear hk); (try clear hi)))
                go_roundg k2
                case measure => have := HJ8.out; have := HK2.out; omega
                case rel => exact ⟨(wrap64 (x10_2 + 1)), (by first | rfl | (simp; done) | (simp [*]; done)), H', ⟨by have := HJ8.out; have := HK2.out; omega⟩, ⟨by (with_reducible repeat (first | apply Kd.R_alloc | apply Kd.R_drewN | apply Kd.R_drew)); exact HO_300001.out⟩, ⟨by (with_reducible repeat (first | apply Kd.R_alloc | apply Kd.R_drewN | apply Kd.R_drew)); exact HO_300002.out⟩, ⟨by (with_reducible repeat (first | refine blk_drewN ?_ _ | refine blk_drew ?_ | refine blk_alloc ?_ _)); exact BK299.out⟩, ⟨by repeat (first | (with_reducible first | exact HB.out | apply below_alloc | apply pw_below_drewN | apply below_drew1 | refine below_set ?_ GE299.out) | exact HB.out)⟩⟩
            · rw [if_neg c52] at H
              have c52b0 : decide (x10_2 < 10) = false := decide_eq_false c52
              clear c52
              replace H := Option.bind_eq_some_iff.mp H
              obtain ⟨t312, A720, H⟩ := H
              replace H : (some t312) = some r := H
              have A72 := Aside0.mk A720
              clear A720
              obtain rfl := Option.some.inj H
              go_wp2_with (first | ((with_reducible refine gate_callee (f := 14) rfl ?_); refine goesL_ (some 100) rfl rfl Try.func14 (by kernel_rfl) rfl #[] rfl (by (try simp only [List.map_toArray, List.map_cons, List.map_nil]); first | done | rfl | (simp only [List.length_drop, List.length_take]; rfl)) ?_; (with_reducible refine (trustquorumlaw21_awake.calls k2  t312 _ A72.out).mono ?_); rintro e w73 ⟨rfl, hb⟩; refine ⟨_, rfl, ?_⟩; have n0_ := Aside0.mk (Kd.R_below (by (with_reducible repeat (first | apply Kd.R_alloc | apply Kd.R_drewN | apply Kd.R_drew)); exact HO_300001.out) hb); have n1_ := Aside0.mk (Kd.R_below (by (with_reducible repeat (first | apply Kd.R_alloc | apply Kd.R_drewN | apply Kd.R_drew)); exact HO_300002.out) hb); have n2_ := Aside0.mk (blk_below (g := gb299) (o := .cells #[.int .i64 t291, .slice Ao16 t292.length co16, .slice Ao17 t295.length co17] 27 (0, 0)) (by (with_reducible repeat (first | refine blk_drewN ?_ _ | refine blk_drew ?_ | refine blk_alloc ?_ _)); exact BK299.out) hb); have n3_ := Aside0.mk (below_step (by repeat (first | (with_reducible first | exact HB.out | apply below_alloc | apply pw_below_drewN | apply below_drew1 | refine below_set ?_ GE299.out) | exact HB.out)) hb); clear HO_300001; clear HO_300002; clear BK299; clear HB; have HO_300001 := n0_; have HO_300002 := n1_; have BK299 := n2_; have HB := n3_; clear n0_ n1_ n2_ n3_; (try clear hb); (try clear hb2); (try clear hk); (try clear hi)))
              go_ret
              exact ⟨by first | rfl | (simp [errW_none, errW_some] <;> rfl) | (simp [*, errW_none, errW_some] <;> rfl), by repeat (first | (with_reducible first | exact HB.out | apply below_alloc | apply pw_below_drewN | apply below_drew1 | refine below_set ?_ GE299.out) | exact HB.out)⟩

/-- THE ONE PURE STATEMENT of trustquorumlaw21_LeadersChosen: yours. -/
def trustquorumlaw21_LeadersChosen.Pure : Prop := ∀ (l0 : List Int), l0.length ≤ maxLen → l0.length * 8 ≤ 140737488351232 → (∀ x ∈ l0, (Lit.int .i64 x).wf = true) → ∃ k, trustquorumlaw21_LeadersChosen.f k l0 = some true
theorem trustquorumlaw21_LeadersChosen.walk (P : trustquorumlaw21_LeadersChosen.Pure) (a0 : Option Addr) (len0 cap0 : Nat) (z0 : List Int) (w : World) (w0 : (a0 = none ∧ len0 = 0 ∧ cap0 = 0 ∧ z0 = []) ∨ ∃ x, a0 = some x ∧ len0 ≤ cap0 ∧ cap0 ≤ maxLen ∧ z0.length = cap0 ∧ (∀ i, i < z0.length → w.cell? (x.add i) = some (.int .i64 (z0.getD i 0))) ∧ ∀ n ∈ z0, (Lit.int .i64 n).wf = true) (y0 : len0 * 8 ≤ 140737488351232) :
    Calls Try.prog 5 #[.slice a0 len0 cap0] w fun e w' => e = .returned (.bool true) ∧ Below w.heap.size w w' := by
  obtain ⟨l0, rfl, hr0, hm0, hw0, hc0⟩ := ReadsInt.ofRowC w0
  obtain ⟨k, h⟩ := P l0 hm0 y0 hw0
  refine (trustquorumlaw21_LeadersChosen.calls k _ _ l0 true w (Kd.C_of_reads (d := (0 : Int)) (h1 := fun _ => rfl) hr0) hc0 h).mono ?_
  rintro e w' ⟨rfl, hd⟩
  exact ⟨rfl, hd⟩

end Go.Proofs.Ytphndccgadblnaa.QLeadersChosen
