/- Lean functions that answer as the Go functions do which the law reaches, and proofs that the Go code comes to exactly these answers. Conditions: those that each theorem names. -/
import Derived.Test.YtogdpfmlldaeeaaQBallotsOrderx0
import Derived.Test.YtogdpfmlldaeeaaQBallotsOrderx1
import Derived.Test.YtogdpfmlldaeeaaQBallotsOrderx2
import Derived.Test.YtogdpfmlldaeeaaQBallotsOrderx3
namespace Go.Proofs.Ytogdpfmlldaeeaa.QBallotsOrder
open Go.RowKit Go.Proofs.YtogdpfmlldaeeaaW.PrintWords Go.Proofs.YtogdpfmlldaeeaaW.PrintLast Go.Proofs.YtogdpfmlldaeeaaW.PrintMore
attribute [local go_sem] max2_int min2_int max_two min_two max_three min_three max_four min_four   -- for this text's walks alone
set_option linter.unusedVariables false
set_option linter.unusedSimpArgs false

attribute [local go_sem high] eqA26
/-! ### trustquorumlaw23_BallotsOrder: function 4 -/
mutual
def trustquorumlaw23_BallotsOrder.l0 : Nat → Int → (Bool × Bool × Bool) → Int → Int → ByteArray → Int → ByteArray → Int → ByteArray → Option (Bool)
  | 0, _, _, _, _, _, _, _, _, _ => none
  | k + 1, x7, x27, x28, x186000, x186001, x187000, x187001, x188000, x188001 => if x28 < 3 then (if 0 ≤ x28 then (if (rda3t x27 x28) = true then (trustquorumlaw23_BallotsOrder.l0 k (wrap64 (x7 + 1)) x27 (wrap64 (x28 + 1)) x186000 x186001 x187000 x187001 x188000 x188001) else (trustquorumlaw23_BallotsOrder.l0 k x7 x27 (wrap64 (x28 + 1)) x186000 x186001 x187000 x187001 x188000 x188001)) else (none)) else (if x7 = 1 then ((ballots_Less.f k x186000 x186001 x187000 x187001).bind fun t190 => (if t190 = true then ((ballots_Less.f k x187000 x187001 x188000 x188001).bind fun t191 => (if t191 = true then ((ballots_Less.f k x186000 x186001 x188000 x188001).bind fun t192 => (if t192 = true then ((ballots_Covers.f x186000 x186001 x187000 x187001).bind fun t193 => (if t193 = true then ((ballots_Aborts.f k x186000 x186001 x187000 x187001).bind fun t194 => (trustquorumlaw23_BallotsOrder.j1 k t194 x186000 x186001 x187000 x187001 x188000 x188001)) else (trustquorumlaw23_BallotsOrder.j1 k false x186000 x186001 x187000 x187001 x188000 x188001))) else (trustquorumlaw23_BallotsOrder.j1 k true x186000 x186001 x187000 x187001 x188000 x188001))) else ((ballots_Covers.f x186000 x186001 x187000 x187001).bind fun t195 => (if t195 = true then ((ballots_Aborts.f k x186000 x186001 x187000 x187001).bind fun t196 => (trustquorumlaw23_BallotsOrder.j1 k t196 x186000 x186001 x187000 x187001 x188000 x188001)) else (trustquorumlaw23_BallotsOrder.j1 k false x186000 x186001 x187000 x187001 x188000 x188001))))) else ((ballots_Covers.f x186000 x186001 x187000 x187001).bind fun t197 => (if t197 = true then ((ballots_Aborts.f k x186000 x186001 x187000 x187001).bind fun t198 => (trustquorumlaw23_BallotsOrder.j1 k t198 x186000 x186001 x187000 x187001 x188000 x188001)) else (trustquorumlaw23_BallotsOrder.j1 k false x186000 x186001 x187000 x187001 x188000 x188001))))) else (trustquorumlaw23_BallotsOrder.j1 k true x186000 x186001 x187000 x187001 x188000 x188001))
def trustquorumlaw23_BallotsOrder.j1 : Nat → Bool → Int → ByteArray → Int → ByteArray → Int → ByteArray → Option (Bool)
  | 0, _, _, _, _, _, _, _ => none
  | k + 1, x62, x186000, x186001, x187000, x187001, x188000, x188001 => if x62 = true then (some false) else ((ballots_Aborts.f k x186000 x186001 x187000 x187001).bind fun t199 => (if t199 = true then ((ballots_Covers.f x187000 x187001 x188000 x188001).bind fun t200 => (if t200 = true then ((ballots_Aborts.f k x186000 x186001 x188000 x188001).bind fun t201 => (if t201 = true then ((ballots_Covers.f x186000 x186001 x187000 x187001).bind fun t202 => (if t202 = true then ((ballots_Covers.f x187000 x187001 x188000 x188001).bind fun t203 => (if t203 = true then ((ballots_Covers.f x186000 x186001 x188000 x188001).bind fun t204 => (trustquorumlaw23_BallotsOrder.j2 k (!t204) x186000 x186001 x187000 x187001)) else (trustquorumlaw23_BallotsOrder.j2 k false x186000 x186001 x187000 x187001))) else (trustquorumlaw23_BallotsOrder.j2 k false x186000 x186001 x187000 x187001))) else (trustquorumlaw23_BallotsOrder.j2 k true x186000 x186001 x187000 x187001))) else ((ballots_Covers.f x186000 x186001 x187000 x187001).bind fun t205 => (if t205 = true then ((ballots_Covers.f x187000 x187001 x188000 x188001).bind fun t206 => (if t206 = true then ((ballots_Covers.f x186000 x186001 x188000 x188001).bind fun t207 => (trustquorumlaw23_BallotsOrder.j2 k (!t207) x186000 x186001 x187000 x187001)) else (trustquorumlaw23_BallotsOrder.j2 k false x186000 x186001 x187000 x187001))) else (trustquorumlaw23_BallotsOrder.j2 k false x186000 x186001 x187000 x187001))))) else ((ballots_Covers.f x186000 x186001 x187000 x187001).bind fun t208 => (if t208 = true then ((ballots_Covers.f x187000 x187001 x188000 x188001).bind fun t209 => (if t209 = true then ((ballots_Covers.f x186000 x186001 x188000 x188001).bind fun t210 => (trustquorumlaw23_BallotsOrder.j2 k (!t210) x186000 x186001 x187000 x187001)) else (trustquorumlaw23_BallotsOrder.j2 k false x186000 x186001 x187000 x187001))) else (trustquorumlaw23_BallotsOrder.j2 k false x186000 x186001 x187000 x187001)))))
def trustquorumlaw23_BallotsOrder.j2 : Nat → Bool → Int → ByteArray → Int → ByteArray → Option (Bool)
  | 0, _, _, _, _, _ => none
  | k + 1, x92, x186000, x186001, x187000, x187001 => if x92 = true then (some false) else ((ballots_Compatible.f x186000 x186001 x187000 x187001).bind fun t211 => (if (t211 == (x186001.toList == x187001.toList)) = true then ((ballots_Covers.f x186000 x186001 x186000 x186001).bind fun t212 => (if t212 = true then ((ballots_Aborts.f k x186000 x186001 x186000 x186001).bind fun t213 => (if t213 = true then (some false) else ((trustquorumlaw23_sane.f k).bind fun t214 => (some t214)))) else (some false))) else (some false)))
end
def trustquorumlaw23_BallotsOrder.f (k : Nat) (l0 : List Int) : Option (Bool) := (trustquorumplay_New.f l0).bind fun bt173 => ((trustquorumplay_Src_Ballot.f bt173.1 bt173.2).bind fun bt176 => ((trustquorumplay_Src_Ballot.f bt173.1 bt176.2.2).bind fun bt179 => ((trustquorumplay_Src_Ballot.f bt173.1 bt179.2.2).bind fun bt182 => ((ballots_Less.f k bt176.1 bt176.2.1 bt179.1 bt179.2.1).bind fun t188 => ((ballots_Less.f k bt179.1 bt179.2.1 bt176.1 bt176.2.1).bind fun t189 => (trustquorumlaw23_BallotsOrder.l0 k 0 (t188, t189, (bt176.1 == bt179.1 && (bt176.2.1.toList == bt179.2.1.toList))) 0 bt176.1 bt176.2.1 bt179.1 bt179.2.1 bt182.1 bt182.2.1))))))
theorem trustquorumlaw23_BallotsOrder.mono_l : ∀ k, (∀ y0 y1 y2 y3 y4 y5 y6 y7 y8, LeO (trustquorumlaw23_BallotsOrder.l0 k y0 y1 y2 y3 y4 y5 y6 y7 y8) (trustquorumlaw23_BallotsOrder.l0 (k + 1) y0 y1 y2 y3 y4 y5 y6 y7 y8)) ∧ (∀ y0 y1 y2 y3 y4 y5 y6, LeO (trustquorumlaw23_BallotsOrder.j1 k y0 y1 y2 y3 y4 y5 y6) (trustquorumlaw23_BallotsOrder.j1 (k + 1) y0 y1 y2 y3 y4 y5 y6)) ∧ (∀ y0 y1 y2 y3 y4, LeO (trustquorumlaw23_BallotsOrder.j2 k y0 y1 y2 y3 y4) (trustquorumlaw23_BallotsOrder.j2 (k + 1) y0 y1 y2 y3 y4))
  | 0 => ⟨fun _ _ _ _ _ _ _ _ _ r h => by simp [trustquorumlaw23_BallotsOrder.l0] at h, fun _ _ _ _ _ _ _ r h => by simp [trustquorumlaw23_BallotsOrder.j1] at h, fun _ _ _ _ _ r h => by simp [trustquorumlaw23_BallotsOrder.j2] at h⟩
  | k + 1 => by
    obtain ⟨ih0, ih1, ih2⟩ := trustquorumlaw23_BallotsOrder.mono_l k
    refine ⟨?_, ?_, ?_⟩
    · intro y0 y1 y2 y3 y4 y5 y6 y7 y8
      unfold trustquorumlaw23_BallotsOrder.l0
      repeat' first
      | (with_reducible exact ih0 _ _ _ _ _ _ _ _ _)
      | (with_reducible exact ih1 _ _ _ _ _ _ _)
      | (with_reducible exact ih2 _ _ _ _ _)
      | (with_reducible exact ballots_Aborts.mono _ _ _ _ _)
      | (with_reducible exact ballots_Less.mono _ _ _ _ _)
      | (with_reducible exact trustquorumlaw23_sane.mono _)
      | (with_reducible exact LeO.refl _)
      | (with_reducible exact LeO.none _)
      | (with_reducible refine LeO.ite ?_ ?_)
      | (with_reducible refine LeO.bind ?_ (fun _ => ?_))
      | exact ih0 _ _ _ _ _ _ _ _ _
      | exact ih1 _ _ _ _ _ _ _
      | exact ih2 _ _ _ _ _
      | exact ballots_Aborts.mono _ _ _ _ _
      | exact ballots_Less.mono _ _ _ _ _
      | exact trustquorumlaw23_sane.mono _
      | exact LeO.none _
      | refine LeO.ite ?_ ?_
      | refine LeO.bind ?_ (fun _ => ?_)
    · intro y0 y1 y2 y3 y4 y5 y6
      unfold trustquorumlaw23_BallotsOrder.j1
      repeat' first
      | (with_reducible exact ih0 _ _ _ _ _ _ _ _ _)
      | (with_reducible exact ih1 _ _ _ _ _ _ _)
      | (with_reducible exact ih2 _ _ _ _ _)
      | (with_reducible exact ballots_Aborts.mono _ _ _ _ _)
      | (with_reducible exact ballots_Less.mono _ _ _ _ _)
      | (with_reducible exact trustquorumlaw23_sane.mono _)
      | (with_reducible exact LeO.refl _)
      | (with_reducible exact LeO.none _)
      | (with_reducible refine LeO.ite ?_ ?_)
      | (with_reducible refine LeO.bind ?_ (fun _ => ?_))
      | exact ih0 _ _ _ _ _ _ _ _ _
      | exact ih1 _ _ _ _ _ _ _
      | exact ih2 _ _ _ _ _
      | exact ballots_Aborts.mono _ _ _ _ _
      | exact ballots_Less.mono _ _ _ _ _
      | exact trustquorumlaw23_sane.mono _
      | exact LeO.none _
      | refine LeO.ite ?_ ?_
      | refine LeO.bind ?_ (fun _ => ?_)
    · intro y0 y1 y2 y3 y4
      unfold trustquorumlaw23_BallotsOrder.j2
      repeat' first
      | (with_reducible exact ih0 _ _ _ _ _ _ _ _ _)
      | (with_reducible exact ih1 _ _ _ _ _ _ _)
      | (with_reducible exact ih2 _ _ _ _ _)
      | (with_reducible exact ballots_Aborts.mono _ _ _ _ _)
      | (with_reducible exact ballots_Less.mono _ _ _ _ _)
      | (with_reducible exact trustquorumlaw23_sane.mono _)
      | (with_reducible exact LeO.refl _)
      | (with_reducible exact LeO.none _)
      | (with_reducible refine LeO.ite ?_ ?_)
      | (with_reducible refine LeO.bind ?_ (fun _ => ?_))
      | exact ih0 _ _ _ _ _ _ _ _ _
      | exact ih1 _ _ _ _ _ _ _
      | exact ih2 _ _ _ _ _
      | exact ballots_Aborts.mono _ _ _ _ _
      | exact ballots_Less.mono _ _ _ _ _
      | exact trustquorumlaw23_sane.mono _
      | exact LeO.none _
      | refine LeO.ite ?_ ?_
      | refine LeO.bind ?_ (fun _ => ?_)
theorem trustquorumlaw23_BallotsOrder.mono : ∀ a0 k, LeO (trustquorumlaw23_BallotsOrder.f k a0) (trustquorumlaw23_BallotsOrder.f (k + 1) a0) := by
  intro a0 k
  obtain ⟨ih0, ih1, ih2⟩ := trustquorumlaw23_BallotsOrder.mono_l k
  unfold trustquorumlaw23_BallotsOrder.f
  repeat' first
      | (with_reducible exact ih0 _ _ _ _ _ _ _ _ _)
      | (with_reducible exact ih1 _ _ _ _ _ _ _)
      | (with_reducible exact ih2 _ _ _ _ _)
      | (with_reducible exact ballots_Aborts.mono _ _ _ _ _)
      | (with_reducible exact ballots_Less.mono _ _ _ _ _)
      | (with_reducible exact trustquorumlaw23_sane.mono _)
      | (with_reducible exact LeO.refl _)
      | (with_reducible exact LeO.none _)
      | (with_reducible refine LeO.ite ?_ ?_)
      | (with_reducible refine LeO.bind ?_ (fun _ => ?_))
      | exact ih0 _ _ _ _ _ _ _ _ _
      | exact ih1 _ _ _ _ _ _ _
      | exact ih2 _ _ _ _ _
      | exact ballots_Aborts.mono _ _ _ _ _
      | exact ballots_Less.mono _ _ _ _ _
      | exact trustquorumlaw23_sane.mono _
      | exact LeO.none _
      | refine LeO.ite ?_ ?_
      | refine LeO.bind ?_ (fun _ => ?_)
def trustquorumlaw23_BallotsOrder.T4 : Bool × List (List Nat × List Nat) := (true, [([], []), ([], []), ([0, 1], [0, 1]), ([], []), ([], []), ([3, 4, 2], [3, 4]), ([], []), ([], []), ([6, 7], [6, 7]), ([2, 5, 8], [2, 5, 8]), ([], [])])
def trustquorumlaw23_BallotsOrder.B4 : List Nat := [0, 0, 3, 0, 0, 31, 0, 0, 192, 511, 0]
theorem trustquorumlaw23_BallotsOrder.tab4 : rtab .any (opsOf Try.f4 4) = trustquorumlaw23_BallotsOrder.T4 := by kernel_rfl
theorem trustquorumlaw23_BallotsOrder.bits4 : waitsOk trustquorumlaw23_BallotsOrder.T4.2 trustquorumlaw23_BallotsOrder.B4 = true := by kernel_rfl
def trustquorumlaw23_BallotsOrder.T14 : Bool × List (List Nat × List Nat) := (true, [([], []), ([], []), ([0, 1], [0, 1]), ([], []), ([3], [3]), ([], []), ([5], [5]), ([4, 6], [4, 6]), ([2, 7], [2, 7]), ([8, 2], [8]), ([9], [9]), ([9], [9]), ([10, 11, 9, 9], [9, 10, 11]), ([9, 12], [9, 12]), ([13, 12], [13]), ([14], [14]), ([14], [14]), ([15, 16, 14, 14], [14, 15, 16]), ([17, 14], [14, 17]), ([14, 18], [14, 18]), ([19, 17], [19]), ([20, 20], [20]), ([20, 21], [20, 21]), ([22, 21, 0, 1, 2, 3, 4, 5, 6, 7, 8, 9, 10, 11, 12, 13, 14, 15, 16, 17, 18, 19, 20, 21, 22], [22])])
def trustquorumlaw23_BallotsOrder.B14 : List Nat := [0, 0, 3, 0, 8, 0, 32, 120, 255, 511, 1023, 1023, 4095, 8191, 16383, 32767, 32767, 131071, 262143, 524287, 1048575, 2097151, 4194303, 8388607]
theorem trustquorumlaw23_BallotsOrder.tab14 : rtab .any (opsOf Try.f4 14) = trustquorumlaw23_BallotsOrder.T14 := by kernel_rfl
theorem trustquorumlaw23_BallotsOrder.bits14 : waitsOk trustquorumlaw23_BallotsOrder.T14.2 trustquorumlaw23_BallotsOrder.B14 = true := by kernel_rfl
set_option maxHeartbeats 8000000 in
set_option maxRecDepth 100000 in
theorem trustquorumlaw23_BallotsOrder.calls (k : Nat) (A0 : Option Addr) (c0 : Nat) (l0 : List Int) (r : Bool) (w : World) (hr0 : Kd.C (Kd.int .i64) w A0 l0.length l0) (hc0 : l0.length ≤ c0) (HRT : Aside0 (r = true)) (h : trustquorumlaw23_BallotsOrder.f k l0 = some r) :
    Calls Try.prog 4 #[.slice A0 l0.length c0] w fun e w' => e = .returned (.bool r) ∧ Below w.heap.size w w' := by
  have hu26 := Try.underlying26
  have hu33 := Try.underlying33
  have HR0 := Aside0.mk hr0
  have HC0 := Aside0.mk hc0
  clear hr0 hc0
  have HB := Aside0.mk (Below.refl w.heap.size w)
  have H : ((trustquorumplay_New.f l0).bind fun bt173 => ((trustquorumplay_Src_Ballot.f bt173.1 bt173.2).bind fun bt176 => ((trustquorumplay_Src_Ballot.f bt173.1 bt176.2.2).bind fun bt179 => ((trustquorumplay_Src_Ballot.f bt173.1 bt179.2.2).bind fun bt182 => ((ballots_Less.f k bt176.1 bt176.2.1 bt179.1 bt179.2.1).bind fun t188 => ((ballots_Less.f k bt179.1 bt179.2.1 bt176.1 bt176.2.1).bind fun t189 => (trustquorumlaw23_BallotsOrder.l0 k 0 (t188, t189, (bt176.1 == bt179.1 && (bt176.2.1.toList == bt179.2.1.toList))) 0 bt176.1 bt176.2.1 bt179.1 bt179.2.1 bt182.1 bt182.2.1))))))) = some r := h
  clear h
  replace H := Option.bind_eq_some_iff.mp H
  obtain ⟨⟨t173, t174⟩, A20, H⟩ := H
  replace H : ((trustquorumplay_Src_Ballot.f t173 t174).bind fun bt176 => ((trustquorumplay_Src_Ballot.f t173 bt176.2.2).bind fun bt179 => ((trustquorumplay_Src_Ballot.f t173 bt179.2.2).bind fun bt182 => ((ballots_Less.f k bt176.1 bt176.2.1 bt179.1 bt179.2.1).bind fun t188 => ((ballots_Less.f k bt179.1 bt179.2.1 bt176.1 bt176.2.1).bind fun t189 => (trustquorumlaw23_BallotsOrder.l0 k 0 (t188, t189, (bt176.1 == bt179.1 && (bt176.2.1.toList == bt179.2.1.toList))) 0 bt176.1 bt176.2.1 bt179.1 bt179.2.1 bt182.1 bt182.2.1)))))) = some r := H
  have A2 := Aside0.mk A20
  clear A20
  replace H := Option.bind_eq_some_iff.mp H
  obtain ⟨⟨t176, t177, t178⟩, A30, H⟩ := H
  replace H : ((trustquorumplay_Src_Ballot.f t173 t178).bind fun bt179 => ((trustquorumplay_Src_Ballot.f t173 bt179.2.2).bind fun bt182 => ((ballots_Less.f k t176 t177 bt179.1 bt179.2.1).bind fun t188 => ((ballots_Less.f k bt179.1 bt179.2.1 t176 t177).bind fun t189 => (trustquorumlaw23_BallotsOrder.l0 k 0 (t188, t189, (t176 == bt179.1 && (t177.toList == bt179.2.1.toList))) 0 t176 t177 bt179.1 bt179.2.1 bt182.1 bt182.2.1))))) = some r := H
  have A3 := Aside0.mk A30
  clear A30
  replace H := Option.bind_eq_some_iff.mp H
  obtain ⟨⟨t179, t180, t181⟩, A40, H⟩ := H
  replace H : ((trustquorumplay_Src_Ballot.f t173 t181).bind fun bt182 => ((ballots_Less.f k t176 t177 t179 t180).bind fun t188 => ((ballots_Less.f k t179 t180 t176 t177).bind fun t189 => (trustquorumlaw23_BallotsOrder.l0 k 0 (t188, t189, (t176 == t179 && (t177.toList == t180.toList))) 0 t176 t177 t179 t180 bt182.1 bt182.2.1)))) = some r := H
  have A4 := Aside0.mk A40
  clear A40
  replace H := Option.bind_eq_some_iff.mp H
  obtain ⟨⟨t182, t183, t184⟩, A50, H⟩ := H
  replace H : ((ballots_Less.f k t176 t177 t179 t180).bind fun t188 => ((ballots_Less.f k t179 t180 t176 t177).bind fun t189 => (trustquorumlaw23_BallotsOrder.l0 k 0 (t188, t189, (t176 == t179 && (t177.toList == t180.toList))) 0 t176 t177 t179 t180 t182 t183))) = some r := H
  have A5 := Aside0.mk A50
  clear A50
  replace H := Option.bind_eq_some_iff.mp H
  obtain ⟨t188, A60, H⟩ := H
  replace H : ((ballots_Less.f k t179 t180 t176 t177).bind fun t189 => (trustquorumlaw23_BallotsOrder.l0 k 0 (t188, t189, (t176 == t179 && (t177.toList == t180.toList))) 0 t176 t177 t179 t180 t182 t183)) = some r := H
  have A6 := Aside0.mk A60
  clear A60
  replace H := Option.bind_eq_some_iff.mp H
  obtain ⟨t189, A70, H⟩ := H
  replace H : (trustquorumlaw23_BallotsOrder.l0 k 0 (t188, t189, (t176 == t179 && (t177.toList == t180.toList))) 0 t176 t177 t179 t180 t182 t183) = some r := H
  have A7 := Aside0.mk A70
  clear A70
  have H' := Aside0.mk H
  clear H
  go_enter Try.func4, Try.ntmps4
  try go_wp2_with (first | ((with_reducible refine gate_callee (f := 9) rfl ?_); refine goesL_ (some 11) rfl rfl Try.func9 (by kernel_rfl) rfl #[.slice A0 l0.length c0] rfl (by (try simp only [List.map_toArray, List.map_cons, List.map_nil]); first | done | rfl | (simp only [List.length_drop, List.length_take]; rfl)) ?_; (with_reducible refine (trustquorumplay_New.calls _ _ l0 t173 t174 w _ ?side1 ?side2 ?side3 A2.out).mono ?_); (case side1 => repeat (first | (with_reducible first | exact HB.out | apply below_alloc | apply pw_below_drewN | apply below_drew1) | exact HB.out)); (case side2 => exact HR0.out); (case side3 => exact HC0.out); rintro e w8 ⟨g175, rfl, hi, hb, hb2⟩; refine ⟨_, rfl, ?_⟩; have n0_ := Aside0.mk (hb); have n1_ := Aside0.mk (hi); clear HB; have HB := n0_; have HI175 := n1_; clear n0_ n1_; (try clear hb); (try clear hb2); (try clear hk); (try clear hi)) | ((with_reducible refine gate_callee (f := 15) rfl ?_); refine goesL_ (some 13) rfl rfl Try.func15 (by kernel_rfl) rfl #[.pointer (some ⟨g175, 0, none⟩)] rfl (by (try simp only [List.map_toArray, List.map_cons, List.map_nil]); first | done | rfl | (simp only [List.length_drop, List.length_take]; rfl)) ?_; (with_reducible refine (trustquorumplay_Src_Ballot.calls g175 t173 t174 t176 t177 t178 w _ ?side1 ?side2 A3.out).mono ?_); (case side1 => repeat (first | (with_reducible first | exact HI175.out | apply IsS48.alloc | apply IsS48.drewN | apply IsS48.drew | apply IsS48.set_1) | exact HI175.out)); (case side2 => repeat (first | (with_reducible first | exact HB.out | apply below_alloc | apply pw_below_drewN | apply below_drew1 | refine below_set ?_ (IsS48.ge HI175.out)) | exact HB.out)); rintro e w9 ⟨rfl, hi, hb, hk⟩; refine ⟨_, rfl, ?_⟩; have n0_ := Aside0.mk (hb); have n1_ := Aside0.mk (hi); clear HB; clear HI175; have HB := n0_; have HI175 := n1_; clear n0_ n1_; (try clear hb); (try clear hb2); (try clear hk); (try clear hi)) | ((with_reducible refine gate_callee (f := 15) rfl ?_); refine goesL_ (some 15) rfl rfl Try.func15 (by kernel_rfl) rfl #[.pointer (some ⟨g175, 0, none⟩)] rfl (by (try simp only [List.map_toArray, List.map_cons, List.map_nil]); first | done | rfl | (simp only [List.length_drop, List.length_take]; rfl)) ?_; (with_reducible refine (trustquorumplay_Src_Ballot.calls g175 t173 t178 t179 t180 t181 w _ ?side1 ?side2 A4.out).mono ?_); (case side1 => repeat (first | (with_reducible first | exact HI175.out | apply IsS48.alloc | apply IsS48.drewN | apply IsS48.drew | apply IsS48.set_1) | exact HI175.out)); (case side2 => repeat (first | (with_reducible first | exact HB.out | apply below_alloc | apply pw_below_drewN | apply below_drew1 | refine below_set ?_ (IsS48.ge HI175.out)) | exact HB.out)); rintro e w10 ⟨rfl, hi, hb, hk⟩; refine ⟨_, rfl, ?_⟩; have n0_ := Aside0.mk (hb); have n1_ := Aside0.mk (hi); clear HB; clear HI175; have HB := n0_; have HI175 := n1_; clear n0_ n1_; (try clear hb); (try clear hb2); (try clear hk); (try clear hi)) | ((with_reducible refine gate_callee (f := 15) rfl ?_); refine goesL_ (some 17) rfl rfl Try.func15 (by kernel_rfl) rfl #[.pointer (some ⟨g175, 0, none⟩)] rfl (by (try simp only [List.map_toArray, List.map_cons, List.map_nil]); first | done | rfl | (simp only [List.length_drop, List.length_take]; rfl)) ?_; (with_reducible refine (trustquorumplay_Src_Ballot.calls g175 t173 t181 t182 t183 t184 w _ ?side1 ?side2 A5.out).mono ?_); (case side1 => repeat (first | (with_reducible first | exact HI175.out | apply IsS48.alloc | apply IsS48.drewN | apply IsS48.drew | apply IsS48.set_1) | exact HI175.out)); (case side2 => repeat (first | (with_reducible first | exact HB.out | apply below_alloc | apply pw_below_drewN | apply below_drew1 | refine below_set ?_ (IsS48.ge HI175.out)) | exact HB.out)); rintro e w11 ⟨rfl, hi, hb, hk⟩; refine ⟨_, rfl, ?_⟩; have n0_ := Aside0.mk (hb); have n1_ := Aside0.mk (hi); clear HB; clear HI175; have HB := n0_; have HI175 := n1_; clear n0_ n1_; (try clear hb); (try clear hb2); (try clear hk); (try clear hi)) | ((with_reducible refine gate_dst (N := 4) rfl ?_); refine box_event ?hg (N := 4) ?hd (cs := #[.int .i64 0, .string (⟨#[]⟩ : ByteArray)]) (t := 26) ?hr ?_; (case hd => rfl); (case hg => rfl); (case hr => first | (go_simp; done) | (go_simp; rfl)); intro gb185 hg w12 hbox hb; have n0_ := Aside0.mk (IsS48.below (by repeat (first | (with_reducible first | exact HI175.out | apply IsS48.alloc | apply IsS48.drewN | apply IsS48.drew | apply IsS48.set_1) | exact HI175.out)) hb); have n1_ := Aside0.mk (below_step (by repeat (first | (with_reducible first | exact HB.out | apply below_alloc | apply pw_below_drewN | apply below_drew1 | refine below_set ?_ (IsS48.ge HI175.out)) | exact HB.out)) hb); have n2_ := Aside0.mk (hbox); have n3_ := Aside0.mk ((by rw [hg]; exact (below_size (by repeat (first | (with_reducible first | exact HB.out | apply below_alloc | apply pw_below_drewN | apply below_drew1 | refine below_set ?_ (IsS48.ge HI175.out)) | exact HB.out))) : w.heap.size ≤ gb185)); have n4_ := Aside0.mk ((by rw [hg]; exact (below_size (by repeat (first | (with_reducible first | exact HB.out | apply below_alloc | apply pw_below_drewN | apply below_drew1 | refine below_set ?_ (IsS48.ge HI175.out)) | exact HB.out))) : w.heap.size ≤ gb185)); have n5_ := Aside0.mk ((by rw [hg]; exact Nat.ne_of_lt (IsS48.lt (show IsS48 w _ g175 t173 t184 from by repeat (first | (with_reducible first | exact HI175.out | apply IsS48.alloc | apply IsS48.drewN | apply IsS48.drew | apply IsS48.set_1) | exact HI175.out))) : g175 ≠ gb185)); have n6_ := Aside0.mk ((by rw [hg]; exact Nat.ne_of_gt (IsS48.lt (show IsS48 w _ g175 t173 t184 from by repeat (first | (with_reducible first | exact HI175.out | apply IsS48.alloc | apply IsS48.drewN | apply IsS48.drew | apply IsS48.set_1) | exact HI175.out))) : gb185 ≠ g175)); clear HI175; clear HB; have HI175 := n0_; have HB := n1_; have BK185 := n2_; have GW185 := n3_; have GE185 := n4_; have NB175_185 := n5_; have NB185_175 := n6_; clear n0_ n1_ n2_ n3_ n4_ n5_ n6_; clear hb hbox hg) | ((with_reducible refine gate_dst (N := 5) rfl ?_); refine box_event ?hg (N := 5) ?hd (cs := #[.int .i64 0, .string (⟨#[]⟩ : ByteArray)]) (t := 26) ?hr ?_; (case hd => rfl); (case hg => rfl); (case hr => first | (go_simp; done) | (go_simp; rfl)); intro gb186 hg w13 hbox hb; have n0_ := Aside0.mk (IsS48.below (by repeat (first | (with_reducible first | exact HI175.out | apply IsS48.alloc | apply IsS48.drewN | apply IsS48.drew | apply IsS48.set_1 | refine IsS48.far ?_ NB175_185.out _) | exact HI175.out)) hb); have n1_ := Aside0.mk (blk_below (g := gb185) (o := .cells #[.int .i64 0, .string (⟨#[]⟩ : ByteArray)] 26 (0, 0)) (by (with_reducible repeat (first | refine blk_drewN ?_ _ | refine blk_drew ?_ | refine blk_alloc ?_ _)); exact BK185.out) hb); have n2_ := Aside0.mk (below_step (by repeat (first | (with_reducible first | exact HB.out | apply below_alloc | apply pw_below_drewN | apply below_drew1 | refine below_set ?_ (IsS48.ge HI175.out) | refine below_set ?_ GE185.out) | exact HB.out)) hb); have n3_ := Aside0.mk (hbox); have n4_ := Aside0.mk ((by rw [hg]; exact (below_size (by repeat (first | (with_reducible first | exact HB.out | apply below_alloc | apply pw_below_drewN | apply below_drew1 | refine below_set ?_ (IsS48.ge HI175.out) | refine below_set ?_ GE185.out) | exact HB.out))) : w.heap.size ≤ gb186)); have n5_ := Aside0.mk ((by rw [hg]; exact (below_size (by repeat (first | (with_reducible first | exact HB.out | apply below_alloc | apply pw_below_drewN | apply below_drew1 | refine below_set ?_ (IsS48.ge HI175.out) | refine below_set ?_ GE185.out) | exact HB.out))) : w.heap.size ≤ gb186)); have n6_ := Aside0.mk ((by rw [hg]; exact Nat.ne_of_lt (blk_lt (g := gb185) (o := .cells #[.int .i64 0, .string (⟨#[]⟩ : ByteArray)] 26 (0, 0)) (by (with_reducible repeat (first | refine blk_drewN ?_ _ | refine blk_drew ?_ | refine blk_alloc ?_ _)); exact BK185.out)) : gb185 ≠ gb186)); have n7_ := Aside0.mk ((by rw [hg]; exact Nat.ne_of_gt (blk_lt (g := gb185) (o := .cells #[.int .i64 0, .string (⟨#[]⟩ : ByteArray)] 26 (0, 0)) (by (with_reducible repeat (first | refine blk_drewN ?_ _ | refine blk_drew ?_ | refine blk_alloc ?_ _)); exact BK185.out)) : gb186 ≠ gb185)); have n8_ := Aside0.mk ((by rw [hg]; exact Nat.ne_of_lt (IsS48.lt (show IsS48 w _ g175 t173 t184 from by repeat (first | (with_reducible first | exact HI175.out | apply IsS48.alloc | apply IsS48.drewN | apply IsS48.drew | apply IsS48.set_1 | refine IsS48.far ?_ NB175_185.out _) | exact HI175.out))) : g175 ≠ gb186)); have n9_ := Aside0.mk ((by rw [hg]; exact Nat.ne_of_gt (IsS48.lt (show IsS48 w _ g175 t173 t184 from by repeat (first | (with_reducible first | exact HI175.out | apply IsS48.alloc | apply IsS48.drewN | apply IsS48.drew | apply IsS48.set_1 | refine IsS48.far ?_ NB175_185.out _) | exact HI175.out))) : gb186 ≠ g175)); clear HI175; clear BK185; clear HB; have HI175 := n0_; have BK185 := n1_; have HB := n2_; have BK186 := n3_; have GW186 := n4_; have GE186 := n5_; have NB185_186 := n6_; have NB186_185 := n7_; have NB175_186 := n8_; have NB186_175 := n9_; clear n0_ n1_ n2_ n3_ n4_ n5_ n6_ n7_ n8_ n9_; clear hb hbox hg) | ((with_reducible refine gate_dst (N := 6) rfl ?_); refine box_event ?hg (N := 6) ?hd (cs := #[.int .i64 0, .string (⟨#[]⟩ : ByteArray)]) (t := 26) ?hr ?_; (case hd => rfl); (case hg => rfl); (case hr => first | (go_simp; done) | (go_simp; rfl)); intro gb187 hg w14 hbox hb; have n0_ := Aside0.mk (IsS48.below (by repeat (first | (with_reducible first | exact HI175.out | apply IsS48.alloc | apply IsS48.drewN | apply IsS48.drew | apply IsS48.set_1 | refine IsS48.far ?_ NB175_185.out _ | refine IsS48.far ?_ NB175_186.out _) | exact HI175.out)) hb); have n1_ := Aside0.mk (blk_below (g := gb185) (o := .cells #[.int .i64 0, .string (⟨#[]⟩ : ByteArray)] 26 (0, 0)) (by (with_reducible repeat (first | refine blk_drewN ?_ _ | refine blk_drew ?_ | refine blk_alloc ?_ _)); exact BK185.out) hb); have n2_ := Aside0.mk (blk_below (g := gb186) (o := .cells #[.int .i64 0, .string (⟨#[]⟩ : ByteArray)] 26 (0, 0)) (by (with_reducible repeat (first | refine blk_drewN ?_ _ | refine blk_drew ?_ | refine blk_alloc ?_ _)); exact BK186.out) hb); have n3_ := Aside0.mk (below_step (by repeat (first | (with_reducible first | exact HB.out | apply below_alloc | apply pw_below_drewN | apply below_drew1 | refine below_set ?_ (IsS48.ge HI175.out) | refine below_set ?_ GE185.out | refine below_set ?_ GE186.out) | exact HB.out)) hb); have n4_ := Aside0.mk (hbox); have n5_ := Aside0.mk ((by rw [hg]; exact (below_size (by repeat (first | (with_reducible first | exact HB.out | apply below_alloc | apply pw_below_drewN | apply below_drew1 | refine below_set ?_ (IsS48.ge HI175.out) | refine below_set ?_ GE185.out | refine below_set ?_ GE186.out) | exact HB.out))) : w.heap.size ≤ gb187)); have n6_ := Aside0.mk ((by rw [hg]; exact (below_size (by repeat (first | (with_reducible first | exact HB.out | apply below_alloc | apply pw_below_drewN | apply below_drew1 | refine below_set ?_ (IsS48.ge HI175.out) | refine below_set ?_ GE185.out | refine below_set ?_ GE186.out) | exact HB.out))) : w.heap.size ≤ gb187)); have n7_ := Aside0.mk ((by rw [hg]; exact Nat.ne_of_lt (blk_lt (g := gb185) (o := .cells #[.int .i64 0, .string (⟨#[]⟩ : ByteArray)] 26 (0, 0)) (by (with_reducible repeat (first | refine blk_drewN ?_ _ | refine blk_drew ?_ | refine blk_alloc ?_ _)); exact BK185.out)) : gb185 ≠ gb187)); have n8_ := Aside0.mk ((by rw [hg]; exact Nat.ne_of_gt (blk_lt (g := gb185) (o := .cells #[.int .i64 0, .string (⟨#[]⟩ : ByteArray)] 26 (0, 0)) (by (with_reducible repeat (first | refine blk_drewN ?_ _ | refine blk_drew ?_ | refine blk_alloc ?_ _)); exact BK185.out)) : gb187 ≠ gb185)); have n9_ := Aside0.mk ((by rw [hg]; exact Nat.ne_of_lt (blk_lt (g := gb186) (o := .cells #[.int .i64 0, .string (⟨#[]⟩ : ByteArray)] 26 (0, 0)) (by (with_reducible repeat (first | refine blk_drewN ?_ _ | refine blk_drew ?_ | refine blk_alloc ?_ _)); exact BK186.out)) : gb186 ≠ gb187)); have n10_ := Aside0.mk ((by rw [hg]; exact Nat.ne_of_gt (blk_lt (g := gb186) (o := .cells #[.int .i64 0, .string (⟨#[]⟩ : ByteArray)] 26 (0, 0)) (by (with_reducible repeat (first | refine blk_drewN ?_ _ | refine blk_drew ?_ | refine blk_alloc ?_ _)); exact BK186.out)) : gb187 ≠ gb186)); have n11_ := Aside0.mk ((by rw [hg]; exact Nat.ne_of_lt (IsS48.lt (show IsS48 w _ g175 t173 t184 from by repeat (first | (with_reducible first | exact HI175.out | apply IsS48.alloc | apply IsS48.drewN | apply IsS48.drew | apply IsS48.set_1 | refine IsS48.far ?_ NB175_185.out _ | refine IsS48.far ?_ NB175_186.out _) | exact HI175.out))) : g175 ≠ gb187)); have n12_ := Aside0.mk ((by rw [hg]; exact Nat.ne_of_gt (IsS48.lt (show IsS48 w _ g175 t173 t184 from by repeat (first | (with_reducible first | exact HI175.out | apply IsS48.alloc | apply IsS48.drewN | apply IsS48.drew | apply IsS48.set_1 | refine IsS48.far ?_ NB175_185.out _ | refine IsS48.far ?_ NB175_186.out _) | exact HI175.out))) : gb187 ≠ g175)); clear HI175; clear BK185; clear BK186; clear HB; have HI175 := n0_; have BK185 := n1_; have BK186 := n2_; have HB := n3_; have BK187 := n4_; have GW187 := n5_; have GE187 := n6_; have NB185_187 := n7_; have NB187_185 := n8_; have NB186_187 := n9_; have NB187_186 := n10_; have NB175_187 := n11_; have NB187_175 := n12_; clear n0_ n1_ n2_ n3_ n4_ n5_ n6_ n7_ n8_ n9_ n10_ n11_ n12_; clear hb hbox hg; have hnb15 := NB185_186.out; have hnc15 := NB186_185.out; have hnb16 := NB185_187.out; have hnc16 := NB187_185.out; have hnb17 := NB185_175.out; have hnc17 := NB175_185.out; have hcz18_0 : w14.cell? ⟨gb185, 0, none⟩ = some (.int .i64 0) := (blk_cell BK185.out 0).trans rfl; have hcz18_1 : w14.cell? ⟨gb185, 1, none⟩ = some (.string (⟨#[]⟩ : ByteArray)) := (blk_cell BK185.out 1).trans rfl; have hfz18_0 := blk_frozen BK185.out 0; have hfz18_1 := blk_frozen BK185.out 1; have hnb19 := NB186_187.out; have hnc19 := NB187_186.out; have hnb20 := NB186_175.out; have hnc20 := NB175_186.out; have hcz21_0 : w14.cell? ⟨gb186, 0, none⟩ = some (.int .i64 0) := (blk_cell BK186.out 0).trans rfl; have hcz21_1 : w14.cell? ⟨gb186, 1, none⟩ = some (.string (⟨#[]⟩ : ByteArray)) := (blk_cell BK186.out 1).trans rfl; have hfz21_0 := blk_frozen BK186.out 0; have hfz21_1 := blk_frozen BK186.out 1; have hnb22 := NB187_175.out; have hnc22 := NB175_187.out; have hcz23_0 : w14.cell? ⟨gb187, 0, none⟩ = some (.int .i64 0) := (blk_cell BK187.out 0).trans rfl; have hcz23_1 : w14.cell? ⟨gb187, 1, none⟩ = some (.string (⟨#[]⟩ : ByteArray)) := (blk_cell BK187.out 1).trans rfl; have hfz23_0 := blk_frozen BK187.out 0; have hfz23_1 := blk_frozen BK187.out 1))
  have n0_ : Aside0 (((((((w14.setCell ⟨gb185, 0, none⟩ (.int .i64 t176)).setCell ⟨gb185, 1, none⟩ (.string t177)).setCell ⟨gb186, 0, none⟩ (.int .i64 t179)).setCell ⟨gb186, 1, none⟩ (.string t180)).setCell ⟨gb187, 0, none⟩ (.int .i64 t182)).setCell ⟨gb187, 1, none⟩ (.string t183)).heap[gb185]? = some (.cells #[.int .i64 t176, .string t177] 26 (0, 0))) := ⟨by (with_reducible repeat (first | refine blk_drewN ?_ _ | refine blk_drew ?_ | refine blk_alloc ?_ _)); refine blk_far ?_ NB185_187.out _; (with_reducible repeat (first | refine blk_drewN ?_ _ | refine blk_drew ?_ | refine blk_alloc ?_ _)); refine blk_far ?_ NB185_187.out _; (with_reducible repeat (first | refine blk_drewN ?_ _ | refine blk_drew ?_ | refine blk_alloc ?_ _)); refine blk_far ?_ NB185_186.out _; (with_reducible repeat (first | refine blk_drewN ?_ _ | refine blk_drew ?_ | refine blk_alloc ?_ _)); refine blk_far ?_ NB185_186.out _; (with_reducible repeat (first | refine blk_drewN ?_ _ | refine blk_drew ?_ | refine blk_alloc ?_ _)); refine blk_put (cs := #[.int .i64 t176, .string (⟨#[]⟩ : ByteArray)]) ?_ 1 _ rfl; (with_reducible repeat (first | refine blk_drewN ?_ _ | refine blk_drew ?_ | refine blk_alloc ?_ _)); refine blk_put (cs := #[.int .i64 0, .string (⟨#[]⟩ : ByteArray)]) ?_ 0 _ rfl; (with_reducible repeat (first | refine blk_drewN ?_ _ | refine blk_drew ?_ | refine blk_alloc ?_ _)); exact BK185.out⟩
  have n1_ : Aside0 (((((((w14.setCell ⟨gb185, 0, none⟩ (.int .i64 t176)).setCell ⟨gb185, 1, none⟩ (.string t177)).setCell ⟨gb186, 0, none⟩ (.int .i64 t179)).setCell ⟨gb186, 1, none⟩ (.string t180)).setCell ⟨gb187, 0, none⟩ (.int .i64 t182)).setCell ⟨gb187, 1, none⟩ (.string t183)).heap[gb186]? = some (.cells #[.int .i64 t179, .string t180] 26 (0, 0))) := ⟨by (with_reducible repeat (first | refine blk_drewN ?_ _ | refine blk_drew ?_ | refine blk_alloc ?_ _)); refine blk_far ?_ NB186_187.out _; (with_reducible repeat (first | refine blk_drewN ?_ _ | refine blk_drew ?_ | refine blk_alloc ?_ _)); refine blk_far ?_ NB186_187.out _; (with_reducible repeat (first | refine blk_drewN ?_ _ | refine blk_drew ?_ | refine blk_alloc ?_ _)); refine blk_put (cs := #[.int .i64 t179, .string (⟨#[]⟩ : ByteArray)]) ?_ 1 _ rfl; (with_reducible repeat (first | refine blk_drewN ?_ _ | refine blk_drew ?_ | refine blk_alloc ?_ _)); refine blk_put (cs := #[.int .i64 0, .string (⟨#[]⟩ : ByteArray)]) ?_ 0 _ rfl; (with_reducible repeat (first | refine blk_drewN ?_ _ | refine blk_drew ?_ | refine blk_alloc ?_ _)); refine blk_far ?_ NB186_185.out _; (with_reducible repeat (first | refine blk_drewN ?_ _ | refine blk_drew ?_ | refine blk_alloc ?_ _)); refine blk_far ?_ NB186_185.out _; (with_reducible repeat (first | refine blk_drewN ?_ _ | refine blk_drew ?_ | refine blk_alloc ?_ _)); exact BK186.out⟩
  have n2_ : Aside0 (((((((w14.setCell ⟨gb185, 0, none⟩ (.int .i64 t176)).setCell ⟨gb185, 1, none⟩ (.string t177)).setCell ⟨gb186, 0, none⟩ (.int .i64 t179)).setCell ⟨gb186, 1, none⟩ (.string t180)).setCell ⟨gb187, 0, none⟩ (.int .i64 t182)).setCell ⟨gb187, 1, none⟩ (.string t183)).heap[gb187]? = some (.cells #[.int .i64 t182, .string t183] 26 (0, 0))) := ⟨by (with_reducible repeat (first | refine blk_drewN ?_ _ | refine blk_drew ?_ | refine blk_alloc ?_ _)); refine blk_put (cs := #[.int .i64 t182, .string (⟨#[]⟩ : ByteArray)]) ?_ 1 _ rfl; (with_reducible repeat (first | refine blk_drewN ?_ _ | refine blk_drew ?_ | refine blk_alloc ?_ _)); refine blk_put (cs := #[.int .i64 0, .string (⟨#[]⟩ : ByteArray)]) ?_ 0 _ rfl; (with_reducible repeat (first | refine blk_drewN ?_ _ | refine blk_drew ?_ | refine blk_alloc ?_ _)); refine blk_far ?_ NB187_186.out _; (with_reducible repeat (first | refine blk_drewN ?_ _ | refine blk_drew ?_ | refine blk_alloc ?_ _)); refine blk_far ?_ NB187_186.out _; (with_reducible repeat (first | refine blk_drewN ?_ _ | refine blk_drew ?_ | refine blk_alloc ?_ _)); refine blk_far ?_ NB187_185.out _; (with_reducible repeat (first | refine blk_drewN ?_ _ | refine blk_drew ?_ | refine blk_alloc ?_ _)); refine blk_far ?_ NB187_185.out _; (with_reducible repeat (first | refine blk_drewN ?_ _ | refine blk_drew ?_ | refine blk_alloc ?_ _)); exact BK187.out⟩
  have n3_ : Aside0 (IsS48 w ((((((w14.setCell ⟨gb185, 0, none⟩ (.int .i64 t176)).setCell ⟨gb185, 1, none⟩ (.string t177)).setCell ⟨gb186, 0, none⟩ (.int .i64 t179)).setCell ⟨gb186, 1, none⟩ (.string t180)).setCell ⟨gb187, 0, none⟩ (.int .i64 t182)).setCell ⟨gb187, 1, none⟩ (.string t183)) g175 t173 t184) := ⟨by repeat (first | (with_reducible first | exact HI175.out | apply IsS48.alloc | apply IsS48.drewN | apply IsS48.drew | apply IsS48.set_1 | refine IsS48.far ?_ NB175_185.out _ | refine IsS48.far ?_ NB175_186.out _ | refine IsS48.far ?_ NB175_187.out _) | exact HI175.out)⟩
  have n4_ : Aside0 (Below w.heap.size w ((((((w14.setCell ⟨gb185, 0, none⟩ (.int .i64 t176)).setCell ⟨gb185, 1, none⟩ (.string t177)).setCell ⟨gb186, 0, none⟩ (.int .i64 t179)).setCell ⟨gb186, 1, none⟩ (.string t180)).setCell ⟨gb187, 0, none⟩ (.int .i64 t182)).setCell ⟨gb187, 1, none⟩ (.string t183))) := ⟨by repeat (first | (with_reducible first | exact HB.out | apply below_alloc | apply pw_below_drewN | apply below_drew1 | refine below_set ?_ (IsS48.ge HI175.out) | refine below_set ?_ GE185.out | refine below_set ?_ GE186.out | refine below_set ?_ GE187.out) | exact HB.out)⟩
  (try clear BK185)
  (try clear BK186)
  (try clear BK187)
  (try clear HI175)
  (try clear HB)
  generalize ((((((w14.setCell ⟨gb185, 0, none⟩ (.int .i64 t176)).setCell ⟨gb185, 1, none⟩ (.string t177)).setCell ⟨gb186, 0, none⟩ (.int .i64 t179)).setCell ⟨gb186, 1, none⟩ (.string t180)).setCell ⟨gb187, 0, none⟩ (.int .i64 t182)).setCell ⟨gb187, 1, none⟩ (.string t183)) = w24 at n0_ n1_ n2_ n3_ n4_ ⊢
  have BK185 := n0_
  have BK186 := n1_
  have BK187 := n2_
  have HI175 := n3_
  have HB := n4_
  clear n0_ n1_ n2_ n3_ n4_
  have n0_ := Aside0.mk (blk_drew BK185.out)
  have n1_ := Aside0.mk (blk_drew BK186.out)
  have n2_ := Aside0.mk (blk_drew BK187.out)
  have n3_ := Aside0.mk (IsS48.drew HI175.out)
  have n4_ := Aside0.mk (below_drew1 HB.out)
  clear BK185
  clear BK186
  clear BK187
  clear HI175
  clear HB
  have BK185 := n0_
  have BK186 := n1_
  have BK187 := n2_
  have HI175 := n3_
  have HB := n4_
  clear n0_ n1_ n2_ n3_ n4_
  refine start_ (n := 11) (S := fun w' => w'.cell? ⟨gb185, 0, none⟩ = some (.int .i64 t176) ∧ w'.cell? ⟨gb185, 1, none⟩ = some (.string t177) ∧ w'.cell? ⟨gb186, 0, none⟩ = some (.int .i64 t179) ∧ w'.cell? ⟨gb186, 1, none⟩ = some (.string t180)) (ds := []) #[false, false, false, false, false, false, false, false, false, false, false] (by kernel_rfl) rfl rfl ⟨(blk_cell BK185.out 0).trans rfl, (blk_cell BK185.out 1).trans rfl, (blk_cell BK186.out 0).trans rfl, (blk_cell BK186.out 1).trans rfl⟩ (fun hHeld => ?_); refine with_tabW trustquorumlaw23_BallotsOrder.tab4 trustquorumlaw23_BallotsOrder.bits4 (fun HT_ HW_ => ?_)
  generalize w24.drew = w25 at BK185 BK186 BK187 HI175 HB hHeld ⊢
  refine pure_ (i := 10) (N := some 28) (v := ?_) (a' := ?_) #[false, false, false, false, false, false, false, false, false, false, true] rfl rfl (any_of HT_.out (by kernel_rfl)) (fun _ _ _ h => h) (Or.inl ⟨by rfl, ?_⟩) ?_ ?_
  rotate_left
  · intro w'
    go_simp
    with_reducible rfl
  rotate_left
  · simp only [Act.put, List.setIfInBounds_toArray, List.set_cons_zero, List.set_cons_succ, i64_w, i32_w]
    rfl
  refine take_ (i := 0) (N := some 18) (v := ?_) (a' := ?_) #[true, false, false, false, false, false, false, false, false, false, true] rfl rfl (take_ofW HT_.out HW_.out (by kernel_rfl)) (fun _ _ _ h => h) (Or.inl ⟨by rfl, ?_⟩) hHeld ?_ ?_
  rotate_left
  · rintro w' ⟨s0, s1, s2, s3⟩
    go_simp
    with_reducible rfl
  rotate_left
  · simp only [Act.put, List.setIfInBounds_toArray, List.set_cons_zero, List.set_cons_succ, i64_w, i32_w]
    rfl
  refine take_ (i := 1) (N := some 19) (v := ?_) (a' := ?_) #[true, true, false, false, false, false, false, false, false, false, true] rfl rfl (take_ofW HT_.out HW_.out (by kernel_rfl)) (fun _ _ _ h => h) (Or.inl ⟨by rfl, ?_⟩) hHeld ?_ ?_
  rotate_left
  · rintro w' ⟨s0, s1, s2, s3⟩
    go_simp
    with_reducible rfl
  rotate_left
  · simp only [Act.put, List.setIfInBounds_toArray, List.set_cons_zero, List.set_cons_succ, i64_w, i32_w]
    rfl
  refine take_ (i := 3) (N := some 21) (v := ?_) (a' := ?_) #[true, true, false, true, false, false, false, false, false, false, true] rfl rfl (take_ofW HT_.out HW_.out (by kernel_rfl)) (fun _ _ _ h => h) (Or.inl ⟨by rfl, ?_⟩) hHeld ?_ ?_
  rotate_left
  · rintro w' ⟨s0, s1, s2, s3⟩
    go_simp
    with_reducible rfl
  rotate_left
  · simp only [Act.put, List.setIfInBounds_toArray, List.set_cons_zero, List.set_cons_succ, i64_w, i32_w]
    rfl
  refine take_ (i := 4) (N := some 22) (v := ?_) (a' := ?_) #[true, true, false, true, true, false, false, false, false, false, true] rfl rfl (take_ofW HT_.out HW_.out (by kernel_rfl)) (fun _ _ _ h => h) (Or.inl ⟨by rfl, ?_⟩) hHeld ?_ ?_
  rotate_left
  · rintro w' ⟨s0, s1, s2, s3⟩
    go_simp
    with_reducible rfl
  rotate_left
  · simp only [Act.put, List.setIfInBounds_toArray, List.set_cons_zero, List.set_cons_succ, i64_w, i32_w]
    rfl
  refine take_ (i := 6) (N := some 24) (v := ?_) (a' := ?_) #[true, true, false, true, true, false, true, false, false, false, true] rfl rfl (take_ofW HT_.out HW_.out (by kernel_rfl)) (fun _ _ _ h => h) (Or.inl ⟨by rfl, ?_⟩) hHeld ?_ ?_
  rotate_left
  · rintro w' ⟨s0, s1, s2, s3⟩
    go_simp
    with_reducible rfl
  rotate_left
  · simp only [Act.put, List.setIfInBounds_toArray, List.set_cons_zero, List.set_cons_succ, i64_w, i32_w]
    rfl
  refine take_ (i := 7) (N := some 25) (v := ?_) (a' := ?_) #[true, true, false, true, true, false, true, true, false, false, true] rfl rfl (take_ofW HT_.out HW_.out (by kernel_rfl)) (fun _ _ _ h => h) (Or.inl ⟨by rfl, ?_⟩) hHeld ?_ ?_
  rotate_left
  · rintro w' ⟨s0, s1, s2, s3⟩
    go_simp
    with_reducible rfl
  rotate_left
  · simp only [Act.put, List.setIfInBounds_toArray, List.set_cons_zero, List.set_cons_succ, i64_w, i32_w]
    rfl
  refine pure_ (i := 8) (N := some 26) (v := ?_) (a' := ?_) #[true, true, false, true, true, false, true, true, true, false, true] rfl rfl (any_of HT_.out (by kernel_rfl)) (fun _ _ _ h => h) (Or.inl ⟨by rfl, ?_⟩) ?_ ?_
  rotate_left
  · intro w'
    go_simp
    with_reducible rfl
  rotate_left
  · simp only [Act.put, List.setIfInBounds_toArray, List.set_cons_zero, List.set_cons_succ, i64_w, i32_w]
    rfl
  refine one_ (i := 2) (N := some 20) #[true, true, true, true, true, false, true, true, true, false, true] rfl rfl (one_of HT_.out (by kernel_rfl)) (by decide) (fun K hK => ?_)
  refine goes_ Try.func16 (by kernel_rfl) rfl #[.agg #[.int .i64 t176, .string t177], .agg #[.int .i64 t179, .string t180]] (by rfl) rfl rfl (by (try simp only [List.map_toArray, List.map_cons, List.map_nil]); first | done | rfl | (simp only [List.length_drop, List.length_take]; rfl)) ?_
  with_reducible refine (ballots_Less.calls k t176 t177 t179 t180 t188 _ A6.out).mono ?_
  rintro e w26 ⟨rfl, hb⟩
  refine ⟨_, rfl, ?_⟩
  have n0_ := Aside0.mk (IsS48.below (by repeat (first | (with_reducible first | exact HI175.out | apply IsS48.alloc | apply IsS48.drewN | apply IsS48.drew | apply IsS48.set_1 | refine IsS48.far ?_ NB175_185.out _ | refine IsS48.far ?_ NB175_186.out _ | refine IsS48.far ?_ NB175_187.out _) | exact HI175.out)) hb)
  have n1_ := Aside0.mk (blk_below (g := gb185) (o := .cells #[.int .i64 t176, .string t177] 26 (0, 0)) (by (with_reducible repeat (first | refine blk_drewN ?_ _ | refine blk_drew ?_ | refine blk_alloc ?_ _)); exact BK185.out) hb)
  have n2_ := Aside0.mk (blk_below (g := gb186) (o := .cells #[.int .i64 t179, .string t180] 26 (0, 0)) (by (with_reducible repeat (first | refine blk_drewN ?_ _ | refine blk_drew ?_ | refine blk_alloc ?_ _)); exact BK186.out) hb)
  have n3_ := Aside0.mk (blk_below (g := gb187) (o := .cells #[.int .i64 t182, .string t183] 26 (0, 0)) (by (with_reducible repeat (first | refine blk_drewN ?_ _ | refine blk_drew ?_ | refine blk_alloc ?_ _)); exact BK187.out) hb)
  have n4_ := Aside0.mk (below_step (by repeat (first | (with_reducible first | exact HB.out | apply below_alloc | apply pw_below_drewN | apply below_drew1 | refine below_set ?_ (IsS48.ge HI175.out) | refine below_set ?_ GE185.out | refine below_set ?_ GE186.out | refine below_set ?_ GE187.out) | exact HB.out)) hb)
  clear HI175
  clear BK185
  clear BK186
  clear BK187
  clear HB
  have HI175 := n0_
  have BK185 := n1_
  have BK186 := n2_
  have BK187 := n3_
  have HB := n4_
  clear n0_ n1_ n2_ n3_ n4_
  (try clear hb)
  (try clear hb2)
  (try clear hk)
  (try clear hi)
  refine hK.out _ _ ⟨(blk_cell BK185.out 0).trans rfl, (blk_cell BK185.out 1).trans rfl, (blk_cell BK186.out 0).trans rfl, (blk_cell BK186.out 1).trans rfl⟩ (fun hHeld => ?_)
  clear hK K
  refine norm_ (a' := ?_) ?_ ?_
  rotate_left
  · show Act.put _ (some 20) _ = _
    simp only [Act.put, List.setIfInBounds_toArray, List.set_cons_zero, List.set_cons_succ, i64_w, i32_w]
    rfl
  refine one_ (i := 5) (N := some 23) #[true, true, true, true, true, true, true, true, true, false, true] rfl rfl (one_of HT_.out (by kernel_rfl)) (by decide) (fun K hK => ?_)
  refine goes_ Try.func16 (by kernel_rfl) rfl #[.agg #[.int .i64 t179, .string t180], .agg #[.int .i64 t176, .string t177]] (by rfl) rfl rfl (by (try simp only [List.map_toArray, List.map_cons, List.map_nil]); first | done | rfl | (simp only [List.length_drop, List.length_take]; rfl)) ?_
  with_reducible refine (ballots_Less.calls k t179 t180 t176 t177 t189 _ A7.out).mono ?_
  rintro e w27 ⟨rfl, hb⟩
  refine ⟨_, rfl, ?_⟩
  have n0_ := Aside0.mk (IsS48.below (by repeat (first | (with_reducible first | exact HI175.out | apply IsS48.alloc | apply IsS48.drewN | apply IsS48.drew | apply IsS48.set_1 | refine IsS48.far ?_ NB175_185.out _ | refine IsS48.far ?_ NB175_186.out _ | refine IsS48.far ?_ NB175_187.out _) | exact HI175.out)) hb)
  have n1_ := Aside0.mk (blk_below (g := gb185) (o := .cells #[.int .i64 t176, .string t177] 26 (0, 0)) (by (with_reducible repeat (first | refine blk_drewN ?_ _ | refine blk_drew ?_ | refine blk_alloc ?_ _)); exact BK185.out) hb)
  have n2_ := Aside0.mk (blk_below (g := gb186) (o := .cells #[.int .i64 t179, .string t180] 26 (0, 0)) (by (with_reducible repeat (first | refine blk_drewN ?_ _ | refine blk_drew ?_ | refine blk_alloc ?_ _)); exact BK186.out) hb)
  have n3_ := Aside0.mk (blk_below (g := gb187) (o := .cells #[.int .i64 t182, .string t183] 26 (0, 0)) (by (with_reducible repeat (first | refine blk_drewN ?_ _ | refine blk_drew ?_ | refine blk_alloc ?_ _)); exact BK187.out) hb)
  have n4_ := Aside0.mk (below_step (by repeat (first | (with_reducible first | exact HB.out | apply below_alloc | apply pw_below_drewN | apply below_drew1 | refine below_set ?_ (IsS48.ge HI175.out) | refine below_set ?_ GE185.out | refine below_set ?_ GE186.out | refine below_set ?_ GE187.out) | exact HB.out)) hb)
  clear HI175
  clear BK185
  clear BK186
  clear BK187
  clear HB
  have HI175 := n0_
  have BK185 := n1_
  have BK186 := n2_
  have BK187 := n3_
  have HB := n4_
  clear n0_ n1_ n2_ n3_ n4_
  (try clear hb)
  (try clear hb2)
  (try clear hk)
  (try clear hi)
  refine hK.out _ _ ⟨(blk_cell BK185.out 0).trans rfl, (blk_cell BK185.out 1).trans rfl, (blk_cell BK186.out 0).trans rfl, (blk_cell BK186.out 1).trans rfl⟩ (fun hHeld => ?_)
  clear hK K
  refine norm_ (a' := ?_) ?_ ?_
  rotate_left
  · show Act.put _ (some 23) _ = _
    simp only [Act.put, List.setIfInBounds_toArray, List.set_cons_zero, List.set_cons_succ, i64_w, i32_w]
    rfl
  refine pure_ (i := 9) (N := some 27) (v := ?_) (a' := ?_) #[true, true, true, true, true, true, true, true, true, true, true] rfl rfl (any_of HT_.out (by kernel_rfl)) (fun _ _ _ h => h) (Or.inl ⟨by rfl, ?_⟩) ?_ ?_
  rotate_left
  · intro w'
    go_simp
    with_reducible rfl
  rotate_left
  · simp only [Act.put, List.setIfInBounds_toArray, List.set_cons_zero, List.set_cons_succ, i64_w, i32_w]
    rfl
  refine done_ (done_of HT_.out (by kernel_rfl)) ?_
  try go_wp2
  go_loopg [7, 28] k (fun kq v7 v28 w' => ∃ (x7_1 : Int) (x28_1 : Int), v7 = .int .i64 x7_1 ∧ v28 = .int .i64 x28_1 ∧ Aside0 (trustquorumlaw23_BallotsOrder.l0 kq x7_1 (t188, t189, (t176 == t179 && (t177.toList == t180.toList))) x28_1 t176 t177 t179 t180 t182 t183 = some r) ∧ Aside0 (kq ≤ k) ∧ Aside0 (w'.heap[gb185]? = some (.cells #[.int .i64 t176, .string t177] 26 (0, 0))) ∧ Aside0 (w'.heap[gb186]? = some (.cells #[.int .i64 t179, .string t180] 26 (0, 0))) ∧ Aside0 (w'.heap[gb187]? = some (.cells #[.int .i64 t182, .string t183] 26 (0, 0))) ∧ Aside0 (Below w.heap.size w w'))
  case atStart => exact ⟨(0), (0), (by first | rfl | (simp; done) | (simp [*]; done)), (by first | rfl | (simp; done) | (simp [*]; done) | (refine congrArg (Value.int .i64) ?_; unfold wrap64; omega)), H', ⟨Nat.le_refl _⟩, ⟨by (with_reducible repeat (first | refine blk_drewN ?_ _ | refine blk_drew ?_ | refine blk_alloc ?_ _)); exact BK185.out⟩, ⟨by (with_reducible repeat (first | refine blk_drewN ?_ _ | refine blk_drew ?_ | refine blk_alloc ?_ _)); exact BK186.out⟩, ⟨by (with_reducible repeat (first | refine blk_drewN ?_ _ | refine blk_drew ?_ | refine blk_alloc ?_ _)); exact BK187.out⟩, ⟨by repeat (first | (with_reducible first | exact HB.out | apply below_alloc | apply pw_below_drewN | apply below_drew1 | refine below_set ?_ (IsS48.ge HI175.out) | refine below_set ?_ GE185.out | refine below_set ?_ GE186.out | refine below_set ?_ GE187.out) | exact HB.out)⟩⟩
  case round =>
    clear H'
    try clear c1
    try clear c2
    try clear p2
    try clear c4
    try clear c9
    try clear c15
    try clear c16
    try clear c17
    try clear c19
    try clear c20
    try clear c22
    try clear hcz18_0
    try clear hcz18_1
    try clear hcz21_0
    try clear hcz21_1
    try clear hcz23_0
    try clear hcz23_1
    try clear hfz18_0
    try clear hfz18_1
    try clear hfz21_0
    try clear hfz21_1
    try clear hfz23_0
    try clear hfz23_1
    obtain ⟨x7_1, x28_1, rfl, rfl, HA, HK1, BK185, BK186, BK187, HB⟩ := hrel
    cases gk with
    | zero => exact absurd HA.out (by simp [trustquorumlaw23_BallotsOrder.l0])
    | succ k1 =>
      have H := HA.out
      clear HA
      simp only [trustquorumlaw23_BallotsOrder.l0] at H
      by_cases c28 : x28_1 < 3
      · rw [if_pos c28] at H
        have c28b0 : decide (x28_1 < 3) = true := decide_eq_true c28
        clear c28
        by_cases c29 : 0 ≤ x28_1
        · rw [if_pos c29] at H
          have c29b0 : decide (0 ≤ x28_1) = true := decide_eq_true c29
          clear c29
          obtain ⟨bq31, hbq31⟩ : ∃ b_ : Bool, b_ = (rda3t (t188, t189, (t176 == t179 && (t177.toList == t180.toList))) x28_1) := ⟨_, rfl⟩
          replace H : (if (bq31) = true then (trustquorumlaw23_BallotsOrder.l0 k1 (wrap64 (x7_1 + 1)) (t188, t189, (t176 == t179 && (t177.toList == t180.toList))) (wrap64 (x28_1 + 1)) t176 t177 t179 t180 t182 t183) else (trustquorumlaw23_BallotsOrder.l0 k1 x7_1 (t188, t189, (t176 == t179 && (t177.toList == t180.toList))) (wrap64 (x28_1 + 1)) t176 t177 t179 t180 t182 t183)) = some r := by rw [← hbq31] at H; exact H
          have Nbq31 := Aside0.mk hbq31
          clear hbq31
          by_cases c32 : (bq31) = true
          · rw [if_pos c32] at H
            have c32b0 : (bq31) = true := c32
            clear c32
            have H' := Aside0.mk H
            clear H
            have p30 : 0 ≤ (x28_1 : Int) := of_decide_eq_true (by first | (with_reducible assumption) | assumption)
            have q30 : (x28_1 : Int) < 3 := of_decide_eq_true (by first | (with_reducible assumption) | assumption)
            have hx30 : ∀ w_ : World, (Instr.index 33 (.agg #[.bool t188, .bool t189, .bool (t176 == t179 && (t177.toList == t180.toList))]) (.int .i64 x28_1)).run Try.prog w_ = .ok (.bool (rda3t (t188, t189, (t176 == t179 && (t177.toList == t180.toList))) x28_1)) w_ := fun w_ => mine_index3 33 4 Try.underlying33 Try.sizeOf4 Try.isAgg4 t188 t189 (t176 == t179 && (t177.toList == t180.toList)) .i64 x28_1 p30 q30 w_
            (try rw [← Nbq31.out] at hx30)
            go_wp2
            go_roundg k1
            case measure => have := HK1.out; omega
            case rel => exact ⟨(wrap64 (x7_1 + 1)), (wrap64 (x28_1 + 1)), (by first | rfl | (simp; done) | (simp [*]; done)), (by first | rfl | (simp; done) | (simp [*]; done) | (refine congrArg (Value.int .i64) ?_; unfold wrap64; omega)), H', ⟨by have := HK1.out; omega⟩, ⟨by (with_reducible repeat (first | refine blk_drewN ?_ _ | refine blk_drew ?_ | refine blk_alloc ?_ _)); exact BK185.out⟩, ⟨by (with_reducible repeat (first | refine blk_drewN ?_ _ | refine blk_drew ?_ | refine blk_alloc ?_ _)); exact BK186.out⟩, ⟨by (with_reducible repeat (first | refine blk_drewN ?_ _ | refine blk_drew ?_ | refine blk_alloc ?_ _)); exact BK187.out⟩, ⟨by repeat (first | (with_reducible first | exact HB.out | apply below_alloc | apply pw_below_drewN | apply below_drew1 | refine below_set ?_ GE185.out | refine below_set ?_ GE186.out | refine below_set ?_ GE187.out) | exact HB.out)⟩⟩
          · rw [if_neg c32] at H
            have c32b0 : (bq31) = false := by simpa using c32
            clear c32
            have H' := Aside0.mk H
            clear H
            have p30 : 0 ≤ (x28_1 : Int) := of_decide_eq_true (by first | (with_reducible assumption) | assumption)
            have q30 : (x28_1 : Int) < 3 := of_decide_eq_true (by first | (with_reducible assumption) | assumption)
            have hx30 : ∀ w_ : World, (Instr.index 33 (.agg #[.bool t188, .bool t189, .bool (t176 == t179 && (t177.toList == t180.toList))]) (.int .i64 x28_1)).run Try.prog w_ = .ok (.bool (rda3t (t188, t189, (t176 == t179 && (t177.toList == t180.toList))) x28_1)) w_ := fun w_ => mine_index3 33 4 Try.underlying33 Try.sizeOf4 Try.isAgg4 t188 t189 (t176 == t179 && (t177.toList == t180.toList)) .i64 x28_1 p30 q30 w_
            (try rw [← Nbq31.out] at hx30)
            go_wp2
            go_roundg k1
            case measure => have := HK1.out; omega
            case rel => exact ⟨(x7_1), (wrap64 (x28_1 + 1)), (by first | rfl | (simp; done) | (simp [*]; done)), (by first | rfl | (simp; done) | (simp [*]; done) | (refine congrArg (Value.int .i64) ?_; unfold wrap64; omega)), H', ⟨by have := HK1.out; omega⟩, ⟨by (with_reducible repeat (first | refine blk_drewN ?_ _ | refine blk_drew ?_ | refine blk_alloc ?_ _)); exact BK185.out⟩, ⟨by (with_reducible repeat (first | refine blk_drewN ?_ _ | refine blk_drew ?_ | refine blk_alloc ?_ _)); exact BK186.out⟩, ⟨by (with_reducible repeat (first | refine blk_drewN ?_ _ | refine blk_drew ?_ | refine blk_alloc ?_ _)); exact BK187.out⟩, ⟨by repeat (first | (with_reducible first | exact HB.out | apply below_alloc | apply pw_below_drewN | apply below_drew1 | refine below_set ?_ GE185.out | refine below_set ?_ GE186.out | refine below_set ?_ GE187.out) | exact HB.out)⟩⟩
        · rw [if_neg c29] at H
          exact absurd H (by simp)
      · rw [if_neg c28] at H
        have c28b0 : decide (x28_1 < 3) = false := decide_eq_false c28
        clear c28
        have HC33 := Aside0.mk H
        clear H
        go_upto_region 10 with (fail)
        go_cut [62] (fun v62 wc => ∃ (kq : Nat) (x62_32 : Bool), v62 = .bool x62_32 ∧ Aside0 (trustquorumlaw23_BallotsOrder.j1 kq x62_32 t176 t177 t179 t180 t182 t183 = some r) ∧ Aside0 (kq ≤ k1) ∧ Aside0 (wc.heap[gb185]? = some (.cells #[.int .i64 t176, .string t177] 26 (0, 0))) ∧ Aside0 (wc.heap[gb186]? = some (.cells #[.int .i64 t179, .string t180] 26 (0, 0))) ∧ Aside0 (wc.heap[gb187]? = some (.cells #[.int .i64 t182, .string t183] 26 (0, 0))) ∧ Aside0 (Below w.heap.size w wc))
        case first =>
          have H := HC33.out
          clear HC33
          by_cases c34 : x7_1 = 1
          · rw [if_pos c34] at H
            have c34b0 : (x7_1 == 1) = true := beq_iff_eq.mpr c34
            have c34b1 : (x7_1 != 1) = false := bne_eq_false_iff_eq.mpr c34
            clear c34
            (first | rw [c34b0] | (simp only [i64_w, i32_w]; rw [c34b0]) | skip)
            replace H := Option.bind_eq_some_iff.mp H
            obtain ⟨t190, A350, H⟩ := H
            replace H : (if t190 = true then ((ballots_Less.f k1 t179 t180 t182 t183).bind fun t191 => (if t191 = true then ((ballots_Less.f k1 t176 t177 t182 t183).bind fun t192 => (if t192 = true then ((ballots_Covers.f t176 t177 t179 t180).bind fun t193 => (if t193 = true then ((ballots_Aborts.f k1 t176 t177 t179 t180).bind fun t194 => (trustquorumlaw23_BallotsOrder.j1 k1 t194 t176 t177 t179 t180 t182 t183)) else (trustquorumlaw23_BallotsOrder.j1 k1 false t176 t177 t179 t180 t182 t183))) else (trustquorumlaw23_BallotsOrder.j1 k1 true t176 t177 t179 t180 t182 t183))) else ((ballots_Covers.f t176 t177 t179 t180).bind fun t195 => (if t195 = true then ((ballots_Aborts.f k1 t176 t177 t179 t180).bind fun t196 => (trustquorumlaw23_BallotsOrder.j1 k1 t196 t176 t177 t179 t180 t182 t183)) else (trustquorumlaw23_BallotsOrder.j1 k1 false t176 t177 t179 t180 t182 t183))))) else ((ballots_Covers.f t176 t177 t179 t180).bind fun t197 => (if t197 = true then ((ballots_Aborts.f k1 t176 t177 t179 t180).bind fun t198 => (trustquorumlaw23_BallotsOrder.j1 k1 t198 t176 t177 t179 t180 t182 t183)) else (trustquorumlaw23_BallotsOrder.j1 k1 false t176 t177 t179 t180 t182 t183)))) = some r := H
            have A35 := Aside0.mk A350
            clear A350
            by_cases c36 : t190 = true
            · subst c36
              have H1 : ((ballots_Less.f k1 t179 t180 t182 t183).bind fun t191 => (if t191 = true then ((ballots_Less.f k1 t176 t177 t182 t183).bind fun t192 => (if t192 = true then ((ballots_Covers.f t176 t177 t179 t180).bind fun t193 => (if t193 = true then ((ballots_Aborts.f k1 t176 t177 t179 t180).bind fun t194 => (trustquorumlaw23_BallotsOrder.j1 k1 t194 t176 t177 t179 t180 t182 t183)) else (trustquorumlaw23_BallotsOrder.j1 k1 false t176 t177 t179 t180 t182 t183))) else (trustquorumlaw23_BallotsOrder.j1 k1 true t176 t177 t179 t180 t182 t183))) else ((ballots_Covers.f t176 t177 t179 t180).bind fun t195 => (if t195 = true then ((ballots_Aborts.f k1 t176 t177 t179 t180).bind fun t196 => (trustquorumlaw23_BallotsOrder.j1 k1 t196 t176 t177 t179 t180 t182 t183)) else (trustquorumlaw23_BallotsOrder.j1 k1 false t176 t177 t179 t180 t182 t183))))) = some r := by rw [if_pos rfl] at H; exact H
              clear H
              have H := H1
              clear H1
              replace H := Option.bind_eq_some_iff.mp H
              obtain ⟨t191, A370, H⟩ := H
              replace H : (if t191 = true then ((ballots_Less.f k1 t176 t177 t182 t183).bind fun t192 => (if t192 = true then ((ballots_Covers.f t176 t177 t179 t180).bind fun t193 => (if t193 = true then ((ballots_Aborts.f k1 t176 t177 t179 t180).bind fun t194 => (trustquorumlaw23_BallotsOrder.j1 k1 t194 t176 t177 t179 t180 t182 t183)) else (trustquorumlaw23_BallotsOrder.j1 k1 false t176 t177 t179 t180 t182 t183))) else (trustquorumlaw23_BallotsOrder.j1 k1 true t176 t177 t179 t180 t182 t183))) else ((ballots_Covers.f t176 t177 t179 t180).bind fun t195 => (if t195 = true then ((ballots_Aborts.f k1 t176 t177 t179 t180).bind fun t196 => (trustquorumlaw23_BallotsOrder.j1 k1 t196 t176 t177 t179 t180 t182 t183)) else (trustquorumlaw23_BallotsOrder.j1 k1 false t176 t177 t179 t180 t182 t183)))) = some r := H
              have A37 := Aside0.mk A370
              clear A370
              by_cases c38 : t191 = true
              · subst c38
                have H1 : ((ballots_Less.f k1 t176 t177 t182 t183).bind fun t192 => (if t192 = true then ((ballots_Covers.f t176 t177 t179 t180).bind fun t193 => (if t193 = true then ((ballots_Aborts.f k1 t176 t177 t179 t180).bind fun t194 => (trustquorumlaw23_BallotsOrder.j1 k1 t194 t176 t177 t179 t180 t182 t183)) else (trustquorumlaw23_BallotsOrder.j1 k1 false t176 t177 t179 t180 t182 t183))) else (trustquorumlaw23_BallotsOrder.j1 k1 true t176 t177 t179 t180 t182 t183))) = some r := by rw [if_pos rfl] at H; exact H
                clear H
                have H := H1
                clear H1
                replace H := Option.bind_eq_some_iff.mp H
                obtain ⟨t192, A390, H⟩ := H
                replace H : (if t192 = true then ((ballots_Covers.f t176 t177 t179 t180).bind fun t193 => (if t193 = true then ((ballots_Aborts.f k1 t176 t177 t179 t180).bind fun t194 => (trustquorumlaw23_BallotsOrder.j1 k1 t194 t176 t177 t179 t180 t182 t183)) else (trustquorumlaw23_BallotsOrder.j1 k1 false t176 t177 t179 t180 t182 t183))) else (trustquorumlaw23_BallotsOrder.j1 k1 true t176 t177 t179 t180 t182 t183)) = some r := H
                have A39 := Aside0.mk A390
                clear A390
                by_cases c40 : t192 = true
                · subst c40
                  have H1 : ((ballots_Covers.f t176 t177 t179 t180).bind fun t193 => (if t193 = true then ((ballots_Aborts.f k1 t176 t177 t179 t180).bind fun t194 => (trustquorumlaw23_BallotsOrder.j1 k1 t194 t176 t177 t179 t180 t182 t183)) else (trustquorumlaw23_BallotsOrder.j1 k1 false t176 t177 t179 t180 t182 t183))) = some r := by rw [if_pos rfl] at H; exact H
                  clear H
                  have H := H1
                  clear H1
                  replace H := Option.bind_eq_some_iff.mp H
                  obtain ⟨t193, A410, H⟩ := H
                  replace H : (if t193 = true then ((ballots_Aborts.f k1 t176 t177 t179 t180).bind fun t194 => (trustquorumlaw23_BallotsOrder.j1 k1 t194 t176 t177 t179 t180 t182 t183)) else (trustquorumlaw23_BallotsOrder.j1 k1 false t176 t177 t179 t180 t182 t183)) = some r := H
                  have A41 := Aside0.mk A410
                  clear A410
                  by_cases c42 : t193 = true
                  · subst c42
                    have H1 : ((ballots_Aborts.f k1 t176 t177 t179 t180).bind fun t194 => (trustquorumlaw23_BallotsOrder.j1 k1 t194 t176 t177 t179 t180 t182 t183)) = some r := by rw [if_pos rfl] at H; exact H
                    clear H
                    have H := H1
                    clear H1
                    replace H := Option.bind_eq_some_iff.mp H
                    obtain ⟨t194, A430, H⟩ := H
                    replace H : (trustquorumlaw23_BallotsOrder.j1 k1 t194 t176 t177 t179 t180 t182 t183) = some r := H
                    have A43 := Aside0.mk A430
                    clear A430
                    have H' := Aside0.mk H
                    clear H
                    have hnb44 := NB185_186.out
                    have hnc44 := NB186_185.out
                    have hnb45 := NB185_187.out
                    have hnc45 := NB187_185.out
                    have hcz46_0 : wr.cell? ⟨gb185, 0, none⟩ = some (.int .i64 t176) := (blk_cell BK185.out 0).trans rfl
                    have hcz46_1 : wr.cell? ⟨gb185, 1, none⟩ = some (.string t177) := (blk_cell BK185.out 1).trans rfl
                    have hfz46_0 := blk_frozen BK185.out 0
                    have hfz46_1 := blk_frozen BK185.out 1
                    have hnb47 := NB186_187.out
                    have hnc47 := NB187_186.out
                    have hcz48_0 : wr.cell? ⟨gb186, 0, none⟩ = some (.int .i64 t179) := (blk_cell BK186.out 0).trans rfl
                    have hcz48_1 : wr.cell? ⟨gb186, 1, none⟩ = some (.string t180) := (blk_cell BK186.out 1).trans rfl
                    have hfz48_0 := blk_frozen BK186.out 0
                    have hfz48_1 := blk_frozen BK186.out 1
                    go_wp2_with (first | (go_at_call 16; (with_reducible refine (ballots_Less.calls k1 t176 t177 t179 t180 true _ A35.out).mono ?_); rintro e w49 ⟨rfl, hb⟩; have n0_ := Aside0.mk (blk_below (g := gb185) (o := .cells #[.int .i64 t176, .string t177] 26 (0, 0)) (by (with_reducible repeat (first | refine blk_drewN ?_ _ | refine blk_drew ?_ | refine blk_alloc ?_ _)); exact BK185.out) hb); have n1_ := Aside0.mk (blk_below (g := gb186) (o := .cells #[.int .i64 t179, .string t180] 26 (0, 0)) (by (with_reducible repeat (first | refine blk_drewN ?_ _ | refine blk_drew ?_ | refine blk_alloc ?_ _)); exact BK186.out) hb); have n2_ := Aside0.mk (blk_below (g := gb187) (o := .cells #[.int .i64 t182, .string t183] 26 (0, 0)) (by (with_reducible repeat (first | refine blk_drewN ?_ _ | refine blk_drew ?_ | refine blk_alloc ?_ _)); exact BK187.out) hb); have n3_ := Aside0.mk (below_step (by repeat (first | (with_reducible first | exact HB.out | apply below_alloc | apply pw_below_drewN | apply below_drew1 | refine below_set ?_ GE185.out | refine below_set ?_ GE186.out | refine below_set ?_ GE187.out) | exact HB.out)) hb); clear BK185; clear BK186; clear BK187; clear HB; have BK185 := n0_; have BK186 := n1_; have BK187 := n2_; have HB := n3_; clear n0_ n1_ n2_ n3_; (try clear hb); (try clear hb2); (try clear hk); (try clear hi); have hcz50_0 : w49.cell? ⟨gb186, 0, none⟩ = some (.int .i64 t179) := (blk_cell BK186.out 0).trans rfl; have hcz50_1 : w49.cell? ⟨gb186, 1, none⟩ = some (.string t180) := (blk_cell BK186.out 1).trans rfl; have hfz50_0 := blk_frozen BK186.out 0; have hfz50_1 := blk_frozen BK186.out 1; have hcz51_0 : w49.cell? ⟨gb187, 0, none⟩ = some (.int .i64 t182) := (blk_cell BK187.out 0).trans rfl; have hcz51_1 : w49.cell? ⟨gb187, 1, none⟩ = some (.string t183) := (blk_cell BK187.out 1).trans rfl; have hfz51_0 := blk_frozen BK187.out 0; have hfz51_1 := blk_frozen BK187.out 1) | (go_at_call 16; (with_reducible refine (ballots_Less.calls k1 t179 t180 t182 t183 true _ A37.out).mono ?_); rintro e w52 ⟨rfl, hb⟩; have n0_ := Aside0.mk (blk_below (g := gb185) (o := .cells #[.int .i64 t176, .string t177] 26 (0, 0)) (by (with_reducible repeat (first | refine blk_drewN ?_ _ | refine blk_drew ?_ | refine blk_alloc ?_ _)); exact BK185.out) hb); have n1_ := Aside0.mk (blk_below (g := gb186) (o := .cells #[.int .i64 t179, .string t180] 26 (0, 0)) (by (with_reducible repeat (first | refine blk_drewN ?_ _ | refine blk_drew ?_ | refine blk_alloc ?_ _)); exact BK186.out) hb); have n2_ := Aside0.mk (blk_below (g := gb187) (o := .cells #[.int .i64 t182, .string t183] 26 (0, 0)) (by (with_reducible repeat (first | refine blk_drewN ?_ _ | refine blk_drew ?_ | refine blk_alloc ?_ _)); exact BK187.out) hb); have n3_ := Aside0.mk (below_step (by repeat (first | (with_reducible first | exact HB.out | apply below_alloc | apply pw_below_drewN | apply below_drew1 | refine below_set ?_ GE185.out | refine below_set ?_ GE186.out | refine below_set ?_ GE187.out) | exact HB.out)) hb); clear BK185; clear BK186; clear BK187; clear HB; have BK185 := n0_; have BK186 := n1_; have BK187 := n2_; have HB := n3_; clear n0_ n1_ n2_ n3_; (try clear hb); (try clear hb2); (try clear hk); (try clear hi); have hcz53_0 : w52.cell? ⟨gb185, 0, none⟩ = some (.int .i64 t176) := (blk_cell BK185.out 0).trans rfl; have hcz53_1 : w52.cell? ⟨gb185, 1, none⟩ = some (.string t177) := (blk_cell BK185.out 1).trans rfl; have hfz53_0 := blk_frozen BK185.out 0; have hfz53_1 := blk_frozen BK185.out 1; have hcz54_0 : w52.cell? ⟨gb187, 0, none⟩ = some (.int .i64 t182) := (blk_cell BK187.out 0).trans rfl; have hcz54_1 : w52.cell? ⟨gb187, 1, none⟩ = some (.string t183) := (blk_cell BK187.out 1).trans rfl; have hfz54_0 := blk_frozen BK187.out 0; have hfz54_1 := blk_frozen BK187.out 1) | (go_at_call 16; (with_reducible refine (ballots_Less.calls k1 t176 t177 t182 t183 true _ A39.out).mono ?_); rintro e w55 ⟨rfl, hb⟩; have n0_ := Aside0.mk (blk_below (g := gb185) (o := .cells #[.int .i64 t176, .string t177] 26 (0, 0)) (by (with_reducible repeat (first | refine blk_drewN ?_ _ | refine blk_drew ?_ | refine blk_alloc ?_ _)); exact BK185.out) hb); have n1_ := Aside0.mk (blk_below (g := gb186) (o := .cells #[.int .i64 t179, .string t180] 26 (0, 0)) (by (with_reducible repeat (first | refine blk_drewN ?_ _ | refine blk_drew ?_ | refine blk_alloc ?_ _)); exact BK186.out) hb); have n2_ := Aside0.mk (blk_below (g := gb187) (o := .cells #[.int .i64 t182, .string t183] 26 (0, 0)) (by (with_reducible repeat (first | refine blk_drewN ?_ _ | refine blk_drew ?_ | refine blk_alloc ?_ _)); exact BK187.out) hb); have n3_ := Aside0.mk (below_step (by repeat (first | (with_reducible first | exact HB.out | apply below_alloc | apply pw_below_drewN | apply below_drew1 | refine below_set ?_ GE185.out | refine below_set ?_ GE186.out | refine below_set ?_ GE187.out) | exact HB.out)) hb); clear BK185; clear BK186; clear BK187; clear HB; have BK185 := n0_; have BK186 := n1_; have BK187 := n2_; have HB := n3_; clear n0_ n1_ n2_ n3_; (try clear hb); (try clear hb2); (try clear hk); (try clear hi); have hcz56_0 : w55.cell? ⟨gb185, 0, none⟩ = some (.int .i64 t176) := (blk_cell BK185.out 0).trans rfl; have hcz56_1 : w55.cell? ⟨gb185, 1, none⟩ = some (.string t177) := (blk_cell BK185.out 1).trans rfl; have hfz56_0 := blk_frozen BK185.out 0; have hfz56_1 := blk_frozen BK185.out 1; have hcz57_0 : w55.cell? ⟨gb186, 0, none⟩ = some (.int .i64 t179) := (blk_cell BK186.out 0).trans rfl; have hcz57_1 : w55.cell? ⟨gb186, 1, none⟩ = some (.string t180) := (blk_cell BK186.out 1).trans rfl; have hfz57_0 := blk_frozen BK186.out 0; have hfz57_1 := blk_frozen BK186.out 1) | (go_at_call 17; (with_reducible refine (ballots_Covers.calls t176 t177 t179 t180 true _ A41.out).mono ?_); rintro e w58 ⟨rfl, hb⟩; have n0_ := Aside0.mk (blk_below (g := gb185) (o := .cells #[.int .i64 t176, .string t177] 26 (0, 0)) (by (with_reducible repeat (first | refine blk_drewN ?_ _ | refine blk_drew ?_ | refine blk_alloc ?_ _)); exact BK185.out) hb); have n1_ := Aside0.mk (blk_below (g := gb186) (o := .cells #[.int .i64 t179, .string t180] 26 (0, 0)) (by (with_reducible repeat (first | refine blk_drewN ?_ _ | refine blk_drew ?_ | refine blk_alloc ?_ _)); exact BK186.out) hb); have n2_ := Aside0.mk (blk_below (g := gb187) (o := .cells #[.int .i64 t182, .string t183] 26 (0, 0)) (by (with_reducible repeat (first | refine blk_drewN ?_ _ | refine blk_drew ?_ | refine blk_alloc ?_ _)); exact BK187.out) hb); have n3_ := Aside0.mk (below_step (by repeat (first | (with_reducible first | exact HB.out | apply below_alloc | apply pw_below_drewN | apply below_drew1 | refine below_set ?_ GE185.out | refine below_set ?_ GE186.out | refine below_set ?_ GE187.out) | exact HB.out)) hb); clear BK185; clear BK186; clear BK187; clear HB; have BK185 := n0_; have BK186 := n1_; have BK187 := n2_; have HB := n3_; clear n0_ n1_ n2_ n3_; (try clear hb); (try clear hb2); (try clear hk); (try clear hi); have hcz59_0 : w58.cell? ⟨gb185, 0, none⟩ = some (.int .i64 t176) := (blk_cell BK185.out 0).trans rfl; have hcz59_1 : w58.cell? ⟨gb185, 1, none⟩ = some (.string t177) := (blk_cell BK185.out 1).trans rfl; have hfz59_0 := blk_frozen BK185.out 0; have hfz59_1 := blk_frozen BK185.out 1; have hcz60_0 : w58.cell? ⟨gb186, 0, none⟩ = some (.int .i64 t179) := (blk_cell BK186.out 0).trans rfl; have hcz60_1 : w58.cell? ⟨gb186, 1, none⟩ = some (.string t180) := (blk_cell BK186.out 1).trans rfl; have hfz60_0 := blk_frozen BK186.out 0; have hfz60_1 := blk_frozen BK186.out 1) | (go_at_call 18; (with_reducible refine (ballots_Aborts.calls k1 t176 t177 t179 t180 t194 _ A43.out).mono ?_); rintro e w61 ⟨rfl, hb⟩; have n0_ := Aside0.mk (blk_below (g := gb185) (o := .cells #[.int .i64 t176, .string t177] 26 (0, 0)) (by (with_reducible repeat (first | refine blk_drewN ?_ _ | refine blk_drew ?_ | refine blk_alloc ?_ _)); exact BK185.out) hb); have n1_ := Aside0.mk (blk_below (g := gb186) (o := .cells #[.int .i64 t179, .string t180] 26 (0, 0)) (by (with_reducible repeat (first | refine blk_drewN ?_ _ | refine blk_drew ?_ | refine blk_alloc ?_ _)); exact BK186.out) hb); have n2_ := Aside0.mk (blk_below (g := gb187) (o := .cells #[.int .i64 t182, .string t183] 26 (0, 0)) (by (with_reducible repeat (first | refine blk_drewN ?_ _ | refine blk_drew ?_ | refine blk_alloc ?_ _)); exact BK187.out) hb); have n3_ := Aside0.mk (below_step (by repeat (first | (with_reducible first | exact HB.out | apply below_alloc | apply pw_below_drewN | apply below_drew1 | refine below_set ?_ GE185.out | refine below_set ?_ GE186.out | refine below_set ?_ GE187.out) | exact HB.out)) hb); clear BK185; clear BK186; clear BK187; clear HB; have BK185 := n0_; have BK186 := n1_; have BK187 := n2_; have HB := n3_; clear n0_ n1_ n2_ n3_; (try clear hb); (try clear hb2); (try clear hk); (try clear hi)))
                    go_meet
                    case rel => exact ⟨_, (t194), (by first | rfl | (simp; done) | (simp [*]; done) | (refine congrArg (Value.int .i64) ?_; unfold wrap64; omega)), H', ⟨by have := HK1.out; first | omega | exact Nat.le_refl _⟩, ⟨by (with_reducible repeat (first | refine blk_drewN ?_ _ | refine blk_drew ?_ | refine blk_alloc ?_ _)); exact BK185.out⟩, ⟨by (with_reducible repeat (first | refine blk_drewN ?_ _ | refine blk_drew ?_ | refine blk_alloc ?_ _)); exact BK186.out⟩, ⟨by (with_reducible repeat (first | refine blk_drewN ?_ _ | refine blk_drew ?_ | refine blk_alloc ?_ _)); exact BK187.out⟩, ⟨by repeat (first | (with_reducible first | exact HB.out | apply below_alloc | apply pw_below_drewN | apply below_drew1 | refine below_set ?_ GE185.out | refine below_set ?_ GE186.out | refine below_set ?_ GE187.out) | exact HB.out)⟩⟩
                  · replace c42 := Bool.eq_false_iff.mpr c42
                    subst c42
                    have H1 : (trustquorumlaw23_BallotsOrder.j1 k1 false t176 t177 t179 t180 t182 t183) = some r := by rw [if_neg (show ¬ (false = true) by decide)] at H; exact H
                    clear H
                    have H := H1
                    clear H1
                    have H' := Aside0.mk H
                    clear H
                    have hnb62 := NB185_186.out
                    have hnc62 := NB186_185.out
                    have hnb63 := NB185_187.out
                    have hnc63 := NB187_185.out
                    have hcz64_0 : wr.cell? ⟨gb185, 0, none⟩ = some (.int .i64 t176) := (blk_cell BK185.out 0).trans rfl
                    have hcz64_1 : wr.cell? ⟨gb185, 1, none⟩ = some (.string t177) := (blk_cell BK185.out 1).trans rfl
                    have hfz64_0 := blk_frozen BK185.out 0
                    have hfz64_1 := blk_frozen BK185.out 1
                    have hnb65 := NB186_187.out
                    have hnc65 := NB187_186.out
                    have hcz66_0 : wr.cell? ⟨gb186, 0, none⟩ = some (.int .i64 t179) := (blk_cell BK186.out 0).trans rfl
                    have hcz66_1 : wr.cell? ⟨gb186, 1, none⟩ = some (.string t180) := (blk_cell BK186.out 1).trans rfl
                    have hfz66_0 := blk_frozen BK186.out 0
                    have hfz66_1 := blk_frozen BK186.out 1
                    go_wp2_with (first | (go_at_call 16; (with_reducible refine (ballots_Less.calls k1 t176 t177 t179 t180 true _ A35.out).mono ?_); rintro e w67 ⟨rfl, hb⟩; have n0_ := Aside0.mk (blk_below (g := gb185) (o := .cells #[.int .i64 t176, .string t177] 26 (0, 0)) (by (with_reducible repeat (first | refine blk_drewN ?_ _ | refine blk_drew ?_ | refine blk_alloc ?_ _)); exact BK185.out) hb); have n1_ := Aside0.mk (blk_below (g := gb186) (o := .cells #[.int .i64 t179, .string t180] 26 (0, 0)) (by (with_reducible repeat (first | refine blk_drewN ?_ _ | refine blk_drew ?_ | refine blk_alloc ?_ _)); exact BK186.out) hb); have n2_ := Aside0.mk (blk_below (g := gb187) (o := .cells #[.int .i64 t182, .string t183] 26 (0, 0)) (by (with_reducible repeat (first | refine blk_drewN ?_ _ | refine blk_drew ?_ | refine blk_alloc ?_ _)); exact BK187.out) hb); have n3_ := Aside0.mk (below_step (by repeat (first | (with_reducible first | exact HB.out | apply below_alloc | apply pw_below_drewN | apply below_drew1 | refine below_set ?_ GE185.out | refine below_set ?_ GE186.out | refine below_set ?_ GE187.out) | exact HB.out)) hb); clear BK185; clear BK186; clear BK187; clear HB; have BK185 := n0_; have BK186 := n1_; have BK187 := n2_; have HB := n3_; clear n0_ n1_ n2_ n3_; (try clear hb); (try clear hb2); (try clear hk); (try clear hi); have hcz68_0 : w67.cell? ⟨gb186, 0, none⟩ = some (.int .i64 t179) := (blk_cell BK186.out 0).trans rfl; have hcz68_1 : w67.cell? ⟨gb186, 1, none⟩ = some (.string t180) := (blk_cell BK186.out 1).trans rfl; have hfz68_0 := blk_frozen BK186.out 0; have hfz68_1 := blk_frozen BK186.out 1; have hcz69_0 : w67.cell? ⟨gb187, 0, none⟩ = some (.int .i64 t182) := (blk_cell BK187.out 0).trans rfl; have hcz69_1 : w67.cell? ⟨gb187, 1, none⟩ = some (.string t183) := (blk_cell BK187.out 1).trans rfl; have hfz69_0 := blk_frozen BK187.out 0; have hfz69_1 := blk_frozen BK187.out 1) | (go_at_call 16; (with_reducible refine (ballots_Less.calls k1 t179 t180 t182 t183 true _ A37.out).mono ?_); rintro e w70 ⟨rfl, hb⟩; have n0_ := Aside0.mk (blk_below (g := gb185) (o := .cells #[.int .i64 t176, .string t177] 26 (0, 0)) (by (with_reducible repeat (first | refine blk_drewN ?_ _ | refine blk_drew ?_ | refine blk_alloc ?_ _)); exact BK185.out) hb); have n1_ := Aside0.mk (blk_below (g := gb186) (o := .cells #[.int .i64 t179, .string t180] 26 (0, 0)) (by (with_reducible repeat (first | refine blk_drewN ?_ _ | refine blk_drew ?_ | refine blk_alloc ?_ _)); exact BK186.out) hb); have n2_ := Aside0.mk (blk_below (g := gb187) (o := .cells #[.int .i64 t182, .string t183] 26 (0, 0)) (by (with_reducible repeat (first | refine blk_drewN ?_ _ | refine blk_drew ?_ | refine blk_alloc ?_ _)); exact BK187.out) hb); have n3_ := Aside0.mk (below_step (by repeat (first | (with_reducible first | exact HB.out | apply below_alloc | apply pw_below_drewN | apply below_drew1 | refine below_set ?_ GE185.out | refine below_set ?_ GE186.out | refine below_set ?_ GE187.out) | exact HB.out)) hb); clear BK185; clear BK186; clear BK187; clear HB; have BK185 := n0_; have BK186 := n1_; have BK187 := n2_; have HB := n3_; clear n0_ n1_ n2_ n3_; (try clear hb); (try clear hb2); (try clear hk); (try clear hi); have hcz71_0 : w70.cell? ⟨gb185, 0, none⟩ = some (.int .i64 t176) := (blk_cell BK185.out 0).trans rfl; have hcz71_1 : w70.cell? ⟨gb185, 1, none⟩ = some (.string t177) := (blk_cell BK185.out 1).trans rfl; have hfz71_0 := blk_frozen BK185.out 0; have hfz71_1 := blk_frozen BK185.out 1; have hcz72_0 : w70.cell? ⟨gb187, 0, none⟩ = some (.int .i64 t182) := (blk_cell BK187.out 0).trans rfl; have hcz72_1 : w70.cell? ⟨gb187, 1, none⟩ = some (.string t183) := (blk_cell BK187.out 1).trans rfl; have hfz72_0 := blk_frozen BK187.out 0; have hfz72_1 := blk_frozen BK187.out 1) | (go_at_call 16; (with_reducible refine (ballots_Less.calls k1 t176 t177 t182 t183 true _ A39.out).mono ?_); rintro e w73 ⟨rfl, hb⟩; have n0_ := Aside0.mk (blk_below (g := gb185) (o := .cells #[.int .i64 t176, .string t177] 26 (0, 0)) (by (with_reducible repeat (first | refine blk_drewN ?_ _ | refine blk_drew ?_ | refine blk_alloc ?_ _)); exact BK185.out) hb); have n1_ := Aside0.mk (blk_below (g := gb186) (o := .cells #[.int .i64 t179, .string t180] 26 (0, 0)) (by (with_reducible repeat (first | refine blk_drewN ?_ _ | refine blk_drew ?_ | refine blk_alloc ?_ _)); exact BK186.out) hb); have n2_ := Aside0.mk (blk_below (g := gb187) (o := .cells #[.int .i64 t182, .string t183] 26 (0, 0)) (by (with_reducible repeat (first | refine blk_drewN ?_ _ | refine blk_drew ?_ | refine blk_alloc ?_ _)); exact BK187.out) hb); have n3_ := Aside0.mk (below_step (by repeat (first | (with_reducible first | exact HB.out | apply below_alloc | apply pw_below_drewN | apply below_drew1 | refine below_set ?_ GE185.out | refine below_set ?_ GE186.out | refine below_set ?_ GE187.out) | exact HB.out)) hb); clear BK185; clear BK186; clear BK187; clear HB; have BK185 := n0_; have BK186 := n1_; have BK187 := n2_; have HB := n3_; clear n0_ n1_ n2_ n3_; (try clear hb); (try clear hb2); (try clear hk); (try clear hi); have hcz74_0 : w73.cell? ⟨gb185, 0, none⟩ = some (.int .i64 t176) := (blk_cell BK185.out 0).trans rfl; have hcz74_1 : w73.cell? ⟨gb185, 1, none⟩ = some (.string t177) := (blk_cell BK185.out 1).trans rfl; have hfz74_0 := blk_frozen BK185.out 0; have hfz74_1 := blk_frozen BK185.out 1; have hcz75_0 : w73.cell? ⟨gb186, 0, none⟩ = some (.int .i64 t179) := (blk_cell BK186.out 0).trans rfl; have hcz75_1 : w73.cell? ⟨gb186, 1, none⟩ = some (.string t180) := (blk_cell BK186.out 1).trans rfl; have hfz75_0 := blk_frozen BK186.out 0; have hfz75_1 := blk_frozen BK186.out 1) | (go_at_call 17; (with_reducible refine (ballots_Covers.calls t176 t177 t179 t180 false _ A41.out).mono ?_); rintro e w76 ⟨rfl, hb⟩; have n0_ := Aside0.mk (blk_below (g := gb185) (o := .cells #[.int .i64 t176, .string t177] 26 (0, 0)) (by (with_reducible repeat (first | refine blk_drewN ?_ _ | refine blk_drew ?_ | refine blk_alloc ?_ _)); exact BK185.out) hb); have n1_ := Aside0.mk (blk_below (g := gb186) (o := .cells #[.int .i64 t179, .string t180] 26 (0, 0)) (by (with_reducible repeat (first | refine blk_drewN ?_ _ | refine blk_drew ?_ | refine blk_alloc ?_ _)); exact BK186.out) hb); have n2_ := Aside0.mk (blk_below (g := gb187) (o := .cells #[.int .i64 t182, .string t183] 26 (0, 0)) (by (with_reducible repeat (first | refine blk_drewN ?_ _ | refine blk_drew ?_ | refine blk_alloc ?_ _)); exact BK187.out) hb); have n3_ := Aside0.mk (below_step (by repeat (first | (with_reducible first | exact HB.out | apply below_alloc | apply pw_below_drewN | apply below_drew1 | refine below_set ?_ GE185.out | refine below_set ?_ GE186.out | refine below_set ?_ GE187.out) | exact HB.out)) hb); clear BK185; clear BK186; clear BK187; clear HB; have BK185 := n0_; have BK186 := n1_; have BK187 := n2_; have HB := n3_; clear n0_ n1_ n2_ n3_; (try clear hb); (try clear hb2); (try clear hk); (try clear hi)))
                    go_meet
                    case rel => exact ⟨_, (false), (by first | rfl | (simp; done) | (simp [*]; done) | (refine congrArg (Value.int .i64) ?_; unfold wrap64; omega)), H', ⟨by have := HK1.out; first | omega | exact Nat.le_refl _⟩, ⟨by (with_reducible repeat (first | refine blk_drewN ?_ _ | refine blk_drew ?_ | refine blk_alloc ?_ _)); exact BK185.out⟩, ⟨by (with_reducible repeat (first | refine blk_drewN ?_ _ | refine blk_drew ?_ | refine blk_alloc ?_ _)); exact BK186.out⟩, ⟨by (with_reducible repeat (first | refine blk_drewN ?_ _ | refine blk_drew ?_ | refine blk_alloc ?_ _)); exact BK187.out⟩, ⟨by repeat (first | (with_reducible first | exact HB.out | apply below_alloc | apply pw_below_drewN | apply below_drew1 | refine below_set ?_ GE185.out | refine below_set ?_ GE186.out | refine below_set ?_ GE187.out) | exact HB.out)⟩⟩
                · replace c40 := Bool.eq_false_iff.mpr c40
                  subst c40
                  have H1 : (trustquorumlaw23_BallotsOrder.j1 k1 true t176 t177 t179 t180 t182 t183) = some r := by rw [if_neg (show ¬ (false = true) by decide)] at H; exact H
                  clear H
                  have H := H1
                  clear H1
                  have H' := Aside0.mk H
                  clear H
                  have hnb77 := NB185_186.out
                  have hnc77 := NB186_185.out
                  have hnb78 := NB185_187.out
                  have hnc78 := NB187_185.out
                  have hcz79_0 : wr.cell? ⟨gb185, 0, none⟩ = some (.int .i64 t176) := (blk_cell BK185.out 0).trans rfl
                  have hcz79_1 : wr.cell? ⟨gb185, 1, none⟩ = some (.string t177) := (blk_cell BK185.out 1).trans rfl
                  have hfz79_0 := blk_frozen BK185.out 0
                  have hfz79_1 := blk_frozen BK185.out 1
                  have hnb80 := NB186_187.out
                  have hnc80 := NB187_186.out
                  have hcz81_0 : wr.cell? ⟨gb186, 0, none⟩ = some (.int .i64 t179) := (blk_cell BK186.out 0).trans rfl
                  have hcz81_1 : wr.cell? ⟨gb186, 1, none⟩ = some (.string t180) := (blk_cell BK186.out 1).trans rfl
                  have hfz81_0 := blk_frozen BK186.out 0
                  have hfz81_1 := blk_frozen BK186.out 1
                  go_wp2_with (first | (go_at_call 16; (with_reducible refine (ballots_Less.calls k1 t176 t177 t179 t180 true _ A35.out).mono ?_); rintro e w82 ⟨rfl, hb⟩; have n0_ := Aside0.mk (blk_below (g := gb185) (o := .cells #[.int .i64 t176, .string t177] 26 (0, 0)) (by (with_reducible repeat (first | refine blk_drewN ?_ _ | refine blk_drew ?_ | refine blk_alloc ?_ _)); exact BK185.out) hb); have n1_ := Aside0.mk (blk_below (g := gb186) (o := .cells #[.int .i64 t179, .string t180] 26 (0, 0)) (by (with_reducible repeat (first | refine blk_drewN ?_ _ | refine blk_drew ?_ | refine blk_alloc ?_ _)); exact BK186.out) hb); have n2_ := Aside0.mk (blk_below (g := gb187) (o := .cells #[.int .i64 t182, .string t183] 26 (0, 0)) (by (with_reducible repeat (first | refine blk_drewN ?_ _ | refine blk_drew ?_ | refine blk_alloc ?_ _)); exact BK187.out) hb); have n3_ := Aside0.mk (below_step (by repeat (first | (with_reducible first | exact HB.out | apply below_alloc | apply pw_below_drewN | apply below_drew1 | refine below_set ?_ GE185.out | refine below_set ?_ GE186.out | refine below_set ?_ GE187.out) | exact HB.out)) hb); clear BK185; clear BK186; clear BK187; clear HB; have BK185 := n0_; have BK186 := n1_; have BK187 := n2_; have HB := n3_; clear n0_ n1_ n2_ n3_; (try clear hb); (try clear hb2); (try clear hk); (try clear hi); have hcz83_0 : w82.cell? ⟨gb186, 0, none⟩ = some (.int .i64 t179) := (blk_cell BK186.out 0).trans rfl; have hcz83_1 : w82.cell? ⟨gb186, 1, none⟩ = some (.string t180) := (blk_cell BK186.out 1).trans rfl; have hfz83_0 := blk_frozen BK186.out 0; have hfz83_1 := blk_frozen BK186.out 1; have hcz84_0 : w82.cell? ⟨gb187, 0, none⟩ = some (.int .i64 t182) := (blk_cell BK187.out 0).trans rfl; have hcz84_1 : w82.cell? ⟨gb187, 1, none⟩ = some (.string t183) := (blk_cell BK187.out 1).trans rfl; have hfz84_0 := blk_frozen BK187.out 0; have hfz84_1 := blk_frozen BK187.out 1) | (go_at_call 16; (with_reducible refine (ballots_Less.calls k1 t179 t180 t182 t183 true _ A37.out).mono ?_); rintro e w85 ⟨rfl, hb⟩; have n0_ := Aside0.mk (blk_below (g := gb185) (o := .cells #[.int .i64 t176, .string t177] 26 (0, 0)) (by (with_reducible repeat (first | refine blk_drewN ?_ _ | refine blk_drew ?_ | refine blk_alloc ?_ _)); exact BK185.out) hb); have n1_ := Aside0.mk (blk_below (g := gb186) (o := .cells #[.int .i64 t179, .string t180] 26 (0, 0)) (by (with_reducible repeat (first | refine blk_drewN ?_ _ | refine blk_drew ?_ | refine blk_alloc ?_ _)); exact BK186.out) hb); have n2_ := Aside0.mk (blk_below (g := gb187) (o := .cells #[.int .i64 t182, .string t183] 26 (0, 0)) (by (with_reducible repeat (first | refine blk_drewN ?_ _ | refine blk_drew ?_ | refine blk_alloc ?_ _)); exact BK187.out) hb); have n3_ := Aside0.mk (below_step (by repeat (first | (with_reducible first | exact HB.out | apply below_alloc | apply pw_below_drewN | apply below_drew1 | refine below_set ?_ GE185.out | refine below_set ?_ GE186.out | refine below_set ?_ GE187.out) | exact HB.out)) hb); clear BK185; clear BK186; clear BK187; clear HB; have BK185 := n0_; have BK186 := n1_; have BK187 := n2_; have HB := n3_; clear n0_ n1_ n2_ n3_; (try clear hb); (try clear hb2); (try clear hk); (try clear hi); have hcz86_0 : w85.cell? ⟨gb185, 0, none⟩ = some (.int .i64 t176) := (blk_cell BK185.out 0).trans rfl; have hcz86_1 : w85.cell? ⟨gb185, 1, none⟩ = some (.string t177) := (blk_cell BK185.out 1).trans rfl; have hfz86_0 := blk_frozen BK185.out 0; have hfz86_1 := blk_frozen BK185.out 1; have hcz87_0 : w85.cell? ⟨gb187, 0, none⟩ = some (.int .i64 t182) := (blk_cell BK187.out 0).trans rfl; have hcz87_1 : w85.cell? ⟨gb187, 1, none⟩ = some (.string t183) := (blk_cell BK187.out 1).trans rfl; have hfz87_0 := blk_frozen BK187.out 0; have hfz87_1 := blk_frozen BK187.out 1) | (go_at_call 16; (with_reducible refine (ballots_Less.calls k1 t176 t177 t182 t183 false _ A39.out).mono ?_); rintro e w88 ⟨rfl, hb⟩; have n0_ := Aside0.mk (blk_below (g := gb185) (o := .cells #[.int .i64 t176, .string t177] 26 (0, 0)) (by (with_reducible repeat (first | refine blk_drewN ?_ _ | refine blk_drew ?_ | refine blk_alloc ?_ _)); exact BK185.out) hb); have n1_ := Aside0.mk (blk_below (g := gb186) (o := .cells #[.int .i64 t179, .string t180] 26 (0, 0)) (by (with_reducible repeat (first | refine blk_drewN ?_ _ | refine blk_drew ?_ | refine blk_alloc ?_ _)); exact BK186.out) hb); have n2_ := Aside0.mk (blk_below (g := gb187) (o := .cells #[.int .i64 t182, .string t183] 26 (0, 0)) (by (with_reducible repeat (first | refine blk_drewN ?_ _ | refine blk_drew ?_ | refine blk_alloc ?_ _)); exact BK187.out) hb); have n3_ := Aside0.mk (below_step (by repeat (first | (with_reducible first | exact HB.out | apply below_alloc | apply pw_below_drewN | apply below_drew1 | refine below_set ?_ GE185.out | refine below_set ?_ GE186.out | refine below_set ?_ GE187.out) | exact HB.out)) hb); clear BK185; clear BK186; clear BK187; clear HB; have BK185 := n0_; have BK186 := n1_; have BK187 := n2_; have HB := n3_; clear n0_ n1_ n2_ n3_; (try clear hb); (try clear hb2); (try clear hk); (try clear hi)))
                  go_meet
                  case rel => exact ⟨_, (true), (by first | rfl | (simp; done) | (simp [*]; done) | (refine congrArg (Value.int .i64) ?_; unfold wrap64; omega)), H', ⟨by have := HK1.out; first | omega | exact Nat.le_refl _⟩, ⟨by (with_reducible repeat (first | refine blk_drewN ?_ _ | refine blk_drew ?_ | refine blk_alloc ?_ _)); exact BK185.out⟩, ⟨by (with_reducible repeat (first | refine blk_drewN ?_ _ | refine blk_drew ?_ | refine blk_alloc ?_ _)); exact BK186.out⟩, ⟨by (with_reducible repeat (first | refine blk_drewN ?_ _ | refine blk_drew ?_ | refine blk_alloc ?_ _)); exact BK187.out⟩, ⟨by repeat (first | (with_reducible first | exact HB.out | apply below_alloc | apply pw_below_drewN | apply below_drew1 | refine below_set ?_ GE185.out | refine below_set ?_ GE186.out | refine below_set ?_ GE187.out) | exact HB.out)⟩⟩
              · replace c38 := Bool.eq_false_iff.mpr c38
                subst c38
                have H1 : ((ballots_Covers.f t176 t177 t179 t180).bind fun t195 => (if t195 = true then ((ballots_Aborts.f k1 t176 t177 t179 t180).bind fun t196 => (trustquorumlaw23_BallotsOrder.j1 k1 t196 t176 t177 t179 t180 t182 t183)) else (trustquorumlaw23_BallotsOrder.j1 k1 false t176 t177 t179 t180 t182 t183))) = some r := by rw [if_neg (show ¬ (false = true) by decide)] at H; exact H
                clear H
                have H := H1
                clear H1
                replace H := Option.bind_eq_some_iff.mp H
                obtain ⟨t195, A890, H⟩ := H
                replace H : (if t195 = true then ((ballots_Aborts.f k1 t176 t177 t179 t180).bind fun t196 => (trustquorumlaw23_BallotsOrder.j1 k1 t196 t176 t177 t179 t180 t182 t183)) else (trustquorumlaw23_BallotsOrder.j1 k1 false t176 t177 t179 t180 t182 t183)) = some r := H
                have A89 := Aside0.mk A890
                clear A890
                by_cases c90 : t195 = true
                · subst c90
                  have H1 : ((ballots_Aborts.f k1 t176 t177 t179 t180).bind fun t196 => (trustquorumlaw23_BallotsOrder.j1 k1 t196 t176 t177 t179 t180 t182 t183)) = some r := by rw [if_pos rfl] at H; exact H
                  clear H
                  have H := H1
                  clear H1
                  replace H := Option.bind_eq_some_iff.mp H
                  obtain ⟨t196, A910, H⟩ := H
                  replace H : (trustquorumlaw23_BallotsOrder.j1 k1 t196 t176 t177 t179 t180 t182 t183) = some r := H
                  have A91 := Aside0.mk A910
                  clear A910
                  have H' := Aside0.mk H
                  clear H
                  have hnb92 := NB185_186.out
                  have hnc92 := NB186_185.out
                  have hnb93 := NB185_187.out
                  have hnc93 := NB187_185.out
                  have hcz94_0 : wr.cell? ⟨gb185, 0, none⟩ = some (.int .i64 t176) := (blk_cell BK185.out 0).trans rfl
                  have hcz94_1 : wr.cell? ⟨gb185, 1, none⟩ = some (.string t177) := (blk_cell BK185.out 1).trans rfl
                  have hfz94_0 := blk_frozen BK185.out 0
                  have hfz94_1 := blk_frozen BK185.out 1
                  have hnb95 := NB186_187.out
                  have hnc95 := NB187_186.out
                  have hcz96_0 : wr.cell? ⟨gb186, 0, none⟩ = some (.int .i64 t179) := (blk_cell BK186.out 0).trans rfl
                  have hcz96_1 : wr.cell? ⟨gb186, 1, none⟩ = some (.string t180) := (blk_cell BK186.out 1).trans rfl
                  have hfz96_0 := blk_frozen BK186.out 0
                  have hfz96_1 := blk_frozen BK186.out 1
                  go_wp2_with (first | (go_at_call 16; (with_reducible refine (ballots_Less.calls k1 t176 t177 t179 t180 true _ A35.out).mono ?_); rintro e w97 ⟨rfl, hb⟩; have n0_ := Aside0.mk (blk_below (g := gb185) (o := .cells #[.int .i64 t176, .string t177] 26 (0, 0)) (by (with_reducible repeat (first | refine blk_drewN ?_ _ | refine blk_drew ?_ | refine blk_alloc ?_ _)); exact BK185.out) hb); have n1_ := Aside0.mk (blk_below (g := gb186) (o := .cells #[.int .i64 t179, .string t180] 26 (0, 0)) (by (with_reducible repeat (first | refine blk_drewN ?_ _ | refine blk_drew ?_ | refine blk_alloc ?_ _)); exact BK186.out) hb); have n2_ := Aside0.mk (blk_below (g := gb187) (o := .cells #[.int .i64 t182, .string t183] 26 (0, 0)) (by (with_reducible repeat (first | refine blk_drewN ?_ _ | refine blk_drew ?_ | refine blk_alloc ?_ _)); exact BK187.out) hb); have n3_ := Aside0.mk (below_step (by repeat (first | (with_reducible first | exact HB.out | apply below_alloc | apply pw_below_drewN | apply below_drew1 | refine below_set ?_ GE185.out | refine below_set ?_ GE186.out | refine below_set ?_ GE187.out) | exact HB.out)) hb); clear BK185; clear BK186; clear BK187; clear HB; have BK185 := n0_; have BK186 := n1_; have BK187 := n2_; have HB := n3_; clear n0_ n1_ n2_ n3_; (try clear hb); (try clear hb2); (try clear hk); (try clear hi); have hcz98_0 : w97.cell? ⟨gb186, 0, none⟩ = some (.int .i64 t179) := (blk_cell BK186.out 0).trans rfl; have hcz98_1 : w97.cell? ⟨gb186, 1, none⟩ = some (.string t180) := (blk_cell BK186.out 1).trans rfl; have hfz98_0 := blk_frozen BK186.out 0; have hfz98_1 := blk_frozen BK186.out 1; have hcz99_0 : w97.cell? ⟨gb187, 0, none⟩ = some (.int .i64 t182) := (blk_cell BK187.out 0).trans rfl; have hcz99_1 : w97.cell? ⟨gb187, 1, none⟩ = some (.string t183) := (blk_cell BK187.out 1).trans rfl; have hfz99_0 := blk_frozen BK187.out 0; have hfz99_1 := blk_frozen BK187.out 1) | (go_at_call 16; (with_reducible refine (ballots_Less.calls k1 t179 t180 t182 t183 false _ A37.out).mono ?_); rintro e w100 ⟨rfl, hb⟩; have n0_ := Aside0.mk (blk_below (g := gb185) (o := .cells #[.int .i64 t176, .string t177] 26 (0, 0)) (by (with_reducible repeat (first | refine blk_drewN ?_ _ | refine blk_drew ?_ | refine blk_alloc ?_ _)); exact BK185.out) hb); have n1_ := Aside0.mk (blk_below (g := gb186) (o := .cells #[.int .i64 t179, .string t180] 26 (0, 0)) (by (with_reducible repeat (first | refine blk_drewN ?_ _ | refine blk_drew ?_ | refine blk_alloc ?_ _)); exact BK186.out) hb); have n2_ := Aside0.mk (blk_below (g := gb187) (o := .cells #[.int .i64 t182, .string t183] 26 (0, 0)) (by (with_reducible repeat (first | refine blk_drewN ?_ _ | refine blk_drew ?_ | refine blk_alloc ?_ _)); exact BK187.out) hb); have n3_ := Aside0.mk (below_step (by repeat (first | (with_reducible first | exact HB.out | apply below_alloc | apply pw_below_drewN | apply below_drew1 | refine below_set ?_ GE185.out | refine below_set ?_ GE186.out | refine below_set ?_ GE187.out) | exact HB.out)) hb); clear BK185; clear BK186; clear BK187; clear HB; have BK185 := n0_; have BK186 := n1_; have BK187 := n2_; have HB := n3_; clear n0_ n1_ n2_ n3_; (try clear hb); (try clear hb2); (try clear hk); (try clear hi); have hcz101_0 : w100.cell? ⟨gb185, 0, none⟩ = some (.int .i64 t176) := (blk_cell BK185.out 0).trans rfl; have hcz101_1 : w100.cell? ⟨gb185, 1, none⟩ = some (.string t177) := (blk_cell BK185.out 1).trans rfl; have hfz101_0 := blk_frozen BK185.out 0; have hfz101_1 := blk_frozen BK185.out 1; have hcz102_0 : w100.cell? ⟨gb186, 0, none⟩ = some (.int .i64 t179) := (blk_cell BK186.out 0).trans rfl; have hcz102_1 : w100.cell? ⟨gb186, 1, none⟩ = some (.string t180) := (blk_cell BK186.out 1).trans rfl; have hfz102_0 := blk_frozen BK186.out 0; have hfz102_1 := blk_frozen BK186.out 1) | (go_at_call 17; (with_reducible refine (ballots_Covers.calls t176 t177 t179 t180 true _ A89.out).mono ?_); rintro e w103 ⟨rfl, hb⟩; have n0_ := Aside0.mk (blk_below (g := gb185) (o := .cells #[.int .i64 t176, .string t177] 26 (0, 0)) (by (with_reducible repeat (first | refine blk_drewN ?_ _ | refine blk_drew ?_ | refine blk_alloc ?_ _)); exact BK185.out) hb); have n1_ := Aside0.mk (blk_below (g := gb186) (o := .cells #[.int .i64 t179, .string t180] 26 (0, 0)) (by (with_reducible repeat (first | refine blk_drewN ?_ _ | refine blk_drew ?_ | refine blk_alloc ?_ _)); exact BK186.out) hb); have n2_ := Aside0.mk (blk_below (g := gb187) (o := .cells #[.int .i64 t182, .string t183] 26 (0, 0)) (by (with_reducible repeat (first | refine blk_drewN ?_ _ | refine blk_drew ?_ | refine blk_alloc ?_ _)); exact BK187.out) hb); have n3_ := Aside0.mk (below_step (by repeat (first | (with_reducible first | exact HB.out | apply below_alloc | apply pw_below_drewN | apply below_drew1 | refine below_set ?_ GE185.out | refine below_set ?_ GE186.out | refine below_set ?_ GE187.out) | exact HB.out)) hb); clear BK185; clear BK186; clear BK187; clear HB; have BK185 := n0_; have BK186 := n1_; have BK187 := n2_; have HB := n3_; clear n0_ n1_ n2_ n3_; (try clear hb); (try clear hb2); (try clear hk); (try clear hi); have hcz104_0 : w103.cell? ⟨gb185, 0, none⟩ = some (.int .i64 t176) := (blk_cell BK185.out 0).trans rfl; have hcz104_1 : w103.cell? ⟨gb185, 1, none⟩ = some (.string t177) := (blk_cell BK185.out 1).trans rfl; have hfz104_0 := blk_frozen BK185.out 0; have hfz104_1 := blk_frozen BK185.out 1; have hcz105_0 : w103.cell? ⟨gb186, 0, none⟩ = some (.int .i64 t179) := (blk_cell BK186.out 0).trans rfl; have hcz105_1 : w103.cell? ⟨gb186, 1, none⟩ = some (.string t180) := (blk_cell BK186.out 1).trans rfl; have hfz105_0 := blk_frozen BK186.out 0; have hfz105_1 := blk_frozen BK186.out 1) | (go_at_call 18; (with_reducible refine (ballots_Aborts.calls k1 t176 t177 t179 t180 t196 _ A91.out).mono ?_); rintro e w106 ⟨rfl, hb⟩; have n0_ := Aside0.mk (blk_below (g := gb185) (o := .cells #[.int .i64 t176, .string t177] 26 (0, 0)) (by (with_reducible repeat (first | refine blk_drewN ?_ _ | refine blk_drew ?_ | refine blk_alloc ?_ _)); exact BK185.out) hb); have n1_ := Aside0.mk (blk_below (g := gb186) (o := .cells #[.int .i64 t179, .string t180] 26 (0, 0)) (by (with_reducible repeat (first | refine blk_drewN ?_ _ | refine blk_drew ?_ | refine blk_alloc ?_ _)); exact BK186.out) hb); have n2_ := Aside0.mk (blk_below (g := gb187) (o := .cells #[.int .i64 t182, .string t183] 26 (0, 0)) (by (with_reducible repeat (first | refine blk_drewN ?_ _ | refine blk_drew ?_ | refine blk_alloc ?_ _)); exact BK187.out) hb); have n3_ := Aside0.mk (below_step (by repeat (first | (with_reducible first | exact HB.out | apply below_alloc | apply pw_below_drewN | apply below_drew1 | refine below_set ?_ GE185.out | refine below_set ?_ GE186.out | refine below_set ?_ GE187.out) | exact HB.out)) hb); clear BK185; clear BK186; clear BK187; clear HB; have BK185 := n0_; have BK186 := n1_; have BK187 := n2_; have HB := n3_; clear n0_ n1_ n2_ n3_; (try clear hb); (try clear hb2); (try clear hk); (try clear hi)))
                  go_meet
                  case rel => exact ⟨_, (t196), (by first | rfl | (simp; done) | (simp [*]; done) | (refine congrArg (Value.int .i64) ?_; unfold wrap64; omega)), H', ⟨by have := HK1.out; first | omega | exact Nat.le_refl _⟩, ⟨by (with_reducible repeat (first | refine blk_drewN ?_ _ | refine blk_drew ?_ | refine blk_alloc ?_ _)); exact BK185.out⟩, ⟨by (with_reducible repeat (first | refine blk_drewN ?_ _ | refine blk_drew ?_ | refine blk_alloc ?_ _)); exact BK186.out⟩, ⟨by (with_reducible repeat (first | refine blk_drewN ?_ _ | refine blk_drew ?_ | refine blk_alloc ?_ _)); exact BK187.out⟩, ⟨by repeat (first | (with_reducible first | exact HB.out | apply below_alloc | apply pw_below_drewN | apply below_drew1 | refine below_set ?_ GE185.out | refine below_set ?_ GE186.out | refine below_set ?_ GE187.out) | exact HB.out)⟩⟩
                · replace c90 := Bool.eq_false_iff.mpr c90
                  subst c90
                  have H1 : (trustquorumlaw23_BallotsOrder.j1 k1 false t176 t177 t179 t180 t182 t183) = some r := by rw [if_neg (show ¬ (false = true) by decide)] at H; exact H
                  clear H
                  have H := H1
                  clear H1
                  have H' := Aside0.mk H
                  clear H
                  have hnb107 := NB185_186.out
                  have hnc107 := NB186_185.out
                  have hnb108 := NB185_187.out
                  have hnc108 := NB187_185.out
                  have hcz109_0 : wr.cell? ⟨gb185, 0, none⟩ = some (.int .i64 t176) := (blk_cell BK185.out 0).trans rfl
                  have hcz109_1 : wr.cell? ⟨gb185, 1, none⟩ = some (.string t177) := (blk_cell BK185.out 1).trans rfl
                  have hfz109_0 := blk_frozen BK185.out 0
                  have hfz109_1 := blk_frozen BK185.out 1
                  have hnb110 := NB186_187.out
                  have hnc110 := NB187_186.out
                  have hcz111_0 : wr.cell? ⟨gb186, 0, none⟩ = some (.int .i64 t179) := (blk_cell BK186.out 0).trans rfl
                  have hcz111_1 : wr.cell? ⟨gb186, 1, none⟩ = some (.string t180) := (blk_cell BK186.out 1).trans rfl
                  have hfz111_0 := blk_frozen BK186.out 0
                  have hfz111_1 := blk_frozen BK186.out 1
                  go_wp2_with (first | (go_at_call 16; (with_reducible refine (ballots_Less.calls k1 t176 t177 t179 t180 true _ A35.out).mono ?_); rintro e w112 ⟨rfl, hb⟩; have n0_ := Aside0.mk (blk_below (g := gb185) (o := .cells #[.int .i64 t176, .string t177] 26 (0, 0)) (by (with_reducible repeat (first | refine blk_drewN ?_ _ | refine blk_drew ?_ | refine blk_alloc ?_ _)); exact BK185.out) hb); have n1_ := Aside0.mk (blk_below (g := gb186) (o := .cells #[.int .i64 t179, .string t180] 26 (0, 0)) (by (with_reducible repeat (first | refine blk_drewN ?_ _ | refine blk_drew ?_ | refine blk_alloc ?_ _)); exact BK186.out) hb); have n2_ := Aside0.mk (blk_below (g := gb187) (o := .cells #[.int .i64 t182, .string t183] 26 (0, 0)) (by (with_reducible repeat (first | refine blk_drewN ?_ _ | refine blk_drew ?_ | refine blk_alloc ?_ _)); exact BK187.out) hb); have n3_ := Aside0.mk (below_step (by repeat (first | (with_reducible first | exact HB.out | apply below_alloc | apply pw_below_drewN | apply below_drew1 | refine below_set ?_ GE185.out | refine below_set ?_ GE186.out | refine below_set ?_ GE187.out) | exact HB.out)) hb); clear BK185; clear BK186; clear BK187; clear HB; have BK185 := n0_; have BK186 := n1_; have BK187 := n2_; have HB := n3_; clear n0_ n1_ n2_ n3_; (try clear hb); (try clear hb2); (try clear hk); (try clear hi); have hcz113_0 : w112.cell? ⟨gb186, 0, none⟩ = some (.int .i64 t179) := (blk_cell BK186.out 0).trans rfl; have hcz113_1 : w112.cell? ⟨gb186, 1, none⟩ = some (.string t180) := (blk_cell BK186.out 1).trans rfl; have hfz113_0 := blk_frozen BK186.out 0; have hfz113_1 := blk_frozen BK186.out 1; have hcz114_0 : w112.cell? ⟨gb187, 0, none⟩ = some (.int .i64 t182) := (blk_cell BK187.out 0).trans rfl; have hcz114_1 : w112.cell? ⟨gb187, 1, none⟩ = some (.string t183) := (blk_cell BK187.out 1).trans rfl; have hfz114_0 := blk_frozen BK187.out 0; have hfz114_1 := blk_frozen BK187.out 1) | (go_at_call 16; (with_reducible refine (ballots_Less.calls k1 t179 t180 t182 t183 false _ A37.out).mono ?_); rintro e w115 ⟨rfl, hb⟩; have n0_ := Aside0.mk (blk_below (g := gb185) (o := .cells #[.int .i64 t176, .string t177] 26 (0, 0)) (by (with_reducible repeat (first | refine blk_drewN ?_ _ | refine blk_drew ?_ | refine blk_alloc ?_ _)); exact BK185.out) hb); have n1_ := Aside0.mk (blk_below (g := gb186) (o := .cells #[.int .i64 t179, .string t180] 26 (0, 0)) (by (with_reducible repeat (first | refine blk_drewN ?_ _ | refine blk_drew ?_ | refine blk_alloc ?_ _)); exact BK186.out) hb); have n2_ := Aside0.mk (blk_below (g := gb187) (o := .cells #[.int .i64 t182, .string t183] 26 (0, 0)) (by (with_reducible repeat (first | refine blk_drewN ?_ _ | refine blk_drew ?_ | refine blk_alloc ?_ _)); exact BK187.out) hb); have n3_ := Aside0.mk (below_step (by repeat (first | (with_reducible first | exact HB.out | apply below_alloc | apply pw_below_drewN | apply below_drew1 | refine below_set ?_ GE185.out | refine below_set ?_ GE186.out | refine below_set ?_ GE187.out) | exact HB.out)) hb); clear BK185; clear BK186; clear BK187; clear HB; have BK185 := n0_; have BK186 := n1_; have BK187 := n2_; have HB := n3_; clear n0_ n1_ n2_ n3_; (try clear hb); (try clear hb2); (try clear hk); (try clear hi); have hcz116_0 : w115.cell? ⟨gb185, 0, none⟩ = some (.int .i64 t176) := (blk_cell BK185.out 0).trans rfl; have hcz116_1 : w115.cell? ⟨gb185, 1, none⟩ = some (.string t177) := (blk_cell BK185.out 1).trans rfl; have hfz116_0 := blk_frozen BK185.out 0; have hfz116_1 := blk_frozen BK185.out 1; have hcz117_0 : w115.cell? ⟨gb186, 0, none⟩ = some (.int .i64 t179) := (blk_cell BK186.out 0).trans rfl; have hcz117_1 : w115.cell? ⟨gb186, 1, none⟩ = some (.string t180) := (blk_cell BK186.out 1).trans rfl; have hfz117_0 := blk_frozen BK186.out 0; have hfz117_1 := blk_frozen BK186.out 1) | (go_at_call 17; (with_reducible refine (ballots_Covers.calls t176 t177 t179 t180 false _ A89.out).mono ?_); rintro e w118 ⟨rfl, hb⟩; have n0_ := Aside0.mk (blk_below (g := gb185) (o := .cells #[.int .i64 t176, .string t177] 26 (0, 0)) (by (with_reducible repeat (first | refine blk_drewN ?_ _ | refine blk_drew ?_ | refine blk_alloc ?_ _)); exact BK185.out) hb); have n1_ := Aside0.mk (blk_below (g := gb186) (o := .cells #[.int .i64 t179, .string t180] 26 (0, 0)) (by (with_reducible repeat (first | refine blk_drewN ?_ _ | refine blk_drew ?_ | refine blk_alloc ?_ _)); exact BK186.out) hb); have n2_ := Aside0.mk (blk_below (g := gb187) (o := .cells #[.int .i64 t182, .string t183] 26 (0, 0)) (by (with_reducible repeat (first | refine blk_drewN ?_ _ | refine blk_drew ?_ | refine blk_alloc ?_ _)); exact BK187.out) hb); have n3_ := Aside0.mk (below_step (by repeat (first | (with_reducible first | exact HB.out | apply below_alloc | apply pw_below_drewN | apply below_drew1 | refine below_set ?_ GE185.out | refine below_set ?_ GE186.out | refine below_set ?_ GE187.out) | exact HB.out)) hb); clear BK185; clear BK186; clear BK187; clear HB; have BK185 := n0_; have BK186 := n1_; have BK187 := n2_; have HB := n3_; clear n0_ n1_ n2_ n3_; (try clear hb); (try clear hb2); (try clear hk); (try clear hi)))
                  go_meet
                  case rel => exact ⟨_, (false), (by first | rfl | (simp; done) | (simp [*]; done) | (refine congrArg (Value.int .i64) ?_; unfold wrap64; omega)), H', ⟨by have := HK1.out; first | omega | exact Nat.le_refl _⟩, ⟨by (with_reducible repeat (first | refine blk_drewN ?_ _ | refine blk_drew ?_ | refine blk_alloc ?_ _)); exact BK185.out⟩, ⟨by (with_reducible repeat (first | refine blk_drewN ?_ _ | refine blk_drew ?_ | refine blk_alloc ?_ _)); exact BK186.out⟩, ⟨by (with_reducible repeat (first | refine blk_drewN ?_ _ | refine blk_drew ?_ | refine blk_alloc ?_ _)); exact BK187.out⟩, ⟨by repeat (first | (with_reducible first | exact HB.out | apply below_alloc | apply pw_below_drewN | apply below_drew1 | refine below_set ?_ GE185.out | refine below_set ?_ GE186.out | refine below_set ?_ GE187.out) | exact HB.out)⟩⟩
            · replace c36 := Bool.eq_false_iff.mpr c36
              subst c36
              have H1 : ((ballots_Covers.f t176 t177 t179 t180).bind fun t197 => (if t197 = true then ((ballots_Aborts.f k1 t176 t177 t179 t180).bind fun t198 => (trustquorumlaw23_BallotsOrder.j1 k1 t198 t176 t177 t179 t180 t182 t183)) else (trustquorumlaw23_BallotsOrder.j1 k1 false t176 t177 t179 t180 t182 t183))) = some r := by rw [if_neg (show ¬ (false = true) by decide)] at H; exact H
              clear H
              have H := H1
              clear H1
              replace H := Option.bind_eq_some_iff.mp H
              obtain ⟨t197, A1190, H⟩ := H
              replace H : (if t197 = true then ((ballots_Aborts.f k1 t176 t177 t179 t180).bind fun t198 => (trustquorumlaw23_BallotsOrder.j1 k1 t198 t176 t177 t179 t180 t182 t183)) else (trustquorumlaw23_BallotsOrder.j1 k1 false t176 t177 t179 t180 t182 t183)) = some r := H
              have A119 := Aside0.mk A1190
              clear A1190
              by_cases c120 : t197 = true
              · subst c120
                have H1 : ((ballots_Aborts.f k1 t176 t177 t179 t180).bind fun t198 => (trustquorumlaw23_BallotsOrder.j1 k1 t198 t176 t177 t179 t180 t182 t183)) = some r := by rw [if_pos rfl] at H; exact H
                clear H
                have H := H1
                clear H1
                replace H := Option.bind_eq_some_iff.mp H
                obtain ⟨t198, A1210, H⟩ := H
                replace H : (trustquorumlaw23_BallotsOrder.j1 k1 t198 t176 t177 t179 t180 t182 t183) = some r := H
                have A121 := Aside0.mk A1210
                clear A1210
                have H' := Aside0.mk H
                clear H
                have hnb122 := NB185_186.out
                have hnc122 := NB186_185.out
                have hnb123 := NB185_187.out
                have hnc123 := NB187_185.out
                have hcz124_0 : wr.cell? ⟨gb185, 0, none⟩ = some (.int .i64 t176) := (blk_cell BK185.out 0).trans rfl
                have hcz124_1 : wr.cell? ⟨gb185, 1, none⟩ = some (.string t177) := (blk_cell BK185.out 1).trans rfl
                have hfz124_0 := blk_frozen BK185.out 0
                have hfz124_1 := blk_frozen BK185.out 1
                have hnb125 := NB186_187.out
                have hnc125 := NB187_186.out
                have hcz126_0 : wr.cell? ⟨gb186, 0, none⟩ = some (.int .i64 t179) := (blk_cell BK186.out 0).trans rfl
                have hcz126_1 : wr.cell? ⟨gb186, 1, none⟩ = some (.string t180) := (blk_cell BK186.out 1).trans rfl
                have hfz126_0 := blk_frozen BK186.out 0
                have hfz126_1 := blk_frozen BK186.out 1
                go_wp2_with (first | (go_at_call 16; (with_reducible refine (ballots_Less.calls k1 t176 t177 t179 t180 false _ A35.out).mono ?_); rintro e w127 ⟨rfl, hb⟩; have n0_ := Aside0.mk (blk_below (g := gb185) (o := .cells #[.int .i64 t176, .string t177] 26 (0, 0)) (by (with_reducible repeat (first | refine blk_drewN ?_ _ | refine blk_drew ?_ | refine blk_alloc ?_ _)); exact BK185.out) hb); have n1_ := Aside0.mk (blk_below (g := gb186) (o := .cells #[.int .i64 t179, .string t180] 26 (0, 0)) (by (with_reducible repeat (first | refine blk_drewN ?_ _ | refine blk_drew ?_ | refine blk_alloc ?_ _)); exact BK186.out) hb); have n2_ := Aside0.mk (blk_below (g := gb187) (o := .cells #[.int .i64 t182, .string t183] 26 (0, 0)) (by (with_reducible repeat (first | refine blk_drewN ?_ _ | refine blk_drew ?_ | refine blk_alloc ?_ _)); exact BK187.out) hb); have n3_ := Aside0.mk (below_step (by repeat (first | (with_reducible first | exact HB.out | apply below_alloc | apply pw_below_drewN | apply below_drew1 | refine below_set ?_ GE185.out | refine below_set ?_ GE186.out | refine below_set ?_ GE187.out) | exact HB.out)) hb); clear BK185; clear BK186; clear BK187; clear HB; have BK185 := n0_; have BK186 := n1_; have BK187 := n2_; have HB := n3_; clear n0_ n1_ n2_ n3_; (try clear hb); (try clear hb2); (try clear hk); (try clear hi); have hcz128_0 : w127.cell? ⟨gb185, 0, none⟩ = some (.int .i64 t176) := (blk_cell BK185.out 0).trans rfl; have hcz128_1 : w127.cell? ⟨gb185, 1, none⟩ = some (.string t177) := (blk_cell BK185.out 1).trans rfl; have hfz128_0 := blk_frozen BK185.out 0; have hfz128_1 := blk_frozen BK185.out 1; have hcz129_0 : w127.cell? ⟨gb186, 0, none⟩ = some (.int .i64 t179) := (blk_cell BK186.out 0).trans rfl; have hcz129_1 : w127.cell? ⟨gb186, 1, none⟩ = some (.string t180) := (blk_cell BK186.out 1).trans rfl; have hfz129_0 := blk_frozen BK186.out 0; have hfz129_1 := blk_frozen BK186.out 1) | (go_at_call 17; (with_reducible refine (ballots_Covers.calls t176 t177 t179 t180 true _ A119.out).mono ?_); rintro e w130 ⟨rfl, hb⟩; have n0_ := Aside0.mk (blk_below (g := gb185) (o := .cells #[.int .i64 t176, .string t177] 26 (0, 0)) (by (with_reducible repeat (first | refine blk_drewN ?_ _ | refine blk_drew ?_ | refine blk_alloc ?_ _)); exact BK185.out) hb); have n1_ := Aside0.mk (blk_below (g := gb186) (o := .cells #[.int .i64 t179, .string t180] 26 (0, 0)) (by (with_reducible repeat (first | refine blk_drewN ?_ _ | refine blk_drew ?_ | refine blk_alloc ?_ _)); exact BK186.out) hb); have n2_ := Aside0.mk (blk_below (g := gb187) (o := .cells #[.int .i64 t182, .string t183] 26 (0, 0)) (by (with_reducible repeat (first | refine blk_drewN ?_ _ | refine blk_drew ?_ | refine blk_alloc ?_ _)); exact BK187.out) hb); have n3_ := Aside0.mk (below_step (by repeat (first | (with_reducible first | exact HB.out | apply below_alloc | apply pw_below_drewN | apply below_drew1 | refine below_set ?_ GE185.out | refine below_set ?_ GE186.out | refine below_set ?_ GE187.out) | exact HB.out)) hb); clear BK185; clear BK186; clear BK187; clear HB; have BK185 := n0_; have BK186 := n1_; have BK187 := n2_; have HB := n3_; clear n0_ n1_ n2_ n3_; (try clear hb); (try clear hb2); (try clear hk); (try clear hi); have hcz131_0 : w130.cell? ⟨gb185, 0, none⟩ = some (.int .i64 t176) := (blk_cell BK185.out 0).trans rfl; have hcz131_1 : w130.cell? ⟨gb185, 1, none⟩ = some (.string t177) := (blk_cell BK185.out 1).trans rfl; have hfz131_0 := blk_frozen BK185.out 0; have hfz131_1 := blk_frozen BK185.out 1; have hcz132_0 : w130.cell? ⟨gb186, 0, none⟩ = some (.int .i64 t179) := (blk_cell BK186.out 0).trans rfl; have hcz132_1 : w130.cell? ⟨gb186, 1, none⟩ = some (.string t180) := (blk_cell BK186.out 1).trans rfl; have hfz132_0 := blk_frozen BK186.out 0; have hfz132_1 := blk_frozen BK186.out 1) | (go_at_call 18; (with_reducible refine (ballots_Aborts.calls k1 t176 t177 t179 t180 t198 _ A121.out).mono ?_); rintro e w133 ⟨rfl, hb⟩; have n0_ := Aside0.mk (blk_below (g := gb185) (o := .cells #[.int .i64 t176, .string t177] 26 (0, 0)) (by (with_reducible repeat (first | refine blk_drewN ?_ _ | refine blk_drew ?_ | refine blk_alloc ?_ _)); exact BK185.out) hb); have n1_ := Aside0.mk (blk_below (g := gb186) (o := .cells #[.int .i64 t179, .string t180] 26 (0, 0)) (by (with_reducible repeat (first | refine blk_drewN ?_ _ | refine blk_drew ?_ | refine blk_alloc ?_ _)); exact BK186.out) hb); have n2_ := Aside0.mk (blk_below (g := gb187) (o := .cells #[.int .i64 t182, .string t183] 26 (0, 0)) (by (with_reducible repeat (first | refine blk_drewN ?_ _ | refine blk_drew ?_ | refine blk_alloc ?_ _)); exact BK187.out) hb); have n3_ := Aside0.mk (below_step (by repeat (first | (with_reducible first | exact HB.out | apply below_alloc | apply pw_below_drewN | apply below_drew1 | refine below_set ?_ GE185.out | refine below_set ?_ GE186.out | refine below_set ?_ GE187.out) | exact HB.out)) hb); clear BK185; clear BK186; clear BK187; clear HB; have BK185 := n0_; have BK186 := n1_; have BK187 := n2_; have HB := n3_; clear n0_ n1_ n2_ n3_; (try clear hb); (try clear hb2); (try clear hk); (try clear hi)))
                go_meet
                case rel => exact ⟨_, (t198), (by first | rfl | (simp; done) | (simp [*]; done) | (refine congrArg (Value.int .i64) ?_; unfold wrap64; omega)), H', ⟨by have := HK1.out; first | omega | exact Nat.le_refl _⟩, ⟨by (with_reducible repeat (first | refine blk_drewN ?_ _ | refine blk_drew ?_ | refine blk_alloc ?_ _)); exact BK185.out⟩, ⟨by (with_reducible repeat (first | refine blk_drewN ?_ _ | refine blk_drew ?_ | refine blk_alloc ?_ _)); exact BK186.out⟩, ⟨by (with_reducible repeat (first | refine blk_drewN ?_ _ | refine blk_drew ?_ | refine blk_alloc ?_ _)); exact BK187.out⟩, ⟨by repeat (first | (with_reducible first | exact HB.out | apply below_alloc | apply pw_below_drewN | apply below_drew1 | refine below_set ?_ GE185.out | refine below_set ?_ GE186.out | refine below_set ?_ GE187.out) | exact HB.out)⟩⟩
              · replace c120 := Bool.eq_false_iff.mpr c120
                subst c120
                have H1 : (trustquorumlaw23_BallotsOrder.j1 k1 false t176 t177 t179 t180 t182 t183) = some r := by rw [if_neg (show ¬ (false = true) by decide)] at H; exact H
                clear H
                have H := H1
                clear H1
                have H' := Aside0.mk H
                clear H
                have hnb134 := NB185_186.out
                have hnc134 := NB186_185.out
                have hnb135 := NB185_187.out
                have hnc135 := NB187_185.out
                have hcz136_0 : wr.cell? ⟨gb185, 0, none⟩ = some (.int .i64 t176) := (blk_cell BK185.out 0).trans rfl
                have hcz136_1 : wr.cell? ⟨gb185, 1, none⟩ = some (.string t177) := (blk_cell BK185.out 1).trans rfl
                have hfz136_0 := blk_frozen BK185.out 0
                have hfz136_1 := blk_frozen BK185.out 1
                have hnb137 := NB186_187.out
                have hnc137 := NB187_186.out
                have hcz138_0 : wr.cell? ⟨gb186, 0, none⟩ = some (.int .i64 t179) := (blk_cell BK186.out 0).trans rfl
                have hcz138_1 : wr.cell? ⟨gb186, 1, none⟩ = some (.string t180) := (blk_cell BK186.out 1).trans rfl
                have hfz138_0 := blk_frozen BK186.out 0
                have hfz138_1 := blk_frozen BK186.out 1
                go_wp2_with (first | (go_at_call 16; (with_reducible refine (ballots_Less.calls k1 t176 t177 t179 t180 false _ A35.out).mono ?_); rintro e w139 ⟨rfl, hb⟩; have n0_ := Aside0.mk (blk_below (g := gb185) (o := .cells #[.int .i64 t176, .string t177] 26 (0, 0)) (by (with_reducible repeat (first | refine blk_drewN ?_ _ | refine blk_drew ?_ | refine blk_alloc ?_ _)); exact BK185.out) hb); have n1_ := Aside0.mk (blk_below (g := gb186) (o := .cells #[.int .i64 t179, .string t180] 26 (0, 0)) (by (with_reducible repeat (first | refine blk_drewN ?_ _ | refine blk_drew ?_ | refine blk_alloc ?_ _)); exact BK186.out) hb); have n2_ := Aside0.mk (blk_below (g := gb187) (o := .cells #[.int .i64 t182, .string t183] 26 (0, 0)) (by (with_reducible repeat (first | refine blk_drewN ?_ _ | refine blk_drew ?_ | refine blk_alloc ?_ _)); exact BK187.out) hb); have n3_ := Aside0.mk (below_step (by repeat (first | (with_reducible first | exact HB.out | apply below_alloc | apply pw_below_drewN | apply below_drew1 | refine below_set ?_ GE185.out | refine below_set ?_ GE186.out | refine below_set ?_ GE187.out) | exact HB.out)) hb); clear BK185; clear BK186; clear BK187; clear HB; have BK185 := n0_; have BK186 := n1_; have BK187 := n2_; have HB := n3_; clear n0_ n1_ n2_ n3_; (try clear hb); (try clear hb2); (try clear hk); (try clear hi); have hcz140_0 : w139.cell? ⟨gb185, 0, none⟩ = some (.int .i64 t176) := (blk_cell BK185.out 0).trans rfl; have hcz140_1 : w139.cell? ⟨gb185, 1, none⟩ = some (.string t177) := (blk_cell BK185.out 1).trans rfl; have hfz140_0 := blk_frozen BK185.out 0; have hfz140_1 := blk_frozen BK185.out 1; have hcz141_0 : w139.cell? ⟨gb186, 0, none⟩ = some (.int .i64 t179) := (blk_cell BK186.out 0).trans rfl; have hcz141_1 : w139.cell? ⟨gb186, 1, none⟩ = some (.string t180) := (blk_cell BK186.out 1).trans rfl; have hfz141_0 := blk_frozen BK186.out 0; have hfz141_1 := blk_frozen BK186.out 1) | (go_at_call 17; (with_reducible refine (ballots_Covers.calls t176 t177 t179 t180 false _ A119.out).mono ?_); rintro e w142 ⟨rfl, hb⟩; have n0_ := Aside0.mk (blk_below (g := gb185) (o := .cells #[.int .i64 t176, .string t177] 26 (0, 0)) (by (with_reducible repeat (first | refine blk_drewN ?_ _ | refine blk_drew ?_ | refine blk_alloc ?_ _)); exact BK185.out) hb); have n1_ := Aside0.mk (blk_below (g := gb186) (o := .cells #[.int .i64 t179, .string t180] 26 (0, 0)) (by (with_reducible repeat (first | refine blk_drewN ?_ _ | refine blk_drew ?_ | refine blk_alloc ?_ _)); exact BK186.out) hb); have n2_ := Aside0.mk (blk_below (g := gb187) (o := .cells #[.int .i64 t182, .string t183] 26 (0, 0)) (by (with_reducible repeat (first | refine blk_drewN ?_ _ | refine blk_drew ?_ | refine blk_alloc ?_ _)); exact BK187.out) hb); have n3_ := Aside0.mk (below_step (by repeat (first | (with_reducible first | exact HB.out | apply below_alloc | apply pw_below_drewN | apply below_drew1 | refine below_set ?_ GE185.out | refine below_set ?_ GE186.out | refine below_set ?_ GE187.out) | exact HB.out)) hb); clear BK185; clear BK186; clear BK187; clear HB; have BK185 := n0_; have BK186 := n1_; have BK187 := n2_; have HB := n3_; clear n0_ n1_ n2_ n3_; (try clear hb); (try clear hb2); (try clear hk); (try clear hi)))
                go_meet
                case rel => exact ⟨_, (false), (by first | rfl | (simp; done) | (simp [*]; done) | (refine congrArg (Value.int .i64) ?_; unfold wrap64; omega)), H', ⟨by have := HK1.out; first | omega | exact Nat.le_refl _⟩, ⟨by (with_reducible repeat (first | refine blk_drewN ?_ _ | refine blk_drew ?_ | refine blk_alloc ?_ _)); exact BK185.out⟩, ⟨by (with_reducible repeat (first | refine blk_drewN ?_ _ | refine blk_drew ?_ | refine blk_alloc ?_ _)); exact BK186.out⟩, ⟨by (with_reducible repeat (first | refine blk_drewN ?_ _ | refine blk_drew ?_ | refine blk_alloc ?_ _)); exact BK187.out⟩, ⟨by repeat (first | (with_reducible first | exact HB.out | apply below_alloc | apply pw_below_drewN | apply below_drew1 | refine below_set ?_ GE185.out | refine below_set ?_ GE186.out | refine below_set ?_ GE187.out) | exact HB.out)⟩⟩
          · rw [if_neg c34] at H
            have c34b0 : (x7_1 == 1) = false := beq_eq_false_iff_ne.mpr c34
            have c34b1 : (x7_1 != 1) = true := bne_iff_ne.mpr c34
            (first | rw [c34b0] | (simp only [i64_w, i32_w]; rw [c34b0]) | skip)
            have H' := Aside0.mk H
            clear H
            go_wp2
            go_meet
            case rel => exact ⟨_, (true), (by first | rfl | (simp; done) | (simp [*]; done) | (refine congrArg (Value.int .i64) ?_; unfold wrap64; omega)), H', ⟨by have := HK1.out; first | omega | exact Nat.le_refl _⟩, ⟨by (with_reducible repeat (first | refine blk_drewN ?_ _ | refine blk_drew ?_ | refine blk_alloc ?_ _)); exact BK185.out⟩, ⟨by (with_reducible repeat (first | refine blk_drewN ?_ _ | refine blk_drew ?_ | refine blk_alloc ?_ _)); exact BK186.out⟩, ⟨by (with_reducible repeat (first | refine blk_drewN ?_ _ | refine blk_drew ?_ | refine blk_alloc ?_ _)); exact BK187.out⟩, ⟨by repeat (first | (with_reducible first | exact HB.out | apply below_alloc | apply pw_below_drewN | apply below_drew1 | refine below_set ?_ GE185.out | refine below_set ?_ GE186.out | refine below_set ?_ GE187.out) | exact HB.out)⟩⟩
        case rest =>
          clear HC33
          try clear c1
          try clear c2
          try clear p2
          try clear c3
          try clear p3
          try clear q3
          try clear hx3
          try clear c4
          try clear c6
          try clear p6
          try clear c7
          try clear c8
          try clear c9
          try clear c10
          try clear c11
          try clear c12
          try clear c13
          try clear c15
          try clear c16
          try clear c17
          try clear c19
          try clear c20
          try clear c22
          try clear c28
          try clear c28b0
          try clear c29
          try clear c29b0
          try clear p30
          try clear q30
          try clear hx30
          try clear q31
          try clear c32
          try clear c32b0
          try clear c34
          try clear c34b0
          try clear c34b1
          try clear c36
          try clear c38
          try clear c40
          try clear c42
          try clear c44
          try clear c45
          try clear c47
          try clear c62
          try clear c63
          try clear p64
          try clear c65
          try clear c77
          try clear c78
          try clear c80
          try clear c90
          try clear c92
          try clear c93
          try clear c95
          try clear c107
          try clear c108
          try clear c110
          try clear c120
          try clear c122
          try clear c123
          try clear c125
          try clear c134
          try clear c135
          try clear c137
          try clear hcz101_0
          try clear hcz101_1
          try clear hcz102_0
          try clear hcz102_1
          try clear hcz104_0
          try clear hcz104_1
          try clear hcz105_0
          try clear hcz105_1
          try clear hcz109_0
          try clear hcz109_1
          try clear hcz111_0
          try clear hcz111_1
          try clear hcz113_0
          try clear hcz113_1
          try clear hcz114_0
          try clear hcz114_1
          try clear hcz116_0
          try clear hcz116_1
          try clear hcz117_0
          try clear hcz117_1
          try clear hcz124_0
          try clear hcz124_1
          try clear hcz126_0
          try clear hcz126_1
          try clear hcz128_0
          try clear hcz128_1
          try clear hcz129_0
          try clear hcz129_1
          try clear hcz131_0
          try clear hcz131_1
          try clear hcz132_0
          try clear hcz132_1
          try clear hcz136_0
          try clear hcz136_1
          try clear hcz138_0
          try clear hcz138_1
          try clear hcz140_0
          try clear hcz140_1
          try clear hcz141_0
          try clear hcz141_1
          try clear hcz18_0
          try clear hcz18_1
          try clear hcz21_0
          try clear hcz21_1
          try clear hcz23_0
          try clear hcz23_1
          try clear hcz46_0
          try clear hcz46_1
          try clear hcz48_0
          try clear hcz48_1
          try clear hcz50_0
          try clear hcz50_1
          try clear hcz51_0
          try clear hcz51_1
          try clear hcz53_0
          try clear hcz53_1
          try clear hcz54_0
          try clear hcz54_1
          try clear hcz56_0
          try clear hcz56_1
          try clear hcz57_0
          try clear hcz57_1
          try clear hcz59_0
          try clear hcz59_1
          try clear hcz60_0
          try clear hcz60_1
          try clear hcz64_0
          try clear hcz64_1
          try clear hcz66_0
          try clear hcz66_1
          try clear hcz68_0
          try clear hcz68_1
          try clear hcz69_0
          try clear hcz69_1
          try clear hcz71_0
          try clear hcz71_1
          try clear hcz72_0
          try clear hcz72_1
          try clear hcz74_0
          try clear hcz74_1
          try clear hcz75_0
          try clear hcz75_1
          try clear hcz79_0
          try clear hcz79_1
          try clear hcz81_0
          try clear hcz81_1
          try clear hcz83_0
          try clear hcz83_1
          try clear hcz84_0
          try clear hcz84_1
          try clear hcz86_0
          try clear hcz86_1
          try clear hcz87_0
          try clear hcz87_1
          try clear hcz94_0
          try clear hcz94_1
          try clear hcz96_0
          try clear hcz96_1
          try clear hcz98_0
          try clear hcz98_1
          try clear hcz99_0
          try clear hcz99_1
          try clear hfz101_0
          try clear hfz101_1
          try clear hfz102_0
          try clear hfz102_1
          try clear hfz104_0
          try clear hfz104_1
          try clear hfz105_0
          try clear hfz105_1
          try clear hfz109_0
          try clear hfz109_1
          try clear hfz111_0
          try clear hfz111_1
          try clear hfz113_0
          try clear hfz113_1
          try clear hfz114_0
          try clear hfz114_1
          try clear hfz116_0
          try clear hfz116_1
          try clear hfz117_0
          try clear hfz117_1
          try clear hfz124_0
          try clear hfz124_1
          try clear hfz126_0
          try clear hfz126_1
          try clear hfz128_0
          try clear hfz128_1
          try clear hfz129_0
          try clear hfz129_1
          try clear hfz131_0
          try clear hfz131_1
          try clear hfz132_0
          try clear hfz132_1
          try clear hfz136_0
          try clear hfz136_1
          try clear hfz138_0
          try clear hfz138_1
          try clear hfz140_0
          try clear hfz140_1
          try clear hfz141_0
          try clear hfz141_1
          try clear hfz18_0
          try clear hfz18_1
          try clear hfz21_0
          try clear hfz21_1
          try clear hfz23_0
          try clear hfz23_1
          try clear hfz46_0
          try clear hfz46_1
          try clear hfz48_0
          try clear hfz48_1
          try clear hfz50_0
          try clear hfz50_1
          try clear hfz51_0
          try clear hfz51_1
          try clear hfz53_0
          try clear hfz53_1
          try clear hfz54_0
          try clear hfz54_1
          try clear hfz56_0
          try clear hfz56_1
          try clear hfz57_0
          try clear hfz57_1
          try clear hfz59_0
          try clear hfz59_1
          try clear hfz60_0
          try clear hfz60_1
          try clear hfz64_0
          try clear hfz64_1
          try clear hfz66_0
          try clear hfz66_1
          try clear hfz68_0
          try clear hfz68_1
          try clear hfz69_0
          try clear hfz69_1
          try clear hfz71_0
          try clear hfz71_1
          try clear hfz72_0
          try clear hfz72_1
          try clear hfz74_0
          try clear hfz74_1
          try clear hfz75_0
          try clear hfz75_1
          try clear hfz79_0
          try clear hfz79_1
          try clear hfz81_0
          try clear hfz81_1
          try clear hfz83_0
          try clear hfz83_1
          try clear hfz84_0
          try clear hfz84_1
          try clear hfz86_0
          try clear hfz86_1
          try clear hfz87_0
          try clear hfz87_1
          try clear hfz94_0
          try clear hfz94_1
          try clear hfz96_0
          try clear hfz96_1
          try clear hfz98_0
          try clear hfz98_1
          try clear hfz99_0
          try clear hfz99_1
          try clear p2
          try clear p30
          try clear q30
          obtain ⟨kq, x62_32, rfl, HA, HJ32, BK185, BK186, BK187, HB⟩ := hcut
          cases kq with
          | zero => exact absurd HA.out (by simp [trustquorumlaw23_BallotsOrder.j1])
          | succ kj32 =>
            have H := HA.out
            clear HA
            simp only [trustquorumlaw23_BallotsOrder.j1] at H
            by_cases c143 : x62_32 = true
            · subst c143
              have H1 : (some false) = some r := by rw [if_pos rfl] at H; exact H
              clear H
              have H := H1
              clear H1
              exact absurd ((Option.some.inj H).trans HRT.out) (by decide)
            · replace c143 := Bool.eq_false_iff.mpr c143
              subst c143
              have H1 : ((ballots_Aborts.f kj32 t176 t177 t179 t180).bind fun t199 => (if t199 = true then ((ballots_Covers.f t179 t180 t182 t183).bind fun t200 => (if t200 = true then ((ballots_Aborts.f kj32 t176 t177 t182 t183).bind fun t201 => (if t201 = true then ((ballots_Covers.f t176 t177 t179 t180).bind fun t202 => (if t202 = true then ((ballots_Covers.f t179 t180 t182 t183).bind fun t203 => (if t203 = true then ((ballots_Covers.f t176 t177 t182 t183).bind fun t204 => (trustquorumlaw23_BallotsOrder.j2 kj32 (!t204) t176 t177 t179 t180)) else (trustquorumlaw23_BallotsOrder.j2 kj32 false t176 t177 t179 t180))) else (trustquorumlaw23_BallotsOrder.j2 kj32 false t176 t177 t179 t180))) else (trustquorumlaw23_BallotsOrder.j2 kj32 true t176 t177 t179 t180))) else ((ballots_Covers.f t176 t177 t179 t180).bind fun t205 => (if t205 = true then ((ballots_Covers.f t179 t180 t182 t183).bind fun t206 => (if t206 = true then ((ballots_Covers.f t176 t177 t182 t183).bind fun t207 => (trustquorumlaw23_BallotsOrder.j2 kj32 (!t207) t176 t177 t179 t180)) else (trustquorumlaw23_BallotsOrder.j2 kj32 false t176 t177 t179 t180))) else (trustquorumlaw23_BallotsOrder.j2 kj32 false t176 t177 t179 t180))))) else ((ballots_Covers.f t176 t177 t179 t180).bind fun t208 => (if t208 = true then ((ballots_Covers.f t179 t180 t182 t183).bind fun t209 => (if t209 = true then ((ballots_Covers.f t176 t177 t182 t183).bind fun t210 => (trustquorumlaw23_BallotsOrder.j2 kj32 (!t210) t176 t177 t179 t180)) else (trustquorumlaw23_BallotsOrder.j2 kj32 false t176 t177 t179 t180))) else (trustquorumlaw23_BallotsOrder.j2 kj32 false t176 t177 t179 t180))))) = some r := by rw [if_neg (show ¬ (false = true) by decide)] at H; exact H
              clear H
              have H := H1
              clear H1
              have HC144 := Aside0.mk H
              clear H
              go_upto_region 12 with (fail)
              go_cut [92] (fun v92 wc => ∃ (kq : Nat) (x92_143 : Bool), v92 = .bool x92_143 ∧ Aside0 (trustquorumlaw23_BallotsOrder.j2 kq x92_143 t176 t177 t179 t180 = some r) ∧ Aside0 (kq ≤ kj32) ∧ Aside0 (wc.heap[gb185]? = some (.cells #[.int .i64 t176, .string t177] 26 (0, 0))) ∧ Aside0 (wc.heap[gb186]? = some (.cells #[.int .i64 t179, .string t180] 26 (0, 0))) ∧ Aside0 (wc.heap[gb187]? = some (.cells #[.int .i64 t182, .string t183] 26 (0, 0))) ∧ Aside0 (Below w.heap.size w wc))
              case first =>
                have H := HC144.out
                clear HC144
                replace H := Option.bind_eq_some_iff.mp H
                obtain ⟨t199, A1450, H⟩ := H
                replace H : (if t199 = true then ((ballots_Covers.f t179 t180 t182 t183).bind fun t200 => (if t200 = true then ((ballots_Aborts.f kj32 t176 t177 t182 t183).bind fun t201 => (if t201 = true then ((ballots_Covers.f t176 t177 t179 t180).bind fun t202 => (if t202 = true then ((ballots_Covers.f t179 t180 t182 t183).bind fun t203 => (if t203 = true then ((ballots_Covers.f t176 t177 t182 t183).bind fun t204 => (trustquorumlaw23_BallotsOrder.j2 kj32 (!t204) t176 t177 t179 t180)) else (trustquorumlaw23_BallotsOrder.j2 kj32 false t176 t177 t179 t180))) else (trustquorumlaw23_BallotsOrder.j2 kj32 false t176 t177 t179 t180))) else (trustquorumlaw23_BallotsOrder.j2 kj32 true t176 t177 t179 t180))) else ((ballots_Covers.f t176 t177 t179 t180).bind fun t205 => (if t205 = true then ((ballots_Covers.f t179 t180 t182 t183).bind fun t206 => (if t206 = true then ((ballots_Covers.f t176 t177 t182 t183).bind fun t207 => (trustquorumlaw23_BallotsOrder.j2 kj32 (!t207) t176 t177 t179 t180)) else (trustquorumlaw23_BallotsOrder.j2 kj32 false t176 t177 t179 t180))) else (trustquorumlaw23_BallotsOrder.j2 kj32 false t176 t177 t179 t180))))) else ((ballots_Covers.f t176 t177 t179 t180).bind fun t208 => (if t208 = true then ((ballots_Covers.f t179 t180 t182 t183).bind fun t209 => (if t209 = true then ((ballots_Covers.f t176 t177 t182 t183).bind fun t210 => (trustquorumlaw23_BallotsOrder.j2 kj32 (!t210) t176 t177 t179 t180)) else (trustquorumlaw23_BallotsOrder.j2 kj32 false t176 t177 t179 t180))) else (trustquorumlaw23_BallotsOrder.j2 kj32 false t176 t177 t179 t180)))) = some r := H
                have A145 := Aside0.mk A1450
                clear A1450
                by_cases c146 : t199 = true
                · subst c146
                  have H1 : ((ballots_Covers.f t179 t180 t182 t183).bind fun t200 => (if t200 = true then ((ballots_Aborts.f kj32 t176 t177 t182 t183).bind fun t201 => (if t201 = true then ((ballots_Covers.f t176 t177 t179 t180).bind fun t202 => (if t202 = true then ((ballots_Covers.f t179 t180 t182 t183).bind fun t203 => (if t203 = true then ((ballots_Covers.f t176 t177 t182 t183).bind fun t204 => (trustquorumlaw23_BallotsOrder.j2 kj32 (!t204) t176 t177 t179 t180)) else (trustquorumlaw23_BallotsOrder.j2 kj32 false t176 t177 t179 t180))) else (trustquorumlaw23_BallotsOrder.j2 kj32 false t176 t177 t179 t180))) else (trustquorumlaw23_BallotsOrder.j2 kj32 true t176 t177 t179 t180))) else ((ballots_Covers.f t176 t177 t179 t180).bind fun t205 => (if t205 = true then ((ballots_Covers.f t179 t180 t182 t183).bind fun t206 => (if t206 = true then ((ballots_Covers.f t176 t177 t182 t183).bind fun t207 => (trustquorumlaw23_BallotsOrder.j2 kj32 (!t207) t176 t177 t179 t180)) else (trustquorumlaw23_BallotsOrder.j2 kj32 false t176 t177 t179 t180))) else (trustquorumlaw23_BallotsOrder.j2 kj32 false t176 t177 t179 t180))))) = some r := by rw [if_pos rfl] at H; exact H
                  clear H
                  have H := H1
                  clear H1
                  replace H := Option.bind_eq_some_iff.mp H
                  obtain ⟨t200, A1470, H⟩ := H
                  replace H : (if t200 = true then ((ballots_Aborts.f kj32 t176 t177 t182 t183).bind fun t201 => (if t201 = true then ((ballots_Covers.f t176 t177 t179 t180).bind fun t202 => (if t202 = true then ((ballots_Covers.f t179 t180 t182 t183).bind fun t203 => (if t203 = true then ((ballots_Covers.f t176 t177 t182 t183).bind fun t204 => (trustquorumlaw23_BallotsOrder.j2 kj32 (!t204) t176 t177 t179 t180)) else (trustquorumlaw23_BallotsOrder.j2 kj32 false t176 t177 t179 t180))) else (trustquorumlaw23_BallotsOrder.j2 kj32 false t176 t177 t179 t180))) else (trustquorumlaw23_BallotsOrder.j2 kj32 true t176 t177 t179 t180))) else ((ballots_Covers.f t176 t177 t179 t180).bind fun t205 => (if t205 = true then ((ballots_Covers.f t179 t180 t182 t183).bind fun t206 => (if t206 = true then ((ballots_Covers.f t176 t177 t182 t183).bind fun t207 => (trustquorumlaw23_BallotsOrder.j2 kj32 (!t207) t176 t177 t179 t180)) else (trustquorumlaw23_BallotsOrder.j2 kj32 false t176 t177 t179 t180))) else (trustquorumlaw23_BallotsOrder.j2 kj32 false t176 t177 t179 t180)))) = some r := H
                  have A147 := Aside0.mk A1470
                  clear A1470
                  by_cases c148 : t200 = true
                  · subst c148
                    have H1 : ((ballots_Aborts.f kj32 t176 t177 t182 t183).bind fun t201 => (if t201 = true then ((ballots_Covers.f t176 t177 t179 t180).bind fun t202 => (if t202 = true then ((ballots_Covers.f t179 t180 t182 t183).bind fun t203 => (if t203 = true then ((ballots_Covers.f t176 t177 t182 t183).bind fun t204 => (trustquorumlaw23_BallotsOrder.j2 kj32 (!t204) t176 t177 t179 t180)) else (trustquorumlaw23_BallotsOrder.j2 kj32 false t176 t177 t179 t180))) else (trustquorumlaw23_BallotsOrder.j2 kj32 false t176 t177 t179 t180))) else (trustquorumlaw23_BallotsOrder.j2 kj32 true t176 t177 t179 t180))) = some r := by rw [if_pos rfl] at H; exact H
                    clear H
                    have H := H1
                    clear H1
                    replace H := Option.bind_eq_some_iff.mp H
                    obtain ⟨t201, A1490, H⟩ := H
                    replace H : (if t201 = true then ((ballots_Covers.f t176 t177 t179 t180).bind fun t202 => (if t202 = true then ((ballots_Covers.f t179 t180 t182 t183).bind fun t203 => (if t203 = true then ((ballots_Covers.f t176 t177 t182 t183).bind fun t204 => (trustquorumlaw23_BallotsOrder.j2 kj32 (!t204) t176 t177 t179 t180)) else (trustquorumlaw23_BallotsOrder.j2 kj32 false t176 t177 t179 t180))) else (trustquorumlaw23_BallotsOrder.j2 kj32 false t176 t177 t179 t180))) else (trustquorumlaw23_BallotsOrder.j2 kj32 true t176 t177 t179 t180)) = some r := H
                    have A149 := Aside0.mk A1490
                    clear A1490
                    by_cases c150 : t201 = true
                    · subst c150
                      have H1 : ((ballots_Covers.f t176 t177 t179 t180).bind fun t202 => (if t202 = true then ((ballots_Covers.f t179 t180 t182 t183).bind fun t203 => (if t203 = true then ((ballots_Covers.f t176 t177 t182 t183).bind fun t204 => (trustquorumlaw23_BallotsOrder.j2 kj32 (!t204) t176 t177 t179 t180)) else (trustquorumlaw23_BallotsOrder.j2 kj32 false t176 t177 t179 t180))) else (trustquorumlaw23_BallotsOrder.j2 kj32 false t176 t177 t179 t180))) = some r := by rw [if_pos rfl] at H; exact H
                      clear H
                      have H := H1
                      clear H1
                      replace H := Option.bind_eq_some_iff.mp H
                      obtain ⟨t202, A1510, H⟩ := H
                      replace H : (if t202 = true then ((ballots_Covers.f t179 t180 t182 t183).bind fun t203 => (if t203 = true then ((ballots_Covers.f t176 t177 t182 t183).bind fun t204 => (trustquorumlaw23_BallotsOrder.j2 kj32 (!t204) t176 t177 t179 t180)) else (trustquorumlaw23_BallotsOrder.j2 kj32 false t176 t177 t179 t180))) else (trustquorumlaw23_BallotsOrder.j2 kj32 false t176 t177 t179 t180)) = some r := H
                      have A151 := Aside0.mk A1510
                      clear A1510
                      by_cases c152 : t202 = true
                      · subst c152
                        have H1 : ((ballots_Covers.f t179 t180 t182 t183).bind fun t203 => (if t203 = true then ((ballots_Covers.f t176 t177 t182 t183).bind fun t204 => (trustquorumlaw23_BallotsOrder.j2 kj32 (!t204) t176 t177 t179 t180)) else (trustquorumlaw23_BallotsOrder.j2 kj32 false t176 t177 t179 t180))) = some r := by rw [if_pos rfl] at H; exact H
                        clear H
                        have H := H1
                        clear H1
                        replace H := Option.bind_eq_some_iff.mp H
                        obtain ⟨t203, A1530, H⟩ := H
                        replace H : (if t203 = true then ((ballots_Covers.f t176 t177 t182 t183).bind fun t204 => (trustquorumlaw23_BallotsOrder.j2 kj32 (!t204) t176 t177 t179 t180)) else (trustquorumlaw23_BallotsOrder.j2 kj32 false t176 t177 t179 t180)) = some r := H
                        have A153 := Aside0.mk A1530
                        clear A1530
                        obtain rfl : true = t203 := Option.some.inj (A147.out.symm.trans A153.out)
                        have H1 : ((ballots_Covers.f t176 t177 t182 t183).bind fun t204 => (trustquorumlaw23_BallotsOrder.j2 kj32 (!t204) t176 t177 t179 t180)) = some r := by rw [if_pos rfl] at H; exact H
                        clear H
                        have H := H1
                        clear H1
                        replace H := Option.bind_eq_some_iff.mp H
                        obtain ⟨t204, A1540, H⟩ := H
                        replace H : (trustquorumlaw23_BallotsOrder.j2 kj32 (!t204) t176 t177 t179 t180) = some r := H
                        have A154 := Aside0.mk A1540
                        clear A1540
                        have H' := Aside0.mk H
                        clear H
                        have hnb155 := NB185_186.out
                        have hnc155 := NB186_185.out
                        have hnb156 := NB185_187.out
                        have hnc156 := NB187_185.out
                        have hcz157_0 : wc.cell? ⟨gb185, 0, none⟩ = some (.int .i64 t176) := (blk_cell BK185.out 0).trans rfl
                        have hcz157_1 : wc.cell? ⟨gb185, 1, none⟩ = some (.string t177) := (blk_cell BK185.out 1).trans rfl
                        have hfz157_0 := blk_frozen BK185.out 0
                        have hfz157_1 := blk_frozen BK185.out 1
                        have hnb158 := NB186_187.out
                        have hnc158 := NB187_186.out
                        have hcz159_0 : wc.cell? ⟨gb186, 0, none⟩ = some (.int .i64 t179) := (blk_cell BK186.out 0).trans rfl
                        have hcz159_1 : wc.cell? ⟨gb186, 1, none⟩ = some (.string t180) := (blk_cell BK186.out 1).trans rfl
                        have hfz159_0 := blk_frozen BK186.out 0
                        have hfz159_1 := blk_frozen BK186.out 1
                        go_wp2_with (first | ((with_reducible refine gate_callee (f := 18) rfl ?_); refine goesL_ (some 65) rfl rfl Try.func18 (by kernel_rfl) rfl #[.agg #[.int .i64 t176, .string t177], .agg #[.int .i64 t179, .string t180]] rfl (by (try simp only [List.map_toArray, List.map_cons, List.map_nil]); first | done | rfl | (simp only [List.length_drop, List.length_take]; rfl)) ?_; (with_reducible refine (ballots_Aborts.calls kj32 t176 t177 t179 t180 true _ A145.out).mono ?_); rintro e w160 ⟨rfl, hb⟩; refine ⟨_, rfl, ?_⟩; have n0_ := Aside0.mk (blk_below (g := gb185) (o := .cells #[.int .i64 t176, .string t177] 26 (0, 0)) (by (with_reducible repeat (first | refine blk_drewN ?_ _ | refine blk_drew ?_ | refine blk_alloc ?_ _)); exact BK185.out) hb); have n1_ := Aside0.mk (blk_below (g := gb186) (o := .cells #[.int .i64 t179, .string t180] 26 (0, 0)) (by (with_reducible repeat (first | refine blk_drewN ?_ _ | refine blk_drew ?_ | refine blk_alloc ?_ _)); exact BK186.out) hb); have n2_ := Aside0.mk (blk_below (g := gb187) (o := .cells #[.int .i64 t182, .string t183] 26 (0, 0)) (by (with_reducible repeat (first | refine blk_drewN ?_ _ | refine blk_drew ?_ | refine blk_alloc ?_ _)); exact BK187.out) hb); have n3_ := Aside0.mk (below_step (by repeat (first | (with_reducible first | exact HB.out | apply below_alloc | apply pw_below_drewN | apply below_drew1 | refine below_set ?_ GE185.out | refine below_set ?_ GE186.out | refine below_set ?_ GE187.out) | exact HB.out)) hb); clear BK185; clear BK186; clear BK187; clear HB; have BK185 := n0_; have BK186 := n1_; have BK187 := n2_; have HB := n3_; clear n0_ n1_ n2_ n3_; (try clear hb); (try clear hb2); (try clear hk); (try clear hi); have hcz161_0 : w160.cell? ⟨gb186, 0, none⟩ = some (.int .i64 t179) := (blk_cell BK186.out 0).trans rfl; have hcz161_1 : w160.cell? ⟨gb186, 1, none⟩ = some (.string t180) := (blk_cell BK186.out 1).trans rfl; have hfz161_0 := blk_frozen BK186.out 0; have hfz161_1 := blk_frozen BK186.out 1; have hcz162_0 : w160.cell? ⟨gb187, 0, none⟩ = some (.int .i64 t182) := (blk_cell BK187.out 0).trans rfl; have hcz162_1 : w160.cell? ⟨gb187, 1, none⟩ = some (.string t183) := (blk_cell BK187.out 1).trans rfl; have hfz162_0 := blk_frozen BK187.out 0; have hfz162_1 := blk_frozen BK187.out 1) | (go_at_call 17; (with_reducible refine (ballots_Covers.calls t179 t180 t182 t183 true _ A147.out).mono ?_); rintro e w163 ⟨rfl, hb⟩; have n0_ := Aside0.mk (blk_below (g := gb185) (o := .cells #[.int .i64 t176, .string t177] 26 (0, 0)) (by (with_reducible repeat (first | refine blk_drewN ?_ _ | refine blk_drew ?_ | refine blk_alloc ?_ _)); exact BK185.out) hb); have n1_ := Aside0.mk (blk_below (g := gb186) (o := .cells #[.int .i64 t179, .string t180] 26 (0, 0)) (by (with_reducible repeat (first | refine blk_drewN ?_ _ | refine blk_drew ?_ | refine blk_alloc ?_ _)); exact BK186.out) hb); have n2_ := Aside0.mk (blk_below (g := gb187) (o := .cells #[.int .i64 t182, .string t183] 26 (0, 0)) (by (with_reducible repeat (first | refine blk_drewN ?_ _ | refine blk_drew ?_ | refine blk_alloc ?_ _)); exact BK187.out) hb); have n3_ := Aside0.mk (below_step (by repeat (first | (with_reducible first | exact HB.out | apply below_alloc | apply pw_below_drewN | apply below_drew1 | refine below_set ?_ GE185.out | refine below_set ?_ GE186.out | refine below_set ?_ GE187.out) | exact HB.out)) hb); clear BK185; clear BK186; clear BK187; clear HB; have BK185 := n0_; have BK186 := n1_; have BK187 := n2_; have HB := n3_; clear n0_ n1_ n2_ n3_; (try clear hb); (try clear hb2); (try clear hk); (try clear hi); have hcz164_0 : w163.cell? ⟨gb185, 0, none⟩ = some (.int .i64 t176) := (blk_cell BK185.out 0).trans rfl; have hcz164_1 : w163.cell? ⟨gb185, 1, none⟩ = some (.string t177) := (blk_cell BK185.out 1).trans rfl; have hfz164_0 := blk_frozen BK185.out 0; have hfz164_1 := blk_frozen BK185.out 1; have hcz165_0 : w163.cell? ⟨gb187, 0, none⟩ = some (.int .i64 t182) := (blk_cell BK187.out 0).trans rfl; have hcz165_1 : w163.cell? ⟨gb187, 1, none⟩ = some (.string t183) := (blk_cell BK187.out 1).trans rfl; have hfz165_0 := blk_frozen BK187.out 0; have hfz165_1 := blk_frozen BK187.out 1) | (go_at_call 18; (with_reducible refine (ballots_Aborts.calls kj32 t176 t177 t182 t183 true _ A149.out).mono ?_); rintro e w166 ⟨rfl, hb⟩; have n0_ := Aside0.mk (blk_below (g := gb185) (o := .cells #[.int .i64 t176, .string t177] 26 (0, 0)) (by (with_reducible repeat (first | refine blk_drewN ?_ _ | refine blk_drew ?_ | refine blk_alloc ?_ _)); exact BK185.out) hb); have n1_ := Aside0.mk (blk_below (g := gb186) (o := .cells #[.int .i64 t179, .string t180] 26 (0, 0)) (by (with_reducible repeat (first | refine blk_drewN ?_ _ | refine blk_drew ?_ | refine blk_alloc ?_ _)); exact BK186.out) hb); have n2_ := Aside0.mk (blk_below (g := gb187) (o := .cells #[.int .i64 t182, .string t183] 26 (0, 0)) (by (with_reducible repeat (first | refine blk_drewN ?_ _ | refine blk_drew ?_ | refine blk_alloc ?_ _)); exact BK187.out) hb); have n3_ := Aside0.mk (below_step (by repeat (first | (with_reducible first | exact HB.out | apply below_alloc | apply pw_below_drewN | apply below_drew1 | refine below_set ?_ GE185.out | refine below_set ?_ GE186.out | refine below_set ?_ GE187.out) | exact HB.out)) hb); clear BK185; clear BK186; clear BK187; clear HB; have BK185 := n0_; have BK186 := n1_; have BK187 := n2_; have HB := n3_; clear n0_ n1_ n2_ n3_; (try clear hb); (try clear hb2); (try clear hk); (try clear hi); have hcz167_0 : w166.cell? ⟨gb185, 0, none⟩ = some (.int .i64 t176) := (blk_cell BK185.out 0).trans rfl; have hcz167_1 : w166.cell? ⟨gb185, 1, none⟩ = some (.string t177) := (blk_cell BK185.out 1).trans rfl; have hfz167_0 := blk_frozen BK185.out 0; have hfz167_1 := blk_frozen BK185.out 1; have hcz168_0 : w166.cell? ⟨gb186, 0, none⟩ = some (.int .i64 t179) := (blk_cell BK186.out 0).trans rfl; have hcz168_1 : w166.cell? ⟨gb186, 1, none⟩ = some (.string t180) := (blk_cell BK186.out 1).trans rfl; have hfz168_0 := blk_frozen BK186.out 0; have hfz168_1 := blk_frozen BK186.out 1) | (go_at_call 17; (with_reducible refine (ballots_Covers.calls t176 t177 t179 t180 true _ A151.out).mono ?_); rintro e w169 ⟨rfl, hb⟩; have n0_ := Aside0.mk (blk_below (g := gb185) (o := .cells #[.int .i64 t176, .string t177] 26 (0, 0)) (by (with_reducible repeat (first | refine blk_drewN ?_ _ | refine blk_drew ?_ | refine blk_alloc ?_ _)); exact BK185.out) hb); have n1_ := Aside0.mk (blk_below (g := gb186) (o := .cells #[.int .i64 t179, .string t180] 26 (0, 0)) (by (with_reducible repeat (first | refine blk_drewN ?_ _ | refine blk_drew ?_ | refine blk_alloc ?_ _)); exact BK186.out) hb); have n2_ := Aside0.mk (blk_below (g := gb187) (o := .cells #[.int .i64 t182, .string t183] 26 (0, 0)) (by (with_reducible repeat (first | refine blk_drewN ?_ _ | refine blk_drew ?_ | refine blk_alloc ?_ _)); exact BK187.out) hb); have n3_ := Aside0.mk (below_step (by repeat (first | (with_reducible first | exact HB.out | apply below_alloc | apply pw_below_drewN | apply below_drew1 | refine below_set ?_ GE185.out | refine below_set ?_ GE186.out | refine below_set ?_ GE187.out) | exact HB.out)) hb); clear BK185; clear BK186; clear BK187; clear HB; have BK185 := n0_; have BK186 := n1_; have BK187 := n2_; have HB := n3_; clear n0_ n1_ n2_ n3_; (try clear hb); (try clear hb2); (try clear hk); (try clear hi); have hcz170_0 : w169.cell? ⟨gb186, 0, none⟩ = some (.int .i64 t179) := (blk_cell BK186.out 0).trans rfl; have hcz170_1 : w169.cell? ⟨gb186, 1, none⟩ = some (.string t180) := (blk_cell BK186.out 1).trans rfl; have hfz170_0 := blk_frozen BK186.out 0; have hfz170_1 := blk_frozen BK186.out 1; have hcz171_0 : w169.cell? ⟨gb187, 0, none⟩ = some (.int .i64 t182) := (blk_cell BK187.out 0).trans rfl; have hcz171_1 : w169.cell? ⟨gb187, 1, none⟩ = some (.string t183) := (blk_cell BK187.out 1).trans rfl; have hfz171_0 := blk_frozen BK187.out 0; have hfz171_1 := blk_frozen BK187.out 1) | (go_at_call 17; (with_reducible refine (ballots_Covers.calls t179 t180 t182 t183 true _ A153.out).mono ?_); rintro e w172 ⟨rfl, hb⟩; have n0_ := Aside0.mk (blk_below (g := gb185) (o := .cells #[.int .i64 t176, .string t177] 26 (0, 0)) (by (with_reducible repeat (first | refine blk_drewN ?_ _ | refine blk_drew ?_ | refine blk_alloc ?_ _)); exact BK185.out) hb); have n1_ := Aside0.mk (blk_below (g := gb186) (o := .cells #[.int .i64 t179, .string t180] 26 (0, 0)) (by (with_reducible repeat (first | refine blk_drewN ?_ _ | refine blk_drew ?_ | refine blk_alloc ?_ _)); exact BK186.out) hb); have n2_ := Aside0.mk (blk_below (g := gb187) (o := .cells #[.int .i64 t182, .string t183] 26 (0, 0)) (by (with_reducible repeat (first | refine blk_drewN ?_ _ | refine blk_drew ?_ | refine blk_alloc ?_ _)); exact BK187.out) hb); have n3_ := Aside0.mk (below_step (by repeat (first | (with_reducible first | exact HB.out | apply below_alloc | apply pw_below_drewN | apply below_drew1 | refine below_set ?_ GE185.out | refine below_set ?_ GE186.out | refine below_set ?_ GE187.out) | exact HB.out)) hb); clear BK185; clear BK186; clear BK187; clear HB; have BK185 := n0_; have BK186 := n1_; have BK187 := n2_; have HB := n3_; clear n0_ n1_ n2_ n3_; (try clear hb); (try clear hb2); (try clear hk); (try clear hi); have hcz173_0 : w172.cell? ⟨gb185, 0, none⟩ = some (.int .i64 t176) := (blk_cell BK185.out 0).trans rfl; have hcz173_1 : w172.cell? ⟨gb185, 1, none⟩ = some (.string t177) := (blk_cell BK185.out 1).trans rfl; have hfz173_0 := blk_frozen BK185.out 0; have hfz173_1 := blk_frozen BK185.out 1; have hcz174_0 : w172.cell? ⟨gb187, 0, none⟩ = some (.int .i64 t182) := (blk_cell BK187.out 0).trans rfl; have hcz174_1 : w172.cell? ⟨gb187, 1, none⟩ = some (.string t183) := (blk_cell BK187.out 1).trans rfl; have hfz174_0 := blk_frozen BK187.out 0; have hfz174_1 := blk_frozen BK187.out 1) | (go_at_call 17; (with_reducible refine (ballots_Covers.calls t176 t177 t182 t183 t204 _ A154.out).mono ?_); rintro e w175 ⟨rfl, hb⟩; have n0_ := Aside0.mk (blk_below (g := gb185) (o := .cells #[.int .i64 t176, .string t177] 26 (0, 0)) (by (with_reducible repeat (first | refine blk_drewN ?_ _ | refine blk_drew ?_ | refine blk_alloc ?_ _)); exact BK185.out) hb); have n1_ := Aside0.mk (blk_below (g := gb186) (o := .cells #[.int .i64 t179, .string t180] 26 (0, 0)) (by (with_reducible repeat (first | refine blk_drewN ?_ _ | refine blk_drew ?_ | refine blk_alloc ?_ _)); exact BK186.out) hb); have n2_ := Aside0.mk (blk_below (g := gb187) (o := .cells #[.int .i64 t182, .string t183] 26 (0, 0)) (by (with_reducible repeat (first | refine blk_drewN ?_ _ | refine blk_drew ?_ | refine blk_alloc ?_ _)); exact BK187.out) hb); have n3_ := Aside0.mk (below_step (by repeat (first | (with_reducible first | exact HB.out | apply below_alloc | apply pw_below_drewN | apply below_drew1 | refine below_set ?_ GE185.out | refine below_set ?_ GE186.out | refine below_set ?_ GE187.out) | exact HB.out)) hb); clear BK185; clear BK186; clear BK187; clear HB; have BK185 := n0_; have BK186 := n1_; have BK187 := n2_; have HB := n3_; clear n0_ n1_ n2_ n3_; (try clear hb); (try clear hb2); (try clear hk); (try clear hi)))
                        go_meet
                        case rel => exact ⟨_, (!t204), (by first | rfl | (simp; done) | (simp [*]; done) | (refine congrArg (Value.int .i64) ?_; unfold wrap64; omega)), H', ⟨by have := HK1.out; have := HJ32.out; first | omega | exact Nat.le_refl _⟩, ⟨by (with_reducible repeat (first | refine blk_drewN ?_ _ | refine blk_drew ?_ | refine blk_alloc ?_ _)); exact BK185.out⟩, ⟨by (with_reducible repeat (first | refine blk_drewN ?_ _ | refine blk_drew ?_ | refine blk_alloc ?_ _)); exact BK186.out⟩, ⟨by (with_reducible repeat (first | refine blk_drewN ?_ _ | refine blk_drew ?_ | refine blk_alloc ?_ _)); exact BK187.out⟩, ⟨by repeat (first | (with_reducible first | exact HB.out | apply below_alloc | apply pw_below_drewN | apply below_drew1 | refine below_set ?_ GE185.out | refine below_set ?_ GE186.out | refine below_set ?_ GE187.out) | exact HB.out)⟩⟩
                      · replace c152 := Bool.eq_false_iff.mpr c152
                        subst c152
                        have H1 : (trustquorumlaw23_BallotsOrder.j2 kj32 false t176 t177 t179 t180) = some r := by rw [if_neg (show ¬ (false = true) by decide)] at H; exact H
                        clear H
                        have H := H1
                        clear H1
                        have H' := Aside0.mk H
                        clear H
                        have hnb176 := NB185_186.out
                        have hnc176 := NB186_185.out
                        have hnb177 := NB185_187.out
                        have hnc177 := NB187_185.out
                        have hcz178_0 : wc.cell? ⟨gb185, 0, none⟩ = some (.int .i64 t176) := (blk_cell BK185.out 0).trans rfl
                        have hcz178_1 : wc.cell? ⟨gb185, 1, none⟩ = some (.string t177) := (blk_cell BK185.out 1).trans rfl
                        have hfz178_0 := blk_frozen BK185.out 0
                        have hfz178_1 := blk_frozen BK185.out 1
                        have hnb179 := NB186_187.out
                        have hnc179 := NB187_186.out
                        have hcz180_0 : wc.cell? ⟨gb186, 0, none⟩ = some (.int .i64 t179) := (blk_cell BK186.out 0).trans rfl
                        have hcz180_1 : wc.cell? ⟨gb186, 1, none⟩ = some (.string t180) := (blk_cell BK186.out 1).trans rfl
                        have hfz180_0 := blk_frozen BK186.out 0
                        have hfz180_1 := blk_frozen BK186.out 1
                        go_wp2_with (first | ((with_reducible refine gate_callee (f := 18) rfl ?_); refine goesL_ (some 65) rfl rfl Try.func18 (by kernel_rfl) rfl #[.agg #[.int .i64 t176, .string t177], .agg #[.int .i64 t179, .string t180]] rfl (by (try simp only [List.map_toArray, List.map_cons, List.map_nil]); first | done | rfl | (simp only [List.length_drop, List.length_take]; rfl)) ?_; (with_reducible refine (ballots_Aborts.calls kj32 t176 t177 t179 t180 true _ A145.out).mono ?_); rintro e w181 ⟨rfl, hb⟩; refine ⟨_, rfl, ?_⟩; have n0_ := Aside0.mk (blk_below (g := gb185) (o := .cells #[.int .i64 t176, .string t177] 26 (0, 0)) (by (with_reducible repeat (first | refine blk_drewN ?_ _ | refine blk_drew ?_ | refine blk_alloc ?_ _)); exact BK185.out) hb); have n1_ := Aside0.mk (blk_below (g := gb186) (o := .cells #[.int .i64 t179, .string t180] 26 (0, 0)) (by (with_reducible repeat (first | refine blk_drewN ?_ _ | refine blk_drew ?_ | refine blk_alloc ?_ _)); exact BK186.out) hb); have n2_ := Aside0.mk (blk_below (g := gb187) (o := .cells #[.int .i64 t182, .string t183] 26 (0, 0)) (by (with_reducible repeat (first | refine blk_drewN ?_ _ | refine blk_drew ?_ | refine blk_alloc ?_ _)); exact BK187.out) hb); have n3_ := Aside0.mk (below_step (by repeat (first | (with_reducible first | exact HB.out | apply below_alloc | apply pw_below_drewN | apply below_drew1 | refine below_set ?_ GE185.out | refine below_set ?_ GE186.out | refine below_set ?_ GE187.out) | exact HB.out)) hb); clear BK185; clear BK186; clear BK187; clear HB; have BK185 := n0_; have BK186 := n1_; have BK187 := n2_; have HB := n3_; clear n0_ n1_ n2_ n3_; (try clear hb); (try clear hb2); (try clear hk); (try clear hi); have hcz182_0 : w181.cell? ⟨gb186, 0, none⟩ = some (.int .i64 t179) := (blk_cell BK186.out 0).trans rfl; have hcz182_1 : w181.cell? ⟨gb186, 1, none⟩ = some (.string t180) := (blk_cell BK186.out 1).trans rfl; have hfz182_0 := blk_frozen BK186.out 0; have hfz182_1 := blk_frozen BK186.out 1; have hcz183_0 : w181.cell? ⟨gb187, 0, none⟩ = some (.int .i64 t182) := (blk_cell BK187.out 0).trans rfl; have hcz183_1 : w181.cell? ⟨gb187, 1, none⟩ = some (.string t183) := (blk_cell BK187.out 1).trans rfl; have hfz183_0 := blk_frozen BK187.out 0; have hfz183_1 := blk_frozen BK187.out 1) | (go_at_call 17; (with_reducible refine (ballots_Covers.calls t179 t180 t182 t183 true _ A147.out).mono ?_); rintro e w184 ⟨rfl, hb⟩; have n0_ := Aside0.mk (blk_below (g := gb185) (o := .cells #[.int .i64 t176, .string t177] 26 (0, 0)) (by (with_reducible repeat (first | refine blk_drewN ?_ _ | refine blk_drew ?_ | refine blk_alloc ?_ _)); exact BK185.out) hb); have n1_ := Aside0.mk (blk_below (g := gb186) (o := .cells #[.int .i64 t179, .string t180] 26 (0, 0)) (by (with_reducible repeat (first | refine blk_drewN ?_ _ | refine blk_drew ?_ | refine blk_alloc ?_ _)); exact BK186.out) hb); have n2_ := Aside0.mk (blk_below (g := gb187) (o := .cells #[.int .i64 t182, .string t183] 26 (0, 0)) (by (with_reducible repeat (first | refine blk_drewN ?_ _ | refine blk_drew ?_ | refine blk_alloc ?_ _)); exact BK187.out) hb); have n3_ := Aside0.mk (below_step (by repeat (first | (with_reducible first | exact HB.out | apply below_alloc | apply pw_below_drewN | apply below_drew1 | refine below_set ?_ GE185.out | refine below_set ?_ GE186.out | refine below_set ?_ GE187.out) | exact HB.out)) hb); clear BK185; clear BK186; clear BK187; clear HB; have BK185 := n0_; have BK186 := n1_; have BK187 := n2_; have HB := n3_; clear n0_ n1_ n2_ n3_; (try clear hb); (try clear hb2); (try clear hk); (try clear hi); have hcz185_0 : w184.cell? ⟨gb185, 0, none⟩ = some (.int .i64 t176) := (blk_cell BK185.out 0).trans rfl; have hcz185_1 : w184.cell? ⟨gb185, 1, none⟩ = some (.string t177) := (blk_cell BK185.out 1).trans rfl; have hfz185_0 := blk_frozen BK185.out 0; have hfz185_1 := blk_frozen BK185.out 1; have hcz186_0 : w184.cell? ⟨gb187, 0, none⟩ = some (.int .i64 t182) := (blk_cell BK187.out 0).trans rfl; have hcz186_1 : w184.cell? ⟨gb187, 1, none⟩ = some (.string t183) := (blk_cell BK187.out 1).trans rfl; have hfz186_0 := blk_frozen BK187.out 0; have hfz186_1 := blk_frozen BK187.out 1) | (go_at_call 18; (with_reducible refine (ballots_Aborts.calls kj32 t176 t177 t182 t183 true _ A149.out).mono ?_); rintro e w187 ⟨rfl, hb⟩; have n0_ := Aside0.mk (blk_below (g := gb185) (o := .cells #[.int .i64 t176, .string t177] 26 (0, 0)) (by (with_reducible repeat (first | refine blk_drewN ?_ _ | refine blk_drew ?_ | refine blk_alloc ?_ _)); exact BK185.out) hb); have n1_ := Aside0.mk (blk_below (g := gb186) (o := .cells #[.int .i64 t179, .string t180] 26 (0, 0)) (by (with_reducible repeat (first | refine blk_drewN ?_ _ | refine blk_drew ?_ | refine blk_alloc ?_ _)); exact BK186.out) hb); have n2_ := Aside0.mk (blk_below (g := gb187) (o := .cells #[.int .i64 t182, .string t183] 26 (0, 0)) (by (with_reducible repeat (first | refine blk_drewN ?_ _ | refine blk_drew ?_ | refine blk_alloc ?_ _)); exact BK187.out) hb); have n3_ := Aside0.mk (below_step (by repeat (first | (with_reducible first | exact HB.out | apply below_alloc | apply pw_below_drewN | apply below_drew1 | refine below_set ?_ GE185.out | refine below_set ?_ GE186.out | refine below_set ?_ GE187.out) | exact HB.out)) hb); clear BK185; clear BK186; clear BK187; clear HB; have BK185 := n0_; have BK186 := n1_; have BK187 := n2_; have HB := n3_; clear n0_ n1_ n2_ n3_; (try clear hb); (try clear hb2); (try clear hk); (try clear hi); have hcz188_0 : w187.cell? ⟨gb185, 0, none⟩ = some (.int .i64 t176) := (blk_cell BK185.out 0).trans rfl; have hcz188_1 : w187.cell? ⟨gb185, 1, none⟩ = some (.string t177) := (blk_cell BK185.out 1).trans rfl; have hfz188_0 := blk_frozen BK185.out 0; have hfz188_1 := blk_frozen BK185.out 1; have hcz189_0 : w187.cell? ⟨gb186, 0, none⟩ = some (.int .i64 t179) := (blk_cell BK186.out 0).trans rfl; have hcz189_1 : w187.cell? ⟨gb186, 1, none⟩ = some (.string t180) := (blk_cell BK186.out 1).trans rfl; have hfz189_0 := blk_frozen BK186.out 0; have hfz189_1 := blk_frozen BK186.out 1) | (go_at_call 17; (with_reducible refine (ballots_Covers.calls t176 t177 t179 t180 false _ A151.out).mono ?_); rintro e w190 ⟨rfl, hb⟩; have n0_ := Aside0.mk (blk_below (g := gb185) (o := .cells #[.int .i64 t176, .string t177] 26 (0, 0)) (by (with_reducible repeat (first | refine blk_drewN ?_ _ | refine blk_drew ?_ | refine blk_alloc ?_ _)); exact BK185.out) hb); have n1_ := Aside0.mk (blk_below (g := gb186) (o := .cells #[.int .i64 t179, .string t180] 26 (0, 0)) (by (with_reducible repeat (first | refine blk_drewN ?_ _ | refine blk_drew ?_ | refine blk_alloc ?_ _)); exact BK186.out) hb); have n2_ := Aside0.mk (blk_below (g := gb187) (o := .cells #[.int .i64 t182, .string t183] 26 (0, 0)) (by (with_reducible repeat (first | refine blk_drewN ?_ _ | refine blk_drew ?_ | refine blk_alloc ?_ _)); exact BK187.out) hb); have n3_ := Aside0.mk (below_step (by repeat (first | (with_reducible first | exact HB.out | apply below_alloc | apply pw_below_drewN | apply below_drew1 | refine below_set ?_ GE185.out | refine below_set ?_ GE186.out | refine below_set ?_ GE187.out) | exact HB.out)) hb); clear BK185; clear BK186; clear BK187; clear HB; have BK185 := n0_; have BK186 := n1_; have BK187 := n2_; have HB := n3_; clear n0_ n1_ n2_ n3_; (try clear hb); (try clear hb2); (try clear hk); (try clear hi)))
                        go_meet
                        case rel => exact ⟨_, (false), (by first | rfl | (simp; done) | (simp [*]; done) | (refine congrArg (Value.int .i64) ?_; unfold wrap64; omega)), H', ⟨by have := HK1.out; have := HJ32.out; first | omega | exact Nat.le_refl _⟩, ⟨by (with_reducible repeat (first | refine blk_drewN ?_ _ | refine blk_drew ?_ | refine blk_alloc ?_ _)); exact BK185.out⟩, ⟨by (with_reducible repeat (first | refine blk_drewN ?_ _ | refine blk_drew ?_ | refine blk_alloc ?_ _)); exact BK186.out⟩, ⟨by (with_reducible repeat (first | refine blk_drewN ?_ _ | refine blk_drew ?_ | refine blk_alloc ?_ _)); exact BK187.out⟩, ⟨by repeat (first | (with_reducible first | exact HB.out | apply below_alloc | apply pw_below_drewN | apply below_drew1 | refine below_set ?_ GE185.out | refine below_set ?_ GE186.out | refine below_set ?_ GE187.out) | exact HB.out)⟩⟩
                    · replace c150 := Bool.eq_false_iff.mpr c150
                      subst c150
                      have H1 : (trustquorumlaw23_BallotsOrder.j2 kj32 true t176 t177 t179 t180) = some r := by rw [if_neg (show ¬ (false = true) by decide)] at H; exact H
                      clear H
                      have H := H1
                      clear H1
                      have H' := Aside0.mk H
                      clear H
                      have hnb191 := NB185_186.out
                      have hnc191 := NB186_185.out
                      have hnb192 := NB185_187.out
                      have hnc192 := NB187_185.out
                      have hcz193_0 : wc.cell? ⟨gb185, 0, none⟩ = some (.int .i64 t176) := (blk_cell BK185.out 0).trans rfl
                      have hcz193_1 : wc.cell? ⟨gb185, 1, none⟩ = some (.string t177) := (blk_cell BK185.out 1).trans rfl
                      have hfz193_0 := blk_frozen BK185.out 0
                      have hfz193_1 := blk_frozen BK185.out 1
                      have hnb194 := NB186_187.out
                      have hnc194 := NB187_186.out
                      have hcz195_0 : wc.cell? ⟨gb186, 0, none⟩ = some (.int .i64 t179) := (blk_cell BK186.out 0).trans rfl
                      have hcz195_1 : wc.cell? ⟨gb186, 1, none⟩ = some (.string t180) := (blk_cell BK186.out 1).trans rfl
                      have hfz195_0 := blk_frozen BK186.out 0
                      have hfz195_1 := blk_frozen BK186.out 1
                      go_wp2_with (first | ((with_reducible refine gate_callee (f := 18) rfl ?_); refine goesL_ (some 65) rfl rfl Try.func18 (by kernel_rfl) rfl #[.agg #[.int .i64 t176, .string t177], .agg #[.int .i64 t179, .string t180]] rfl (by (try simp only [List.map_toArray, List.map_cons, List.map_nil]); first | done | rfl | (simp only [List.length_drop, List.length_take]; rfl)) ?_; (with_reducible refine (ballots_Aborts.calls kj32 t176 t177 t179 t180 true _ A145.out).mono ?_); rintro e w196 ⟨rfl, hb⟩; refine ⟨_, rfl, ?_⟩; have n0_ := Aside0.mk (blk_below (g := gb185) (o := .cells #[.int .i64 t176, .string t177] 26 (0, 0)) (by (with_reducible repeat (first | refine blk_drewN ?_ _ | refine blk_drew ?_ | refine blk_alloc ?_ _)); exact BK185.out) hb); have n1_ := Aside0.mk (blk_below (g := gb186) (o := .cells #[.int .i64 t179, .string t180] 26 (0, 0)) (by (with_reducible repeat (first | refine blk_drewN ?_ _ | refine blk_drew ?_ | refine blk_alloc ?_ _)); exact BK186.out) hb); have n2_ := Aside0.mk (blk_below (g := gb187) (o := .cells #[.int .i64 t182, .string t183] 26 (0, 0)) (by (with_reducible repeat (first | refine blk_drewN ?_ _ | refine blk_drew ?_ | refine blk_alloc ?_ _)); exact BK187.out) hb); have n3_ := Aside0.mk (below_step (by repeat (first | (with_reducible first | exact HB.out | apply below_alloc | apply pw_below_drewN | apply below_drew1 | refine below_set ?_ GE185.out | refine below_set ?_ GE186.out | refine below_set ?_ GE187.out) | exact HB.out)) hb); clear BK185; clear BK186; clear BK187; clear HB; have BK185 := n0_; have BK186 := n1_; have BK187 := n2_; have HB := n3_; clear n0_ n1_ n2_ n3_; (try clear hb); (try clear hb2); (try clear hk); (try clear hi); have hcz197_0 : w196.cell? ⟨gb186, 0, none⟩ = some (.int .i64 t179) := (blk_cell BK186.out 0).trans rfl; have hcz197_1 : w196.cell? ⟨gb186, 1, none⟩ = some (.string t180) := (blk_cell BK186.out 1).trans rfl; have hfz197_0 := blk_frozen BK186.out 0; have hfz197_1 := blk_frozen BK186.out 1; have hcz198_0 : w196.cell? ⟨gb187, 0, none⟩ = some (.int .i64 t182) := (blk_cell BK187.out 0).trans rfl; have hcz198_1 : w196.cell? ⟨gb187, 1, none⟩ = some (.string t183) := (blk_cell BK187.out 1).trans rfl; have hfz198_0 := blk_frozen BK187.out 0; have hfz198_1 := blk_frozen BK187.out 1) | (go_at_call 17; (with_reducible refine (ballots_Covers.calls t179 t180 t182 t183 true _ A147.out).mono ?_); rintro e w199 ⟨rfl, hb⟩; have n0_ := Aside0.mk (blk_below (g := gb185) (o := .cells #[.int .i64 t176, .string t177] 26 (0, 0)) (by (with_reducible repeat (first | refine blk_drewN ?_ _ | refine blk_drew ?_ | refine blk_alloc ?_ _)); exact BK185.out) hb); have n1_ := Aside0.mk (blk_below (g := gb186) (o := .cells #[.int .i64 t179, .string t180] 26 (0, 0)) (by (with_reducible repeat (first | refine blk_drewN ?_ _ | refine blk_drew ?_ | refine blk_alloc ?_ _)); exact BK186.out) hb); have n2_ := Aside0.mk (blk_below (g := gb187) (o := .cells #[.int .i64 t182, .string t183] 26 (0, 0)) (by (with_reducible repeat (first | refine blk_drewN ?_ _ | refine blk_drew ?_ | refine blk_alloc ?_ _)); exact BK187.out) hb); have n3_ := Aside0.mk (below_step (by repeat (first | (with_reducible first | exact HB.out | apply below_alloc | apply pw_below_drewN | apply below_drew1 | refine below_set ?_ GE185.out | refine below_set ?_ GE186.out | refine below_set ?_ GE187.out) | exact HB.out)) hb); clear BK185; clear BK186; clear BK187; clear HB; have BK185 := n0_; have BK186 := n1_; have BK187 := n2_; have HB := n3_; clear n0_ n1_ n2_ n3_; (try clear hb); (try clear hb2); (try clear hk); (try clear hi); have hcz200_0 : w199.cell? ⟨gb185, 0, none⟩ = some (.int .i64 t176) := (blk_cell BK185.out 0).trans rfl; have hcz200_1 : w199.cell? ⟨gb185, 1, none⟩ = some (.string t177) := (blk_cell BK185.out 1).trans rfl; have hfz200_0 := blk_frozen BK185.out 0; have hfz200_1 := blk_frozen BK185.out 1; have hcz201_0 : w199.cell? ⟨gb187, 0, none⟩ = some (.int .i64 t182) := (blk_cell BK187.out 0).trans rfl; have hcz201_1 : w199.cell? ⟨gb187, 1, none⟩ = some (.string t183) := (blk_cell BK187.out 1).trans rfl; have hfz201_0 := blk_frozen BK187.out 0; have hfz201_1 := blk_frozen BK187.out 1) | (go_at_call 18; (with_reducible refine (ballots_Aborts.calls kj32 t176 t177 t182 t183 false _ A149.out).mono ?_); rintro e w202 ⟨rfl, hb⟩; have n0_ := Aside0.mk (blk_below (g := gb185) (o := .cells #[.int .i64 t176, .string t177] 26 (0, 0)) (by (with_reducible repeat (first | refine blk_drewN ?_ _ | refine blk_drew ?_ | refine blk_alloc ?_ _)); exact BK185.out) hb); have n1_ := Aside0.mk (blk_below (g := gb186) (o := .cells #[.int .i64 t179, .string t180] 26 (0, 0)) (by (with_reducible repeat (first | refine blk_drewN ?_ _ | refine blk_drew ?_ | refine blk_alloc ?_ _)); exact BK186.out) hb); have n2_ := Aside0.mk (blk_below (g := gb187) (o := .cells #[.int .i64 t182, .string t183] 26 (0, 0)) (by (with_reducible repeat (first | refine blk_drewN ?_ _ | refine blk_drew ?_ | refine blk_alloc ?_ _)); exact BK187.out) hb); have n3_ := Aside0.mk (below_step (by repeat (first | (with_reducible first | exact HB.out | apply below_alloc | apply pw_below_drewN | apply below_drew1 | refine below_set ?_ GE185.out | refine below_set ?_ GE186.out | refine below_set ?_ GE187.out) | exact HB.out)) hb); clear BK185; clear BK186; clear BK187; clear HB; have BK185 := n0_; have BK186 := n1_; have BK187 := n2_; have HB := n3_; clear n0_ n1_ n2_ n3_; (try clear hb); (try clear hb2); (try clear hk); (try clear hi)))
                      go_meet
                      case rel => exact ⟨_, (true), (by first | rfl | (simp; done) | (simp [*]; done) | (refine congrArg (Value.int .i64) ?_; unfold wrap64; omega)), H', ⟨by have := HK1.out; have := HJ32.out; first | omega | exact Nat.le_refl _⟩, ⟨by (with_reducible repeat (first | refine blk_drewN ?_ _ | refine blk_drew ?_ | refine blk_alloc ?_ _)); exact BK185.out⟩, ⟨by (with_reducible repeat (first | refine blk_drewN ?_ _ | refine blk_drew ?_ | refine blk_alloc ?_ _)); exact BK186.out⟩, ⟨by (with_reducible repeat (first | refine blk_drewN ?_ _ | refine blk_drew ?_ | refine blk_alloc ?_ _)); exact BK187.out⟩, ⟨by repeat (first | (with_reducible first | exact HB.out | apply below_alloc | apply pw_below_drewN | apply below_drew1 | refine below_set ?_ GE185.out | refine below_set ?_ GE186.out | refine below_set ?_ GE187.out) | exact HB.out)⟩⟩
                  · replace c148 := Bool.eq_false_iff.mpr c148
                    subst c148
                    have H1 : ((ballots_Covers.f t176 t177 t179 t180).bind fun t205 => (if t205 = true then ((ballots_Covers.f t179 t180 t182 t183).bind fun t206 => (if t206 = true then ((ballots_Covers.f t176 t177 t182 t183).bind fun t207 => (trustquorumlaw23_BallotsOrder.j2 kj32 (!t207) t176 t177 t179 t180)) else (trustquorumlaw23_BallotsOrder.j2 kj32 false t176 t177 t179 t180))) else (trustquorumlaw23_BallotsOrder.j2 kj32 false t176 t177 t179 t180))) = some r := by rw [if_neg (show ¬ (false = true) by decide)] at H; exact H
                    clear H
                    have H := H1
                    clear H1
                    replace H := Option.bind_eq_some_iff.mp H
                    obtain ⟨t205, A2030, H⟩ := H
                    replace H : (if t205 = true then ((ballots_Covers.f t179 t180 t182 t183).bind fun t206 => (if t206 = true then ((ballots_Covers.f t176 t177 t182 t183).bind fun t207 => (trustquorumlaw23_BallotsOrder.j2 kj32 (!t207) t176 t177 t179 t180)) else (trustquorumlaw23_BallotsOrder.j2 kj32 false t176 t177 t179 t180))) else (trustquorumlaw23_BallotsOrder.j2 kj32 false t176 t177 t179 t180)) = some r := H
                    have A203 := Aside0.mk A2030
                    clear A2030
                    by_cases c204 : t205 = true
                    · subst c204
                      have H1 : ((ballots_Covers.f t179 t180 t182 t183).bind fun t206 => (if t206 = true then ((ballots_Covers.f t176 t177 t182 t183).bind fun t207 => (trustquorumlaw23_BallotsOrder.j2 kj32 (!t207) t176 t177 t179 t180)) else (trustquorumlaw23_BallotsOrder.j2 kj32 false t176 t177 t179 t180))) = some r := by rw [if_pos rfl] at H; exact H
                      clear H
                      have H := H1
                      clear H1
                      replace H := Option.bind_eq_some_iff.mp H
                      obtain ⟨t206, A2050, H⟩ := H
                      replace H : (if t206 = true then ((ballots_Covers.f t176 t177 t182 t183).bind fun t207 => (trustquorumlaw23_BallotsOrder.j2 kj32 (!t207) t176 t177 t179 t180)) else (trustquorumlaw23_BallotsOrder.j2 kj32 false t176 t177 t179 t180)) = some r := H
                      have A205 := Aside0.mk A2050
                      clear A2050
                      obtain rfl : false = t206 := Option.some.inj (A147.out.symm.trans A205.out)
                      have H1 : (trustquorumlaw23_BallotsOrder.j2 kj32 false t176 t177 t179 t180) = some r := by rw [if_neg (show ¬ (false = true) by decide)] at H; exact H
                      clear H
                      have H := H1
                      clear H1
                      have H' := Aside0.mk H
                      clear H
                      have hnb206 := NB185_186.out
                      have hnc206 := NB186_185.out
                      have hnb207 := NB185_187.out
                      have hnc207 := NB187_185.out
                      have hcz208_0 : wc.cell? ⟨gb185, 0, none⟩ = some (.int .i64 t176) := (blk_cell BK185.out 0).trans rfl
                      have hcz208_1 : wc.cell? ⟨gb185, 1, none⟩ = some (.string t177) := (blk_cell BK185.out 1).trans rfl
                      have hfz208_0 := blk_frozen BK185.out 0
                      have hfz208_1 := blk_frozen BK185.out 1
                      have hnb209 := NB186_187.out
                      have hnc209 := NB187_186.out
                      have hcz210_0 : wc.cell? ⟨gb186, 0, none⟩ = some (.int .i64 t179) := (blk_cell BK186.out 0).trans rfl
                      have hcz210_1 : wc.cell? ⟨gb186, 1, none⟩ = some (.string t180) := (blk_cell BK186.out 1).trans rfl
                      have hfz210_0 := blk_frozen BK186.out 0
                      have hfz210_1 := blk_frozen BK186.out 1
                      go_wp2_with (first | ((with_reducible refine gate_callee (f := 18) rfl ?_); refine goesL_ (some 65) rfl rfl Try.func18 (by kernel_rfl) rfl #[.agg #[.int .i64 t176, .string t177], .agg #[.int .i64 t179, .string t180]] rfl (by (try simp only [List.map_toArray, List.map_cons, List.map_nil]); first | done | rfl | (simp only [List.length_drop, List.length_take]; rfl)) ?_; (with_reducible refine (ballots_Aborts.calls kj32 t176 t177 t179 t180 true _ A145.out).mono ?_); rintro e w211 ⟨rfl, hb⟩; refine ⟨_, rfl, ?_⟩; have n0_ := Aside0.mk (blk_below (g := gb185) (o := .cells #[.int .i64 t176, .string t177] 26 (0, 0)) (by (with_reducible repeat (first | refine blk_drewN ?_ _ | refine blk_drew ?_ | refine blk_alloc ?_ _)); exact BK185.out) hb); have n1_ := Aside0.mk (blk_below (g := gb186) (o := .cells #[.int .i64 t179, .string t180] 26 (0, 0)) (by (with_reducible repeat (first | refine blk_drewN ?_ _ | refine blk_drew ?_ | refine blk_alloc ?_ _)); exact BK186.out) hb); have n2_ := Aside0.mk (blk_below (g := gb187) (o := .cells #[.int .i64 t182, .string t183] 26 (0, 0)) (by (with_reducible repeat (first | refine blk_drewN ?_ _ | refine blk_drew ?_ | refine blk_alloc ?_ _)); exact BK187.out) hb); have n3_ := Aside0.mk (below_step (by repeat (first | (with_reducible first | exact HB.out | apply below_alloc | apply pw_below_drewN | apply below_drew1 | refine below_set ?_ GE185.out | refine below_set ?_ GE186.out | refine below_set ?_ GE187.out) | exact HB.out)) hb); clear BK185; clear BK186; clear BK187; clear HB; have BK185 := n0_; have BK186 := n1_; have BK187 := n2_; have HB := n3_; clear n0_ n1_ n2_ n3_; (try clear hb); (try clear hb2); (try clear hk); (try clear hi); have hcz212_0 : w211.cell? ⟨gb186, 0, none⟩ = some (.int .i64 t179) := (blk_cell BK186.out 0).trans rfl; have hcz212_1 : w211.cell? ⟨gb186, 1, none⟩ = some (.string t180) := (blk_cell BK186.out 1).trans rfl; have hfz212_0 := blk_frozen BK186.out 0; have hfz212_1 := blk_frozen BK186.out 1; have hcz213_0 : w211.cell? ⟨gb187, 0, none⟩ = some (.int .i64 t182) := (blk_cell BK187.out 0).trans rfl; have hcz213_1 : w211.cell? ⟨gb187, 1, none⟩ = some (.string t183) := (blk_cell BK187.out 1).trans rfl; have hfz213_0 := blk_frozen BK187.out 0; have hfz213_1 := blk_frozen BK187.out 1) | (go_at_call 17; (with_reducible refine (ballots_Covers.calls t179 t180 t182 t183 false _ A147.out).mono ?_); rintro e w214 ⟨rfl, hb⟩; have n0_ := Aside0.mk (blk_below (g := gb185) (o := .cells #[.int .i64 t176, .string t177] 26 (0, 0)) (by (with_reducible repeat (first | refine blk_drewN ?_ _ | refine blk_drew ?_ | refine blk_alloc ?_ _)); exact BK185.out) hb); have n1_ := Aside0.mk (blk_below (g := gb186) (o := .cells #[.int .i64 t179, .string t180] 26 (0, 0)) (by (with_reducible repeat (first | refine blk_drewN ?_ _ | refine blk_drew ?_ | refine blk_alloc ?_ _)); exact BK186.out) hb); have n2_ := Aside0.mk (blk_below (g := gb187) (o := .cells #[.int .i64 t182, .string t183] 26 (0, 0)) (by (with_reducible repeat (first | refine blk_drewN ?_ _ | refine blk_drew ?_ | refine blk_alloc ?_ _)); exact BK187.out) hb); have n3_ := Aside0.mk (below_step (by repeat (first | (with_reducible first | exact HB.out | apply below_alloc | apply pw_below_drewN | apply below_drew1 | refine below_set ?_ GE185.out | refine below_set ?_ GE186.out | refine below_set ?_ GE187.out) | exact HB.out)) hb); clear BK185; clear BK186; clear BK187; clear HB; have BK185 := n0_; have BK186 := n1_; have BK187 := n2_; have HB := n3_; clear n0_ n1_ n2_ n3_; (try clear hb); (try clear hb2); (try clear hk); (try clear hi); have hcz215_0 : w214.cell? ⟨gb185, 0, none⟩ = some (.int .i64 t176) := (blk_cell BK185.out 0).trans rfl; have hcz215_1 : w214.cell? ⟨gb185, 1, none⟩ = some (.string t177) := (blk_cell BK185.out 1).trans rfl; have hfz215_0 := blk_frozen BK185.out 0; have hfz215_1 := blk_frozen BK185.out 1; have hcz216_0 : w214.cell? ⟨gb186, 0, none⟩ = some (.int .i64 t179) := (blk_cell BK186.out 0).trans rfl; have hcz216_1 : w214.cell? ⟨gb186, 1, none⟩ = some (.string t180) := (blk_cell BK186.out 1).trans rfl; have hfz216_0 := blk_frozen BK186.out 0; have hfz216_1 := blk_frozen BK186.out 1) | (go_at_call 17; (with_reducible refine (ballots_Covers.calls t176 t177 t179 t180 true _ A203.out).mono ?_); rintro e w217 ⟨rfl, hb⟩; have n0_ := Aside0.mk (blk_below (g := gb185) (o := .cells #[.int .i64 t176, .string t177] 26 (0, 0)) (by (with_reducible repeat (first | refine blk_drewN ?_ _ | refine blk_drew ?_ | refine blk_alloc ?_ _)); exact BK185.out) hb); have n1_ := Aside0.mk (blk_below (g := gb186) (o := .cells #[.int .i64 t179, .string t180] 26 (0, 0)) (by (with_reducible repeat (first | refine blk_drewN ?_ _ | refine blk_drew ?_ | refine blk_alloc ?_ _)); exact BK186.out) hb); have n2_ := Aside0.mk (blk_below (g := gb187) (o := .cells #[.int .i64 t182, .string t183] 26 (0, 0)) (by (with_reducible repeat (first | refine blk_drewN ?_ _ | refine blk_drew ?_ | refine blk_alloc ?_ _)); exact BK187.out) hb); have n3_ := Aside0.mk (below_step (by repeat (first | (with_reducible first | exact HB.out | apply below_alloc | apply pw_below_drewN | apply below_drew1 | refine below_set ?_ GE185.out | refine below_set ?_ GE186.out | refine below_set ?_ GE187.out) | exact HB.out)) hb); clear BK185; clear BK186; clear BK187; clear HB; have BK185 := n0_; have BK186 := n1_; have BK187 := n2_; have HB := n3_; clear n0_ n1_ n2_ n3_; (try clear hb); (try clear hb2); (try clear hk); (try clear hi); have hcz218_0 : w217.cell? ⟨gb186, 0, none⟩ = some (.int .i64 t179) := (blk_cell BK186.out 0).trans rfl; have hcz218_1 : w217.cell? ⟨gb186, 1, none⟩ = some (.string t180) := (blk_cell BK186.out 1).trans rfl; have hfz218_0 := blk_frozen BK186.out 0; have hfz218_1 := blk_frozen BK186.out 1; have hcz219_0 : w217.cell? ⟨gb187, 0, none⟩ = some (.int .i64 t182) := (blk_cell BK187.out 0).trans rfl; have hcz219_1 : w217.cell? ⟨gb187, 1, none⟩ = some (.string t183) := (blk_cell BK187.out 1).trans rfl; have hfz219_0 := blk_frozen BK187.out 0; have hfz219_1 := blk_frozen BK187.out 1) | (go_at_call 17; (with_reducible refine (ballots_Covers.calls t179 t180 t182 t183 false _ A205.out).mono ?_); rintro e w220 ⟨rfl, hb⟩; have n0_ := Aside0.mk (blk_below (g := gb185) (o := .cells #[.int .i64 t176, .string t177] 26 (0, 0)) (by (with_reducible repeat (first | refine blk_drewN ?_ _ | refine blk_drew ?_ | refine blk_alloc ?_ _)); exact BK185.out) hb); have n1_ := Aside0.mk (blk_below (g := gb186) (o := .cells #[.int .i64 t179, .string t180] 26 (0, 0)) (by (with_reducible repeat (first | refine blk_drewN ?_ _ | refine blk_drew ?_ | refine blk_alloc ?_ _)); exact BK186.out) hb); have n2_ := Aside0.mk (blk_below (g := gb187) (o := .cells #[.int .i64 t182, .string t183] 26 (0, 0)) (by (with_reducible repeat (first | refine blk_drewN ?_ _ | refine blk_drew ?_ | refine blk_alloc ?_ _)); exact BK187.out) hb); have n3_ := Aside0.mk (below_step (by repeat (first | (with_reducible first | exact HB.out | apply below_alloc | apply pw_below_drewN | apply below_drew1 | refine below_set ?_ GE185.out | refine below_set ?_ GE186.out | refine below_set ?_ GE187.out) | exact HB.out)) hb); clear BK185; clear BK186; clear BK187; clear HB; have BK185 := n0_; have BK186 := n1_; have BK187 := n2_; have HB := n3_; clear n0_ n1_ n2_ n3_; (try clear hb); (try clear hb2); (try clear hk); (try clear hi)))
                      go_meet
                      case rel => exact ⟨_, (false), (by first | rfl | (simp; done) | (simp [*]; done) | (refine congrArg (Value.int .i64) ?_; unfold wrap64; omega)), H', ⟨by have := HK1.out; have := HJ32.out; first | omega | exact Nat.le_refl _⟩, ⟨by (with_reducible repeat (first | refine blk_drewN ?_ _ | refine blk_drew ?_ | refine blk_alloc ?_ _)); exact BK185.out⟩, ⟨by (with_reducible repeat (first | refine blk_drewN ?_ _ | refine blk_drew ?_ | refine blk_alloc ?_ _)); exact BK186.out⟩, ⟨by (with_reducible repeat (first | refine blk_drewN ?_ _ | refine blk_drew ?_ | refine blk_alloc ?_ _)); exact BK187.out⟩, ⟨by repeat (first | (with_reducible first | exact HB.out | apply below_alloc | apply pw_below_drewN | apply below_drew1 | refine below_set ?_ GE185.out | refine below_set ?_ GE186.out | refine below_set ?_ GE187.out) | exact HB.out)⟩⟩
                    · replace c204 := Bool.eq_false_iff.mpr c204
                      subst c204
                      have H1 : (trustquorumlaw23_BallotsOrder.j2 kj32 false t176 t177 t179 t180) = some r := by rw [if_neg (show ¬ (false = true) by decide)] at H; exact H
                      clear H
                      have H := H1
                      clear H1
                      have H' := Aside0.mk H
                      clear H
                      have hnb221 := NB185_186.out
                      have hnc221 := NB186_185.out
                      have hnb222 := NB185_187.out
                      have hnc222 := NB187_185.out
                      have hcz223_0 : wc.cell? ⟨gb185, 0, none⟩ = some (.int .i64 t176) := (blk_cell BK185.out 0).trans rfl
                      have hcz223_1 : wc.cell? ⟨gb185, 1, none⟩ = some (.string t177) := (blk_cell BK185.out 1).trans rfl
                      have hfz223_0 := blk_frozen BK185.out 0
                      have hfz223_1 := blk_frozen BK185.out 1
                      have hnb224 := NB186_187.out
                      have hnc224 := NB187_186.out
                      have hcz225_0 : wc.cell? ⟨gb186, 0, none⟩ = some (.int .i64 t179) := (blk_cell BK186.out 0).trans rfl
                      have hcz225_1 : wc.cell? ⟨gb186, 1, none⟩ = some (.string t180) := (blk_cell BK186.out 1).trans rfl
                      have hfz225_0 := blk_frozen BK186.out 0
                      have hfz225_1 := blk_frozen BK186.out 1
                      go_wp2_with (first | ((with_reducible refine gate_callee (f := 18) rfl ?_); refine goesL_ (some 65) rfl rfl Try.func18 (by kernel_rfl) rfl #[.agg #[.int .i64 t176, .string t177], .agg #[.int .i64 t179, .string t180]] rfl (by (try simp only [List.map_toArray, List.map_cons, List.map_nil]); first | done | rfl | (simp only [List.length_drop, List.length_take]; rfl)) ?_; (with_reducible refine (ballots_Aborts.calls kj32 t176 t177 t179 t180 true _ A145.out).mono ?_); rintro e w226 ⟨rfl, hb⟩; refine ⟨_, rfl, ?_⟩; have n0_ := Aside0.mk (blk_below (g := gb185) (o := .cells #[.int .i64 t176, .string t177] 26 (0, 0)) (by (with_reducible repeat (first | refine blk_drewN ?_ _ | refine blk_drew ?_ | refine blk_alloc ?_ _)); exact BK185.out) hb); have n1_ := Aside0.mk (blk_below (g := gb186) (o := .cells #[.int .i64 t179, .string t180] 26 (0, 0)) (by (with_reducible repeat (first | refine blk_drewN ?_ _ | refine blk_drew ?_ | refine blk_alloc ?_ _)); exact BK186.out) hb); have n2_ := Aside0.mk (blk_below (g := gb187) (o := .cells #[.int .i64 t182, .string t183] 26 (0, 0)) (by (with_reducible repeat (first | refine blk_drewN ?_ _ | refine blk_drew ?_ | refine blk_alloc ?_ _)); exact BK187.out) hb); have n3_ := Aside0.mk (below_step (by repeat (first | (with_reducible first | exact HB.out | apply below_alloc | apply pw_below_drewN | apply below_drew1 | refine below_set ?_ GE185.out | refine below_set ?_ GE186.out | refine below_set ?_ GE187.out) | exact HB.out)) hb); clear BK185; clear BK186; clear BK187; clear HB; have BK185 := n0_; have BK186 := n1_; have BK187 := n2_; have HB := n3_; clear n0_ n1_ n2_ n3_; (try clear hb); (try clear hb2); (try clear hk); (try clear hi); have hcz227_0 : w226.cell? ⟨gb186, 0, none⟩ = some (.int .i64 t179) := (blk_cell BK186.out 0).trans rfl; have hcz227_1 : w226.cell? ⟨gb186, 1, none⟩ = some (.string t180) := (blk_cell BK186.out 1).trans rfl; have hfz227_0 := blk_frozen BK186.out 0; have hfz227_1 := blk_frozen BK186.out 1; have hcz228_0 : w226.cell? ⟨gb187, 0, none⟩ = some (.int .i64 t182) := (blk_cell BK187.out 0).trans rfl; have hcz228_1 : w226.cell? ⟨gb187, 1, none⟩ = some (.string t183) := (blk_cell BK187.out 1).trans rfl; have hfz228_0 := blk_frozen BK187.out 0; have hfz228_1 := blk_frozen BK187.out 1) | (go_at_call 17; (with_reducible refine (ballots_Covers.calls t179 t180 t182 t183 false _ A147.out).mono ?_); rintro e w229 ⟨rfl, hb⟩; have n0_ := Aside0.mk (blk_below (g := gb185) (o := .cells #[.int .i64 t176, .string t177] 26 (0, 0)) (by (with_reducible repeat (first | refine blk_drewN ?_ _ | refine blk_drew ?_ | refine blk_alloc ?_ _)); exact BK185.out) hb); have n1_ := Aside0.mk (blk_below (g := gb186) (o := .cells #[.int .i64 t179, .string t180] 26 (0, 0)) (by (with_reducible repeat (first | refine blk_drewN ?_ _ | refine blk_drew ?_ | refine blk_alloc ?_ _)); exact BK186.out) hb); have n2_ := Aside0.mk (blk_below (g := gb187) (o := .cells #[.int .i64 t182, .string t183] 26 (0, 0)) (by (with_reducible repeat (first | refine blk_drewN ?_ _ | refine blk_drew ?_ | refine blk_alloc ?_ _)); exact BK187.out) hb); have n3_ := Aside0.mk (below_step (by repeat (first | (with_reducible first | exact HB.out | apply below_alloc | apply pw_below_drewN | apply below_drew1 | refine below_set ?_ GE185.out | refine below_set ?_ GE186.out | refine below_set ?_ GE187.out) | exact HB.out)) hb); clear BK185; clear BK186; clear BK187; clear HB; have BK185 := n0_; have BK186 := n1_; have BK187 := n2_; have HB := n3_; clear n0_ n1_ n2_ n3_; (try clear hb); (try clear hb2); (try clear hk); (try clear hi); have hcz230_0 : w229.cell? ⟨gb185, 0, none⟩ = some (.int .i64 t176) := (blk_cell BK185.out 0).trans rfl; have hcz230_1 : w229.cell? ⟨gb185, 1, none⟩ = some (.string t177) := (blk_cell BK185.out 1).trans rfl; have hfz230_0 := blk_frozen BK185.out 0; have hfz230_1 := blk_frozen BK185.out 1; have hcz231_0 : w229.cell? ⟨gb186, 0, none⟩ = some (.int .i64 t179) := (blk_cell BK186.out 0).trans rfl; have hcz231_1 : w229.cell? ⟨gb186, 1, none⟩ = some (.string t180) := (blk_cell BK186.out 1).trans rfl; have hfz231_0 := blk_frozen BK186.out 0; have hfz231_1 := blk_frozen BK186.out 1) | (go_at_call 17; (with_reducible refine (ballots_Covers.calls t176 t177 t179 t180 false _ A203.out).mono ?_); rintro e w232 ⟨rfl, hb⟩; have n0_ := Aside0.mk (blk_below (g := gb185) (o := .cells #[.int .i64 t176, .string t177] 26 (0, 0)) (by (with_reducible repeat (first | refine blk_drewN ?_ _ | refine blk_drew ?_ | refine blk_alloc ?_ _)); exact BK185.out) hb); have n1_ := Aside0.mk (blk_below (g := gb186) (o := .cells #[.int .i64 t179, .string t180] 26 (0, 0)) (by (with_reducible repeat (first | refine blk_drewN ?_ _ | refine blk_drew ?_ | refine blk_alloc ?_ _)); exact BK186.out) hb); have n2_ := Aside0.mk (blk_below (g := gb187) (o := .cells #[.int .i64 t182, .string t183] 26 (0, 0)) (by (with_reducible repeat (first | refine blk_drewN ?_ _ | refine blk_drew ?_ | refine blk_alloc ?_ _)); exact BK187.out) hb); have n3_ := Aside0.mk (below_step (by repeat (first | (with_reducible first | exact HB.out | apply below_alloc | apply pw_below_drewN | apply below_drew1 | refine below_set ?_ GE185.out | refine below_set ?_ GE186.out | refine below_set ?_ GE187.out) | exact HB.out)) hb); clear BK185; clear BK186; clear BK187; clear HB; have BK185 := n0_; have BK186 := n1_; have BK187 := n2_; have HB := n3_; clear n0_ n1_ n2_ n3_; (try clear hb); (try clear hb2); (try clear hk); (try clear hi)))
                      go_meet
                      case rel => exact ⟨_, (false), (by first | rfl | (simp; done) | (simp [*]; done) | (refine congrArg (Value.int .i64) ?_; unfold wrap64; omega)), H', ⟨by have := HK1.out; have := HJ32.out; first | omega | exact Nat.le_refl _⟩, ⟨by (with_reducible repeat (first | refine blk_drewN ?_ _ | refine blk_drew ?_ | refine blk_alloc ?_ _)); exact BK185.out⟩, ⟨by (with_reducible repeat (first | refine blk_drewN ?_ _ | refine blk_drew ?_ | refine blk_alloc ?_ _)); exact BK186.out⟩, ⟨by (with_reducible repeat (first | refine blk_drewN ?_ _ | refine blk_drew ?_ | refine blk_alloc ?_ _)); exact BK187.out⟩, ⟨by repeat (first | (with_reducible first | exact HB.out | apply below_alloc | apply pw_below_drewN | apply below_drew1 | refine below_set ?_ GE185.out | refine below_set ?_ GE186.out | refine below_set ?_ GE187.out) | exact HB.out)⟩⟩
                · replace c146 := Bool.eq_false_iff.mpr c146
                  subst c146
                  have H1 : ((ballots_Covers.f t176 t177 t179 t180).bind fun t208 => (if t208 = true then ((ballots_Covers.f t179 t180 t182 t183).bind fun t209 => (if t209 = true then ((ballots_Covers.f t176 t177 t182 t183).bind fun t210 => (trustquorumlaw23_BallotsOrder.j2 kj32 (!t210) t176 t177 t179 t180)) else (trustquorumlaw23_BallotsOrder.j2 kj32 false t176 t177 t179 t180))) else (trustquorumlaw23_BallotsOrder.j2 kj32 false t176 t177 t179 t180))) = some r := by rw [if_neg (show ¬ (false = true) by decide)] at H; exact H
                  clear H
                  have H := H1
                  clear H1
                  replace H := Option.bind_eq_some_iff.mp H
                  obtain ⟨t208, A2330, H⟩ := H
                  replace H : (if t208 = true then ((ballots_Covers.f t179 t180 t182 t183).bind fun t209 => (if t209 = true then ((ballots_Covers.f t176 t177 t182 t183).bind fun t210 => (trustquorumlaw23_BallotsOrder.j2 kj32 (!t210) t176 t177 t179 t180)) else (trustquorumlaw23_BallotsOrder.j2 kj32 false t176 t177 t179 t180))) else (trustquorumlaw23_BallotsOrder.j2 kj32 false t176 t177 t179 t180)) = some r := H
                  have A233 := Aside0.mk A2330
                  clear A2330
                  by_cases c234 : t208 = true
                  · subst c234
                    have H1 : ((ballots_Covers.f t179 t180 t182 t183).bind fun t209 => (if t209 = true then ((ballots_Covers.f t176 t177 t182 t183).bind fun t210 => (trustquorumlaw23_BallotsOrder.j2 kj32 (!t210) t176 t177 t179 t180)) else (trustquorumlaw23_BallotsOrder.j2 kj32 false t176 t177 t179 t180))) = some r := by rw [if_pos rfl] at H; exact H
                    clear H
                    have H := H1
                    clear H1
                    replace H := Option.bind_eq_some_iff.mp H
                    obtain ⟨t209, A2350, H⟩ := H
                    replace H : (if t209 = true then ((ballots_Covers.f t176 t177 t182 t183).bind fun t210 => (trustquorumlaw23_BallotsOrder.j2 kj32 (!t210) t176 t177 t179 t180)) else (trustquorumlaw23_BallotsOrder.j2 kj32 false t176 t177 t179 t180)) = some r := H
                    have A235 := Aside0.mk A2350
                    clear A2350
                    by_cases c236 : t209 = true
                    · subst c236
                      have H1 : ((ballots_Covers.f t176 t177 t182 t183).bind fun t210 => (trustquorumlaw23_BallotsOrder.j2 kj32 (!t210) t176 t177 t179 t180)) = some r := by rw [if_pos rfl] at H; exact H
                      clear H
                      have H := H1
                      clear H1
                      replace H := Option.bind_eq_some_iff.mp H
                      obtain ⟨t210, A2370, H⟩ := H
                      replace H : (trustquorumlaw23_BallotsOrder.j2 kj32 (!t210) t176 t177 t179 t180) = some r := H
                      have A237 := Aside0.mk A2370
                      clear A2370
                      have H' := Aside0.mk H
                      clear H
                      have hnb238 := NB185_186.out
                      have hnc238 := NB186_185.out
                      have hnb239 := NB185_187.out
                      have hnc239 := NB187_185.out
                      have hcz240_0 : wc.cell? ⟨gb185, 0, none⟩ = some (.int .i64 t176) := (blk_cell BK185.out 0).trans rfl
                      have hcz240_1 : wc.cell? ⟨gb185, 1, none⟩ = some (.string t177) := (blk_cell BK185.out 1).trans rfl
                      have hfz240_0 := blk_frozen BK185.out 0
                      have hfz240_1 := blk_frozen BK185.out 1
                      have hnb241 := NB186_187.out
                      have hnc241 := NB187_186.out
                      have hcz242_0 : wc.cell? ⟨gb186, 0, none⟩ = some (.int .i64 t179) := (blk_cell BK186.out 0).trans rfl
                      have hcz242_1 : wc.cell? ⟨gb186, 1, none⟩ = some (.string t180) := (blk_cell BK186.out 1).trans rfl
                      have hfz242_0 := blk_frozen BK186.out 0
                      have hfz242_1 := blk_frozen BK186.out 1
                      go_wp2_with (first | ((with_reducible refine gate_callee (f := 18) rfl ?_); refine goesL_ (some 65) rfl rfl Try.func18 (by kernel_rfl) rfl #[.agg #[.int .i64 t176, .string t177], .agg #[.int .i64 t179, .string t180]] rfl (by (try simp only [List.map_toArray, List.map_cons, List.map_nil]); first | done | rfl | (simp only [List.length_drop, List.length_take]; rfl)) ?_; (with_reducible refine (ballots_Aborts.calls kj32 t176 t177 t179 t180 false _ A145.out).mono ?_); rintro e w243 ⟨rfl, hb⟩; refine ⟨_, rfl, ?_⟩; have n0_ := Aside0.mk (blk_below (g := gb185) (o := .cells #[.int .i64 t176, .string t177] 26 (0, 0)) (by (with_reducible repeat (first | refine blk_drewN ?_ _ | refine blk_drew ?_ | refine blk_alloc ?_ _)); exact BK185.out) hb); have n1_ := Aside0.mk (blk_below (g := gb186) (o := .cells #[.int .i64 t179, .string t180] 26 (0, 0)) (by (with_reducible repeat (first | refine blk_drewN ?_ _ | refine blk_drew ?_ | refine blk_alloc ?_ _)); exact BK186.out) hb); have n2_ := Aside0.mk (blk_below (g := gb187) (o := .cells #[.int .i64 t182, .string t183] 26 (0, 0)) (by (with_reducible repeat (first | refine blk_drewN ?_ _ | refine blk_drew ?_ | refine blk_alloc ?_ _)); exact BK187.out) hb); have n3_ := Aside0.mk (below_step (by repeat (first | (with_reducible first | exact HB.out | apply below_alloc | apply pw_below_drewN | apply below_drew1 | refine below_set ?_ GE185.out | refine below_set ?_ GE186.out | refine below_set ?_ GE187.out) | exact HB.out)) hb); clear BK185; clear BK186; clear BK187; clear HB; have BK185 := n0_; have BK186 := n1_; have BK187 := n2_; have HB := n3_; clear n0_ n1_ n2_ n3_; (try clear hb); (try clear hb2); (try clear hk); (try clear hi); have hcz244_0 : w243.cell? ⟨gb185, 0, none⟩ = some (.int .i64 t176) := (blk_cell BK185.out 0).trans rfl; have hcz244_1 : w243.cell? ⟨gb185, 1, none⟩ = some (.string t177) := (blk_cell BK185.out 1).trans rfl; have hfz244_0 := blk_frozen BK185.out 0; have hfz244_1 := blk_frozen BK185.out 1; have hcz245_0 : w243.cell? ⟨gb186, 0, none⟩ = some (.int .i64 t179) := (blk_cell BK186.out 0).trans rfl; have hcz245_1 : w243.cell? ⟨gb186, 1, none⟩ = some (.string t180) := (blk_cell BK186.out 1).trans rfl; have hfz245_0 := blk_frozen BK186.out 0; have hfz245_1 := blk_frozen BK186.out 1) | (go_at_call 17; (with_reducible refine (ballots_Covers.calls t176 t177 t179 t180 true _ A233.out).mono ?_); rintro e w246 ⟨rfl, hb⟩; have n0_ := Aside0.mk (blk_below (g := gb185) (o := .cells #[.int .i64 t176, .string t177] 26 (0, 0)) (by (with_reducible repeat (first | refine blk_drewN ?_ _ | refine blk_drew ?_ | refine blk_alloc ?_ _)); exact BK185.out) hb); have n1_ := Aside0.mk (blk_below (g := gb186) (o := .cells #[.int .i64 t179, .string t180] 26 (0, 0)) (by (with_reducible repeat (first | refine blk_drewN ?_ _ | refine blk_drew ?_ | refine blk_alloc ?_ _)); exact BK186.out) hb); have n2_ := Aside0.mk (blk_below (g := gb187) (o := .cells #[.int .i64 t182, .string t183] 26 (0, 0)) (by (with_reducible repeat (first | refine blk_drewN ?_ _ | refine blk_drew ?_ | refine blk_alloc ?_ _)); exact BK187.out) hb); have n3_ := Aside0.mk (below_step (by repeat (first | (with_reducible first | exact HB.out | apply below_alloc | apply pw_below_drewN | apply below_drew1 | refine below_set ?_ GE185.out | refine below_set ?_ GE186.out | refine below_set ?_ GE187.out) | exact HB.out)) hb); clear BK185; clear BK186; clear BK187; clear HB; have BK185 := n0_; have BK186 := n1_; have BK187 := n2_; have HB := n3_; clear n0_ n1_ n2_ n3_; (try clear hb); (try clear hb2); (try clear hk); (try clear hi); have hcz247_0 : w246.cell? ⟨gb186, 0, none⟩ = some (.int .i64 t179) := (blk_cell BK186.out 0).trans rfl; have hcz247_1 : w246.cell? ⟨gb186, 1, none⟩ = some (.string t180) := (blk_cell BK186.out 1).trans rfl; have hfz247_0 := blk_frozen BK186.out 0; have hfz247_1 := blk_frozen BK186.out 1; have hcz248_0 : w246.cell? ⟨gb187, 0, none⟩ = some (.int .i64 t182) := (blk_cell BK187.out 0).trans rfl; have hcz248_1 : w246.cell? ⟨gb187, 1, none⟩ = some (.string t183) := (blk_cell BK187.out 1).trans rfl; have hfz248_0 := blk_frozen BK187.out 0; have hfz248_1 := blk_frozen BK187.out 1) | (go_at_call 17; (with_reducible refine (ballots_Covers.calls t179 t180 t182 t183 true _ A235.out).mono ?_); rintro e w249 ⟨rfl, hb⟩; have n0_ := Aside0.mk (blk_below (g := gb185) (o := .cells #[.int .i64 t176, .string t177] 26 (0, 0)) (by (with_reducible repeat (first | refine blk_drewN ?_ _ | refine blk_drew ?_ | refine blk_alloc ?_ _)); exact BK185.out) hb); have n1_ := Aside0.mk (blk_below (g := gb186) (o := .cells #[.int .i64 t179, .string t180] 26 (0, 0)) (by (with_reducible repeat (first | refine blk_drewN ?_ _ | refine blk_drew ?_ | refine blk_alloc ?_ _)); exact BK186.out) hb); have n2_ := Aside0.mk (blk_below (g := gb187) (o := .cells #[.int .i64 t182, .string t183] 26 (0, 0)) (by (with_reducible repeat (first | refine blk_drewN ?_ _ | refine blk_drew ?_ | refine blk_alloc ?_ _)); exact BK187.out) hb); have n3_ := Aside0.mk (below_step (by repeat (first | (with_reducible first | exact HB.out | apply below_alloc | apply pw_below_drewN | apply below_drew1 | refine below_set ?_ GE185.out | refine below_set ?_ GE186.out | refine below_set ?_ GE187.out) | exact HB.out)) hb); clear BK185; clear BK186; clear BK187; clear HB; have BK185 := n0_; have BK186 := n1_; have BK187 := n2_; have HB := n3_; clear n0_ n1_ n2_ n3_; (try clear hb); (try clear hb2); (try clear hk); (try clear hi); have hcz250_0 : w249.cell? ⟨gb185, 0, none⟩ = some (.int .i64 t176) := (blk_cell BK185.out 0).trans rfl; have hcz250_1 : w249.cell? ⟨gb185, 1, none⟩ = some (.string t177) := (blk_cell BK185.out 1).trans rfl; have hfz250_0 := blk_frozen BK185.out 0; have hfz250_1 := blk_frozen BK185.out 1; have hcz251_0 : w249.cell? ⟨gb187, 0, none⟩ = some (.int .i64 t182) := (blk_cell BK187.out 0).trans rfl; have hcz251_1 : w249.cell? ⟨gb187, 1, none⟩ = some (.string t183) := (blk_cell BK187.out 1).trans rfl; have hfz251_0 := blk_frozen BK187.out 0; have hfz251_1 := blk_frozen BK187.out 1) | (go_at_call 17; (with_reducible refine (ballots_Covers.calls t176 t177 t182 t183 t210 _ A237.out).mono ?_); rintro e w252 ⟨rfl, hb⟩; have n0_ := Aside0.mk (blk_below (g := gb185) (o := .cells #[.int .i64 t176, .string t177] 26 (0, 0)) (by (with_reducible repeat (first | refine blk_drewN ?_ _ | refine blk_drew ?_ | refine blk_alloc ?_ _)); exact BK185.out) hb); have n1_ := Aside0.mk (blk_below (g := gb186) (o := .cells #[.int .i64 t179, .string t180] 26 (0, 0)) (by (with_reducible repeat (first | refine blk_drewN ?_ _ | refine blk_drew ?_ | refine blk_alloc ?_ _)); exact BK186.out) hb); have n2_ := Aside0.mk (blk_below (g := gb187) (o := .cells #[.int .i64 t182, .string t183] 26 (0, 0)) (by (with_reducible repeat (first | refine blk_drewN ?_ _ | refine blk_drew ?_ | refine blk_alloc ?_ _)); exact BK187.out) hb); have n3_ := Aside0.mk (below_step (by repeat (first | (with_reducible first | exact HB.out | apply below_alloc | apply pw_below_drewN | apply below_drew1 | refine below_set ?_ GE185.out | refine below_set ?_ GE186.out | refine below_set ?_ GE187.out) | exact HB.out)) hb); clear BK185; clear BK186; clear BK187; clear HB; have BK185 := n0_; have BK186 := n1_; have BK187 := n2_; have HB := n3_; clear n0_ n1_ n2_ n3_; (try clear hb); (try clear hb2); (try clear hk); (try clear hi)))
                      go_meet
                      case rel => exact ⟨_, (!t210), (by first | rfl | (simp; done) | (simp [*]; done) | (refine congrArg (Value.int .i64) ?_; unfold wrap64; omega)), H', ⟨by have := HK1.out; have := HJ32.out; first | omega | exact Nat.le_refl _⟩, ⟨by (with_reducible repeat (first | refine blk_drewN ?_ _ | refine blk_drew ?_ | refine blk_alloc ?_ _)); exact BK185.out⟩, ⟨by (with_reducible repeat (first | refine blk_drewN ?_ _ | refine blk_drew ?_ | refine blk_alloc ?_ _)); exact BK186.out⟩, ⟨by (with_reducible repeat (first | refine blk_drewN ?_ _ | refine blk_drew ?_ | refine blk_alloc ?_ _)); exact BK187.out⟩, ⟨by repeat (first | (with_reducible first | exact HB.out | apply below_alloc | apply pw_below_drewN | apply below_drew1 | refine below_set ?_ GE185.out | refine below_set ?_ GE186.out | refine below_set ?_ GE187.out) | exact HB.out)⟩⟩
                    · replace c236 := Bool.eq_false_iff.mpr c236
                      subst c236
                      have H1 : (trustquorumlaw23_BallotsOrder.j2 kj32 false t176 t177 t179 t180) = some r := by rw [if_neg (show ¬ (false = true) by decide)] at H; exact H
                      clear H
                      have H := H1
                      clear H1
                      have H' := Aside0.mk H
                      clear H
                      have hnb253 := NB185_186.out
                      have hnc253 := NB186_185.out
                      have hnb254 := NB185_187.out
                      have hnc254 := NB187_185.out
                      have hcz255_0 : wc.cell? ⟨gb185, 0, none⟩ = some (.int .i64 t176) := (blk_cell BK185.out 0).trans rfl
                      have hcz255_1 : wc.cell? ⟨gb185, 1, none⟩ = some (.string t177) := (blk_cell BK185.out 1).trans rfl
                      have hfz255_0 := blk_frozen BK185.out 0
                      have hfz255_1 := blk_frozen BK185.out 1
                      have hnb256 := NB186_187.out
                      have hnc256 := NB187_186.out
                      have hcz257_0 : wc.cell? ⟨gb186, 0, none⟩ = some (.int .i64 t179) := (blk_cell BK186.out 0).trans rfl
                      have hcz257_1 : wc.cell? ⟨gb186, 1, none⟩ = some (.string t180) := (blk_cell BK186.out 1).trans rfl
                      have hfz257_0 := blk_frozen BK186.out 0
                      have hfz257_1 := blk_frozen BK186.out 1
                      go_wp2_with (first | ((with_reducible refine gate_callee (f := 18) rfl ?_); refine goesL_ (some 65) rfl rfl Try.func18 (by kernel_rfl) rfl #[.agg #[.int .i64 t176, .string t177], .agg #[.int .i64 t179, .string t180]] rfl (by (try simp only [List.map_toArray, List.map_cons, List.map_nil]); first | done | rfl | (simp only [List.length_drop, List.length_take]; rfl)) ?_; (with_reducible refine (ballots_Aborts.calls kj32 t176 t177 t179 t180 false _ A145.out).mono ?_); rintro e w258 ⟨rfl, hb⟩; refine ⟨_, rfl, ?_⟩; have n0_ := Aside0.mk (blk_below (g := gb185) (o := .cells #[.int .i64 t176, .string t177] 26 (0, 0)) (by (with_reducible repeat (first | refine blk_drewN ?_ _ | refine blk_drew ?_ | refine blk_alloc ?_ _)); exact BK185.out) hb); have n1_ := Aside0.mk (blk_below (g := gb186) (o := .cells #[.int .i64 t179, .string t180] 26 (0, 0)) (by (with_reducible repeat (first | refine blk_drewN ?_ _ | refine blk_drew ?_ | refine blk_alloc ?_ _)); exact BK186.out) hb); have n2_ := Aside0.mk (blk_below (g := gb187) (o := .cells #[.int .i64 t182, .string t183] 26 (0, 0)) (by (with_reducible repeat (first | refine blk_drewN ?_ _ | refine blk_drew ?_ | refine blk_alloc ?_ _)); exact BK187.out) hb); have n3_ := Aside0.mk (below_step (by repeat (first | (with_reducible first | exact HB.out | apply below_alloc | apply pw_below_drewN | apply below_drew1 | refine below_set ?_ GE185.out | refine below_set ?_ GE186.out | refine below_set ?_ GE187.out) | exact HB.out)) hb); clear BK185; clear BK186; clear BK187; clear HB; have BK185 := n0_; have BK186 := n1_; have BK187 := n2_; have HB := n3_; clear n0_ n1_ n2_ n3_; (try clear hb); (try clear hb2); (try clear hk); (try clear hi); have hcz259_0 : w258.cell? ⟨gb185, 0, none⟩ = some (.int .i64 t176) := (blk_cell BK185.out 0).trans rfl; have hcz259_1 : w258.cell? ⟨gb185, 1, none⟩ = some (.string t177) := (blk_cell BK185.out 1).trans rfl; have hfz259_0 := blk_frozen BK185.out 0; have hfz259_1 := blk_frozen BK185.out 1; have hcz260_0 : w258.cell? ⟨gb186, 0, none⟩ = some (.int .i64 t179) := (blk_cell BK186.out 0).trans rfl; have hcz260_1 : w258.cell? ⟨gb186, 1, none⟩ = some (.string t180) := (blk_cell BK186.out 1).trans rfl; have hfz260_0 := blk_frozen BK186.out 0; have hfz260_1 := blk_frozen BK186.out 1) | (go_at_call 17; (with_reducible refine (ballots_Covers.calls t176 t177 t179 t180 true _ A233.out).mono ?_); rintro e w261 ⟨rfl, hb⟩; have n0_ := Aside0.mk (blk_below (g := gb185) (o := .cells #[.int .i64 t176, .string t177] 26 (0, 0)) (by (with_reducible repeat (first | refine blk_drewN ?_ _ | refine blk_drew ?_ | refine blk_alloc ?_ _)); exact BK185.out) hb); have n1_ := Aside0.mk (blk_below (g := gb186) (o := .cells #[.int .i64 t179, .string t180] 26 (0, 0)) (by (with_reducible repeat (first | refine blk_drewN ?_ _ | refine blk_drew ?_ | refine blk_alloc ?_ _)); exact BK186.out) hb); have n2_ := Aside0.mk (blk_below (g := gb187) (o := .cells #[.int .i64 t182, .string t183] 26 (0, 0)) (by (with_reducible repeat (first | refine blk_drewN ?_ _ | refine blk_drew ?_ | refine blk_alloc ?_ _)); exact BK187.out) hb); have n3_ := Aside0.mk (below_step (by repeat (first | (with_reducible first | exact HB.out | apply below_alloc | apply pw_below_drewN | apply below_drew1 | refine below_set ?_ GE185.out | refine below_set ?_ GE186.out | refine below_set ?_ GE187.out) | exact HB.out)) hb); clear BK185; clear BK186; clear BK187; clear HB; have BK185 := n0_; have BK186 := n1_; have BK187 := n2_; have HB := n3_; clear n0_ n1_ n2_ n3_; (try clear hb); (try clear hb2); (try clear hk); (try clear hi); have hcz262_0 : w261.cell? ⟨gb186, 0, none⟩ = some (.int .i64 t179) := (blk_cell BK186.out 0).trans rfl; have hcz262_1 : w261.cell? ⟨gb186, 1, none⟩ = some (.string t180) := (blk_cell BK186.out 1).trans rfl; have hfz262_0 := blk_frozen BK186.out 0; have hfz262_1 := blk_frozen BK186.out 1; have hcz263_0 : w261.cell? ⟨gb187, 0, none⟩ = some (.int .i64 t182) := (blk_cell BK187.out 0).trans rfl; have hcz263_1 : w261.cell? ⟨gb187, 1, none⟩ = some (.string t183) := (blk_cell BK187.out 1).trans rfl; have hfz263_0 := blk_frozen BK187.out 0; have hfz263_1 := blk_frozen BK187.out 1) | (go_at_call 17; (with_reducible refine (ballots_Covers.calls t179 t180 t182 t183 false _ A235.out).mono ?_); rintro e w264 ⟨rfl, hb⟩; have n0_ := Aside0.mk (blk_below (g := gb185) (o := .cells #[.int .i64 t176, .string t177] 26 (0, 0)) (by (with_reducible repeat (first | refine blk_drewN ?_ _ | refine blk_drew ?_ | refine blk_alloc ?_ _)); exact BK185.out) hb); have n1_ := Aside0.mk (blk_below (g := gb186) (o := .cells #[.int .i64 t179, .string t180] 26 (0, 0)) (by (with_reducible repeat (first | refine blk_drewN ?_ _ | refine blk_drew ?_ | refine blk_alloc ?_ _)); exact BK186.out) hb); have n2_ := Aside0.mk (blk_below (g := gb187) (o := .cells #[.int .i64 t182, .string t183] 26 (0, 0)) (by (with_reducible repeat (first | refine blk_drewN ?_ _ | refine blk_drew ?_ | refine blk_alloc ?_ _)); exact BK187.out) hb); have n3_ := Aside0.mk (below_step (by repeat (first | (with_reducible first | exact HB.out | apply below_alloc | apply pw_below_drewN | apply below_drew1 | refine below_set ?_ GE185.out | refine below_set ?_ GE186.out | refine below_set ?_ GE187.out) | exact HB.out)) hb); clear BK185; clear BK186; clear BK187; clear HB; have BK185 := n0_; have BK186 := n1_; have BK187 := n2_; have HB := n3_; clear n0_ n1_ n2_ n3_; (try clear hb); (try clear hb2); (try clear hk); (try clear hi)))
                      go_meet
                      case rel => exact ⟨_, (false), (by first | rfl | (simp; done) | (simp [*]; done) | (refine congrArg (Value.int .i64) ?_; unfold wrap64; omega)), H', ⟨by have := HK1.out; have := HJ32.out; first | omega | exact Nat.le_refl _⟩, ⟨by (with_reducible repeat (first | refine blk_drewN ?_ _ | refine blk_drew ?_ | refine blk_alloc ?_ _)); exact BK185.out⟩, ⟨by (with_reducible repeat (first | refine blk_drewN ?_ _ | refine blk_drew ?_ | refine blk_alloc ?_ _)); exact BK186.out⟩, ⟨by (with_reducible repeat (first | refine blk_drewN ?_ _ | refine blk_drew ?_ | refine blk_alloc ?_ _)); exact BK187.out⟩, ⟨by repeat (first | (with_reducible first | exact HB.out | apply below_alloc | apply pw_below_drewN | apply below_drew1 | refine below_set ?_ GE185.out | refine below_set ?_ GE186.out | refine below_set ?_ GE187.out) | exact HB.out)⟩⟩
                  · replace c234 := Bool.eq_false_iff.mpr c234
                    subst c234
                    have H1 : (trustquorumlaw23_BallotsOrder.j2 kj32 false t176 t177 t179 t180) = some r := by rw [if_neg (show ¬ (false = true) by decide)] at H; exact H
                    clear H
                    have H := H1
                    clear H1
                    have H' := Aside0.mk H
                    clear H
                    have hnb265 := NB185_186.out
                    have hnc265 := NB186_185.out
                    have hnb266 := NB185_187.out
                    have hnc266 := NB187_185.out
                    have hcz267_0 : wc.cell? ⟨gb185, 0, none⟩ = some (.int .i64 t176) := (blk_cell BK185.out 0).trans rfl
                    have hcz267_1 : wc.cell? ⟨gb185, 1, none⟩ = some (.string t177) := (blk_cell BK185.out 1).trans rfl
                    have hfz267_0 := blk_frozen BK185.out 0
                    have hfz267_1 := blk_frozen BK185.out 1
                    have hnb268 := NB186_187.out
                    have hnc268 := NB187_186.out
                    have hcz269_0 : wc.cell? ⟨gb186, 0, none⟩ = some (.int .i64 t179) := (blk_cell BK186.out 0).trans rfl
                    have hcz269_1 : wc.cell? ⟨gb186, 1, none⟩ = some (.string t180) := (blk_cell BK186.out 1).trans rfl
                    have hfz269_0 := blk_frozen BK186.out 0
                    have hfz269_1 := blk_frozen BK186.out 1
                    go_wp2_with (first | ((with_reducible refine gate_callee (f := 18) rfl ?_); refine goesL_ (some 65) rfl rfl Try.func18 (by kernel_rfl) rfl #[.agg #[.int .i64 t176, .string t177], .agg #[.int .i64 t179, .string t180]] rfl (by (try simp only [List.map_toArray, List.map_cons, List.map_nil]); first | done | rfl | (simp only [List.length_drop, List.length_take]; rfl)) ?_; (with_reducible refine (ballots_Aborts.calls kj32 t176 t177 t179 t180 false _ A145.out).mono ?_); rintro e w270 ⟨rfl, hb⟩; refine ⟨_, rfl, ?_⟩; have n0_ := Aside0.mk (blk_below (g := gb185) (o := .cells #[.int .i64 t176, .string t177] 26 (0, 0)) (by (with_reducible repeat (first | refine blk_drewN ?_ _ | refine blk_drew ?_ | refine blk_alloc ?_ _)); exact BK185.out) hb); have n1_ := Aside0.mk (blk_below (g := gb186) (o := .cells #[.int .i64 t179, .string t180] 26 (0, 0)) (by (with_reducible repeat (first | refine blk_drewN ?_ _ | refine blk_drew ?_ | refine blk_alloc ?_ _)); exact BK186.out) hb); have n2_ := Aside0.mk (blk_below (g := gb187) (o := .cells #[.int .i64 t182, .string t183] 26 (0, 0)) (by (with_reducible repeat (first | refine blk_drewN ?_ _ | refine blk_drew ?_ | refine blk_alloc ?_ _)); exact BK187.out) hb); have n3_ := Aside0.mk (below_step (by repeat (first | (with_reducible first | exact HB.out | apply below_alloc | apply pw_below_drewN | apply below_drew1 | refine below_set ?_ GE185.out | refine below_set ?_ GE186.out | refine below_set ?_ GE187.out) | exact HB.out)) hb); clear BK185; clear BK186; clear BK187; clear HB; have BK185 := n0_; have BK186 := n1_; have BK187 := n2_; have HB := n3_; clear n0_ n1_ n2_ n3_; (try clear hb); (try clear hb2); (try clear hk); (try clear hi); have hcz271_0 : w270.cell? ⟨gb185, 0, none⟩ = some (.int .i64 t176) := (blk_cell BK185.out 0).trans rfl; have hcz271_1 : w270.cell? ⟨gb185, 1, none⟩ = some (.string t177) := (blk_cell BK185.out 1).trans rfl; have hfz271_0 := blk_frozen BK185.out 0; have hfz271_1 := blk_frozen BK185.out 1; have hcz272_0 : w270.cell? ⟨gb186, 0, none⟩ = some (.int .i64 t179) := (blk_cell BK186.out 0).trans rfl; have hcz272_1 : w270.cell? ⟨gb186, 1, none⟩ = some (.string t180) := (blk_cell BK186.out 1).trans rfl; have hfz272_0 := blk_frozen BK186.out 0; have hfz272_1 := blk_frozen BK186.out 1) | (go_at_call 17; (with_reducible refine (ballots_Covers.calls t176 t177 t179 t180 false _ A233.out).mono ?_); rintro e w273 ⟨rfl, hb⟩; have n0_ := Aside0.mk (blk_below (g := gb185) (o := .cells #[.int .i64 t176, .string t177] 26 (0, 0)) (by (with_reducible repeat (first | refine blk_drewN ?_ _ | refine blk_drew ?_ | refine blk_alloc ?_ _)); exact BK185.out) hb); have n1_ := Aside0.mk (blk_below (g := gb186) (o := .cells #[.int .i64 t179, .string t180] 26 (0, 0)) (by (with_reducible repeat (first | refine blk_drewN ?_ _ | refine blk_drew ?_ | refine blk_alloc ?_ _)); exact BK186.out) hb); have n2_ := Aside0.mk (blk_below (g := gb187) (o := .cells #[.int .i64 t182, .string t183] 26 (0, 0)) (by (with_reducible repeat (first | refine blk_drewN ?_ _ | refine blk_drew ?_ | refine blk_alloc ?_ _)); exact BK187.out) hb); have n3_ := Aside0.mk (below_step (by repeat (first | (with_reducible first | exact HB.out | apply below_alloc | apply pw_below_drewN | apply below_drew1 | refine below_set ?_ GE185.out | refine below_set ?_ GE186.out | refine below_set ?_ GE187.out) | exact HB.out)) hb); clear BK185; clear BK186; clear BK187; clear HB; have BK185 := n0_; have BK186 := n1_; have BK187 := n2_; have HB := n3_; clear n0_ n1_ n2_ n3_; (try clear hb); (try clear hb2); (try clear hk); (try clear hi)))
                    go_meet
                    case rel => exact ⟨_, (false), (by first | rfl | (simp; done) | (simp [*]; done) | (refine congrArg (Value.int .i64) ?_; unfold wrap64; omega)), H', ⟨by have := HK1.out; have := HJ32.out; first | omega | exact Nat.le_refl _⟩, ⟨by (with_reducible repeat (first | refine blk_drewN ?_ _ | refine blk_drew ?_ | refine blk_alloc ?_ _)); exact BK185.out⟩, ⟨by (with_reducible repeat (first | refine blk_drewN ?_ _ | refine blk_drew ?_ | refine blk_alloc ?_ _)); exact BK186.out⟩, ⟨by (with_reducible repeat (first | refine blk_drewN ?_ _ | refine blk_drew ?_ | refine blk_alloc ?_ _)); exact BK187.out⟩, ⟨by repeat (first | (with_reducible first | exact HB.out | apply below_alloc | apply pw_below_drewN | apply below_drew1 | refine below_set ?_ GE185.out | refine below_set ?_ GE186.out | refine below_set ?_ GE187.out) | exact HB.out)⟩⟩
              case rest =>
                clear HC144
                try clear c1
                try clear c2
                try clear p2
                try clear c3
                try clear p3
                try clear q3
                try clear hx3
                try clear c4
                try clear c6
                try clear p6
                try clear c7
                try clear c8
                try clear c9
                try clear c10
                try clear c11
                try clear c12
                try clear c13
                try clear c14
                try clear c15
                try clear c16
                try clear c17
                try clear c18
                try clear c19
                try clear c20
                try clear c22
                try clear c23
                try clear c24
                try clear c25
                try clear c26
                try clear c28
                try clear c28b0
                try clear c29
                try clear c29b0
                try clear p30
                try clear q30
                try clear hx30
                try clear q31
                try clear c32
                try clear c32b0
                try clear c34
                try clear c34b0
                try clear c34b1
                try clear c36
                try clear c38
                try clear c40
                try clear c42
                try clear c44
                try clear c45
                try clear c47
                try clear c62
                try clear c63
                try clear p64
                try clear c65
                try clear c77
                try clear c78
                try clear c80
                try clear c90
                try clear c92
                try clear c93
                try clear c95
                try clear c107
                try clear c108
                try clear c110
                try clear c120
                try clear c122
                try clear c123
                try clear c125
                try clear c134
                try clear c135
                try clear c137
                try clear c143
                try clear c146
                try clear c148
                try clear c150
                try clear c152
                try clear c155
                try clear c156
                try clear c158
                try clear c176
                try clear c177
                try clear c179
                try clear c191
                try clear c192
                try clear c194
                try clear c204
                try clear c206
                try clear c207
                try clear c209
                try clear c221
                try clear c222
                try clear c224
                try clear c234
                try clear c236
                try clear c238
                try clear c239
                try clear c241
                try clear c253
                try clear c254
                try clear c256
                try clear c265
                try clear c266
                try clear c268
                try clear hcz101_0
                try clear hcz101_1
                try clear hcz102_0
                try clear hcz102_1
                try clear hcz104_0
                try clear hcz104_1
                try clear hcz105_0
                try clear hcz105_1
                try clear hcz109_0
                try clear hcz109_1
                try clear hcz111_0
                try clear hcz111_1
                try clear hcz113_0
                try clear hcz113_1
                try clear hcz114_0
                try clear hcz114_1
                try clear hcz116_0
                try clear hcz116_1
                try clear hcz117_0
                try clear hcz117_1
                try clear hcz124_0
                try clear hcz124_1
                try clear hcz126_0
                try clear hcz126_1
                try clear hcz128_0
                try clear hcz128_1
                try clear hcz129_0
                try clear hcz129_1
                try clear hcz131_0
                try clear hcz131_1
                try clear hcz132_0
                try clear hcz132_1
                try clear hcz136_0
                try clear hcz136_1
                try clear hcz138_0
                try clear hcz138_1
                try clear hcz140_0
                try clear hcz140_1
                try clear hcz141_0
                try clear hcz141_1
                try clear hcz157_0
                try clear hcz157_1
                try clear hcz159_0
                try clear hcz159_1
                try clear hcz161_0
                try clear hcz161_1
                try clear hcz162_0
                try clear hcz162_1
                try clear hcz164_0
                try clear hcz164_1
                try clear hcz165_0
                try clear hcz165_1
                try clear hcz167_0
                try clear hcz167_1
                try clear hcz168_0
                try clear hcz168_1
                try clear hcz170_0
                try clear hcz170_1
                try clear hcz171_0
                try clear hcz171_1
                try clear hcz173_0
                try clear hcz173_1
                try clear hcz174_0
                try clear hcz174_1
                try clear hcz178_0
                try clear hcz178_1
                try clear hcz180_0
                try clear hcz180_1
                try clear hcz182_0
                try clear hcz182_1
                try clear hcz183_0
                try clear hcz183_1
                try clear hcz185_0
                try clear hcz185_1
                try clear hcz186_0
                try clear hcz186_1
                try clear hcz188_0
                try clear hcz188_1
                try clear hcz189_0
                try clear hcz189_1
                try clear hcz18_0
                try clear hcz18_1
                try clear hcz193_0
                try clear hcz193_1
                try clear hcz195_0
                try clear hcz195_1
                try clear hcz197_0
                try clear hcz197_1
                try clear hcz198_0
                try clear hcz198_1
                try clear hcz200_0
                try clear hcz200_1
                try clear hcz201_0
                try clear hcz201_1
                try clear hcz208_0
                try clear hcz208_1
                try clear hcz210_0
                try clear hcz210_1
                try clear hcz212_0
                try clear hcz212_1
                try clear hcz213_0
                try clear hcz213_1
                try clear hcz215_0
                try clear hcz215_1
                try clear hcz216_0
                try clear hcz216_1
                try clear hcz218_0
                try clear hcz218_1
                try clear hcz219_0
                try clear hcz219_1
                try clear hcz21_0
                try clear hcz21_1
                try clear hcz223_0
                try clear hcz223_1
                try clear hcz225_0
                try clear hcz225_1
                try clear hcz227_0
                try clear hcz227_1
                try clear hcz228_0
                try clear hcz228_1
                try clear hcz230_0
                try clear hcz230_1
                try clear hcz231_0
                try clear hcz231_1
                try clear hcz23_0
                try clear hcz23_1
                try clear hcz240_0
                try clear hcz240_1
                try clear hcz242_0
                try clear hcz242_1
                try clear hcz244_0
                try clear hcz244_1
                try clear hcz245_0
                try clear hcz245_1
                try clear hcz247_0
                try clear hcz247_1
                try clear hcz248_0
                try clear hcz248_1
                try clear hcz250_0
                try clear hcz250_1
                try clear hcz251_0
                try clear hcz251_1
                try clear hcz255_0
                try clear hcz255_1
                try clear hcz257_0
                try clear hcz257_1
                try clear hcz259_0
                try clear hcz259_1
                try clear hcz260_0
                try clear hcz260_1
                try clear hcz262_0
                try clear hcz262_1
                try clear hcz263_0
                try clear hcz263_1
                try clear hcz267_0
                try clear hcz267_1
                try clear hcz269_0
                try clear hcz269_1
                try clear hcz271_0
                try clear hcz271_1
                try clear hcz272_0
                try clear hcz272_1
                try clear hcz46_0
                try clear hcz46_1
                try clear hcz48_0
                try clear hcz48_1
                try clear hcz50_0
                try clear hcz50_1
                try clear hcz51_0
                try clear hcz51_1
                try clear hcz53_0
                try clear hcz53_1
                try clear hcz54_0
                try clear hcz54_1
                try clear hcz56_0
                try clear hcz56_1
                try clear hcz57_0
                try clear hcz57_1
                try clear hcz59_0
                try clear hcz59_1
                try clear hcz60_0
                try clear hcz60_1
                try clear hcz64_0
                try clear hcz64_1
                try clear hcz66_0
                try clear hcz66_1
                try clear hcz68_0
                try clear hcz68_1
                try clear hcz69_0
                try clear hcz69_1
                try clear hcz71_0
                try clear hcz71_1
                try clear hcz72_0
                try clear hcz72_1
                try clear hcz74_0
                try clear hcz74_1
                try clear hcz75_0
                try clear hcz75_1
                try clear hcz79_0
                try clear hcz79_1
                try clear hcz81_0
                try clear hcz81_1
                try clear hcz83_0
                try clear hcz83_1
                try clear hcz84_0
                try clear hcz84_1
                try clear hcz86_0
                try clear hcz86_1
                try clear hcz87_0
                try clear hcz87_1
                try clear hcz94_0
                try clear hcz94_1
                try clear hcz96_0
                try clear hcz96_1
                try clear hcz98_0
                try clear hcz98_1
                try clear hcz99_0
                try clear hcz99_1
                try clear hfz101_0
                try clear hfz101_1
                try clear hfz102_0
                try clear hfz102_1
                try clear hfz104_0
                try clear hfz104_1
                try clear hfz105_0
                try clear hfz105_1
                try clear hfz109_0
                try clear hfz109_1
                try clear hfz111_0
                try clear hfz111_1
                try clear hfz113_0
                try clear hfz113_1
                try clear hfz114_0
                try clear hfz114_1
                try clear hfz116_0
                try clear hfz116_1
                try clear hfz117_0
                try clear hfz117_1
                try clear hfz124_0
                try clear hfz124_1
                try clear hfz126_0
                try clear hfz126_1
                try clear hfz128_0
                try clear hfz128_1
                try clear hfz129_0
                try clear hfz129_1
                try clear hfz131_0
                try clear hfz131_1
                try clear hfz132_0
                try clear hfz132_1
                try clear hfz136_0
                try clear hfz136_1
                try clear hfz138_0
                try clear hfz138_1
                try clear hfz140_0
                try clear hfz140_1
                try clear hfz141_0
                try clear hfz141_1
                try clear hfz157_0
                try clear hfz157_1
                try clear hfz159_0
                try clear hfz159_1
                try clear hfz161_0
                try clear hfz161_1
                try clear hfz162_0
                try clear hfz162_1
                try clear hfz164_0
                try clear hfz164_1
                try clear hfz165_0
                try clear hfz165_1
                try clear hfz167_0
                try clear hfz167_1
                try clear hfz168_0
                try clear hfz168_1
                try clear hfz170_0
                try clear hfz170_1
                try clear hfz171_0
                try clear hfz171_1
                try clear hfz173_0
                try clear hfz173_1
                try clear hfz174_0
                try clear hfz174_1
                try clear hfz178_0
                try clear hfz178_1
                try clear hfz180_0
                try clear hfz180_1
                try clear hfz182_0
                try clear hfz182_1
                try clear hfz183_0
                try clear hfz183_1
                try clear hfz185_0
                try clear hfz185_1
                try clear hfz186_0
                try clear hfz186_1
                try clear hfz188_0
                try clear hfz188_1
                try clear hfz189_0
                try clear hfz189_1
                try clear hfz18_0
                try clear hfz18_1
                try clear hfz193_0
                try clear hfz193_1
                try clear hfz195_0
                try clear hfz195_1
                try clear hfz197_0
                try clear hfz197_1
                try clear hfz198_0
                try clear hfz198_1
                try clear hfz200_0
                try clear hfz200_1
                try clear hfz201_0
                try clear hfz201_1
                try clear hfz208_0
                try clear hfz208_1
                try clear hfz210_0
                try clear hfz210_1
                try clear hfz212_0
                try clear hfz212_1
                try clear hfz213_0
                try clear hfz213_1
                try clear hfz215_0
                try clear hfz215_1
                try clear hfz216_0
                try clear hfz216_1
                try clear hfz218_0
                try clear hfz218_1
                try clear hfz219_0
                try clear hfz219_1
                try clear hfz21_0
                try clear hfz21_1
                try clear hfz223_0
                try clear hfz223_1
                try clear hfz225_0
                try clear hfz225_1
                try clear hfz227_0
                try clear hfz227_1
                try clear hfz228_0
                try clear hfz228_1
                try clear hfz230_0
                try clear hfz230_1
                try clear hfz231_0
                try clear hfz231_1
                try clear hfz23_0
                try clear hfz23_1
                try clear hfz240_0
                try clear hfz240_1
                try clear hfz242_0
                try clear hfz242_1
                try clear hfz244_0
                try clear hfz244_1
                try clear hfz245_0
                try clear hfz245_1
                try clear hfz247_0
                try clear hfz247_1
                try clear hfz248_0
                try clear hfz248_1
                try clear hfz250_0
                try clear hfz250_1
                try clear hfz251_0
                try clear hfz251_1
                try clear hfz255_0
                try clear hfz255_1
                try clear hfz257_0
                try clear hfz257_1
                try clear hfz259_0
                try clear hfz259_1
                try clear hfz260_0
                try clear hfz260_1
                try clear hfz262_0
                try clear hfz262_1
                try clear hfz263_0
                try clear hfz263_1
                try clear hfz267_0
                try clear hfz267_1
                try clear hfz269_0
                try clear hfz269_1
                try clear hfz271_0
                try clear hfz271_1
                try clear hfz272_0
                try clear hfz272_1
                try clear hfz46_0
                try clear hfz46_1
                try clear hfz48_0
                try clear hfz48_1
                try clear hfz50_0
                try clear hfz50_1
                try clear hfz51_0
                try clear hfz51_1
                try clear hfz53_0
                try clear hfz53_1
                try clear hfz54_0
                try clear hfz54_1
                try clear hfz56_0
                try clear hfz56_1
                try clear hfz57_0
                try clear hfz57_1
                try clear hfz59_0
                try clear hfz59_1
                try clear hfz60_0
                try clear hfz60_1
                try clear hfz64_0
                try clear hfz64_1
                try clear hfz66_0
                try clear hfz66_1
                try clear hfz68_0
                try clear hfz68_1
                try clear hfz69_0
                try clear hfz69_1
                try clear hfz71_0
                try clear hfz71_1
                try clear hfz72_0
                try clear hfz72_1
                try clear hfz74_0
                try clear hfz74_1
                try clear hfz75_0
                try clear hfz75_1
                try clear hfz79_0
                try clear hfz79_1
                try clear hfz81_0
                try clear hfz81_1
                try clear hfz83_0
                try clear hfz83_1
                try clear hfz84_0
                try clear hfz84_1
                try clear hfz86_0
                try clear hfz86_1
                try clear hfz87_0
                try clear hfz87_1
                try clear hfz94_0
                try clear hfz94_1
                try clear hfz96_0
                try clear hfz96_1
                try clear hfz98_0
                try clear hfz98_1
                try clear hfz99_0
                try clear hfz99_1
                try clear p2
                try clear p3
                try clear p30
                try clear p6
                try clear p64
                try clear q3
                try clear q30
                try clear q31
                obtain ⟨kq, x92_143, rfl, HA, HJ143, BK185, BK186, BK187, HB⟩ := hcut
                cases kq with
                | zero => exact absurd HA.out (by simp [trustquorumlaw23_BallotsOrder.j2])
                | succ kj143 =>
                  have H := HA.out
                  clear HA
                  simp only [trustquorumlaw23_BallotsOrder.j2] at H
                  by_cases c274 : x92_143 = true
                  · subst c274
                    have H1 : (some false) = some r := by rw [if_pos rfl] at H; exact H
                    clear H
                    have H := H1
                    clear H1
                    exact absurd ((Option.some.inj H).trans HRT.out) (by decide)
                  · replace c274 := Bool.eq_false_iff.mpr c274
                    subst c274
                    have H1 : ((ballots_Compatible.f t176 t177 t179 t180).bind fun t211 => (if (t211 == (t177.toList == t180.toList)) = true then ((ballots_Covers.f t176 t177 t176 t177).bind fun t212 => (if t212 = true then ((ballots_Aborts.f kj143 t176 t177 t176 t177).bind fun t213 => (if t213 = true then (some false) else ((trustquorumlaw23_sane.f kj143).bind fun t214 => (some t214)))) else (some false))) else (some false))) = some r := by rw [if_neg (show ¬ (false = true) by decide)] at H; exact H
                    clear H
                    have H := H1
                    clear H1
                    replace H := Option.bind_eq_some_iff.mp H
                    obtain ⟨t211, A2750, H⟩ := H
                    replace H : (if (t211 == (t177.toList == t180.toList)) = true then ((ballots_Covers.f t176 t177 t176 t177).bind fun t212 => (if t212 = true then ((ballots_Aborts.f kj143 t176 t177 t176 t177).bind fun t213 => (if t213 = true then (some false) else ((trustquorumlaw23_sane.f kj143).bind fun t214 => (some t214)))) else (some false))) else (some false)) = some r := H
                    have A275 := Aside0.mk A2750
                    clear A2750
                    by_cases c276 : (t211 == (t177.toList == t180.toList)) = true
                    · rw [if_pos c276] at H
                      have c276b0 : (t211 == (t177.toList == t180.toList)) = true := c276
                      (try (have c276b1 : decide (t211 = (t177.toList == t180.toList)) = true := by simpa using c276))
                      (try (have c276b2 : (t211 == (t177.toList == t180.toList)) = true := by simpa using c276))
                      clear c276
                      replace H := Option.bind_eq_some_iff.mp H
                      obtain ⟨t212, A2770, H⟩ := H
                      replace H : (if t212 = true then ((ballots_Aborts.f kj143 t176 t177 t176 t177).bind fun t213 => (if t213 = true then (some false) else ((trustquorumlaw23_sane.f kj143).bind fun t214 => (some t214)))) else (some false)) = some r := H
                      have A277 := Aside0.mk A2770
                      clear A2770
                      by_cases c278 : t212 = true
                      · subst c278
                        have H1 : ((ballots_Aborts.f kj143 t176 t177 t176 t177).bind fun t213 => (if t213 = true then (some false) else ((trustquorumlaw23_sane.f kj143).bind fun t214 => (some t214)))) = some r := by rw [if_pos rfl] at H; exact H
                        clear H
                        have H := H1
                        clear H1
                        replace H := Option.bind_eq_some_iff.mp H
                        obtain ⟨t213, A2790, H⟩ := H
                        replace H : (if t213 = true then (some false) else ((trustquorumlaw23_sane.f kj143).bind fun t214 => (some t214))) = some r := H
                        have A279 := Aside0.mk A2790
                        clear A2790
                        by_cases c280 : t213 = true
                        · subst c280
                          have H1 : (some false) = some r := by rw [if_pos rfl] at H; exact H
                          clear H
                          have H := H1
                          clear H1
                          exact absurd ((Option.some.inj H).trans HRT.out) (by decide)
                        · replace c280 := Bool.eq_false_iff.mpr c280
                          subst c280
                          have H1 : ((trustquorumlaw23_sane.f kj143).bind fun t214 => (some t214)) = some r := by rw [if_neg (show ¬ (false = true) by decide)] at H; exact H
                          clear H
                          have H := H1
                          clear H1
                          replace H := Option.bind_eq_some_iff.mp H
                          obtain ⟨t214, A2810, H⟩ := H
                          replace H : (some t214) = some r := H
                          have A281 := Aside0.mk A2810
                          clear A2810
                          obtain rfl := Option.some.inj H
                          try go_wp2
                          have n0_ := Aside0.mk (blk_drew BK185.out)
                          have n1_ := Aside0.mk (blk_drew BK186.out)
                          have n2_ := Aside0.mk (blk_drew BK187.out)
                          have n3_ := Aside0.mk (below_drew1 HB.out)
                          clear BK185
                          clear BK186
                          clear BK187
                          clear HB
                          have BK185 := n0_
                          have BK186 := n1_
                          have BK187 := n2_
                          have HB := n3_
                          clear n0_ n1_ n2_ n3_
                          refine start_ (n := 24) (S := fun w' => w'.cell? ⟨gb185, 0, none⟩ = some (.int .i64 t176) ∧ w'.cell? ⟨gb185, 1, none⟩ = some (.string t177) ∧ w'.cell? ⟨gb186, 0, none⟩ = some (.int .i64 t179) ∧ w'.cell? ⟨gb186, 1, none⟩ = some (.string t180)) (ds := []) #[false, false, false, false, false, false, false, false, false, false, false, false, false, false, false, false, false, false, false, false, false, false, false, false] (by kernel_rfl) rfl rfl ⟨(blk_cell BK185.out 0).trans rfl, (blk_cell BK185.out 1).trans rfl, (blk_cell BK186.out 0).trans rfl, (blk_cell BK186.out 1).trans rfl⟩ (fun hHeld => ?_); refine with_tabW trustquorumlaw23_BallotsOrder.tab14 trustquorumlaw23_BallotsOrder.bits14 (fun HT_ HW_ => ?_)
                          generalize wc.drew = w282 at BK185 BK186 BK187 HB hHeld ⊢
                          refine pure_ (i := 3) (N := some 96) (v := ?_) (a' := ?_) #[false, false, false, true, false, false, false, false, false, false, false, false, false, false, false, false, false, false, false, false, false, false, false, false] rfl rfl (any_of HT_.out (by kernel_rfl)) (fun _ _ _ h => h) (Or.inl ⟨by rfl, ?_⟩) ?_ ?_
                          rotate_left
                          · intro w'
                            go_simp
                            with_reducible rfl
                          rotate_left
                          · simp only [Act.put, List.setIfInBounds_toArray, List.set_cons_zero, List.set_cons_succ, i64_w, i32_w]
                            rfl
                          refine pure_ (i := 5) (N := some 98) (v := ?_) (a' := ?_) #[false, false, false, true, false, true, false, false, false, false, false, false, false, false, false, false, false, false, false, false, false, false, false, false] rfl rfl (any_of HT_.out (by kernel_rfl)) (fun _ _ _ h => h) (Or.inl ⟨by rfl, ?_⟩) ?_ ?_
                          rotate_left
                          · intro w'
                            go_simp
                            with_reducible rfl
                          rotate_left
                          · simp only [Act.put, List.setIfInBounds_toArray, List.set_cons_zero, List.set_cons_succ, i64_w, i32_w]
                            rfl
                          refine take_ (i := 0) (N := some 93) (v := ?_) (a' := ?_) #[true, false, false, true, false, true, false, false, false, false, false, false, false, false, false, false, false, false, false, false, false, false, false, false] rfl rfl (take_ofW HT_.out HW_.out (by kernel_rfl)) (fun _ _ _ h => h) (Or.inl ⟨by rfl, ?_⟩) hHeld ?_ ?_
                          rotate_left
                          · rintro w' ⟨s0, s1, s2, s3⟩
                            go_simp
                            with_reducible rfl
                          rotate_left
                          · simp only [Act.put, List.setIfInBounds_toArray, List.set_cons_zero, List.set_cons_succ, i64_w, i32_w]
                            rfl
                          refine take_ (i := 1) (N := some 94) (v := ?_) (a' := ?_) #[true, true, false, true, false, true, false, false, false, false, false, false, false, false, false, false, false, false, false, false, false, false, false, false] rfl rfl (take_ofW HT_.out HW_.out (by kernel_rfl)) (fun _ _ _ h => h) (Or.inl ⟨by rfl, ?_⟩) hHeld ?_ ?_
                          rotate_left
                          · rintro w' ⟨s0, s1, s2, s3⟩
                            go_simp
                            with_reducible rfl
                          rotate_left
                          · simp only [Act.put, List.setIfInBounds_toArray, List.set_cons_zero, List.set_cons_succ, i64_w, i32_w]
                            rfl
                          refine take_ (i := 4) (N := some 97) (v := ?_) (a' := ?_) #[true, true, false, true, true, true, false, false, false, false, false, false, false, false, false, false, false, false, false, false, false, false, false, false] rfl rfl (take_ofW HT_.out HW_.out (by kernel_rfl)) (fun _ _ _ h => h) (Or.inl ⟨by rfl, ?_⟩) hHeld ?_ ?_
                          rotate_left
                          · rintro w' ⟨s0, s1, s2, s3⟩
                            go_simp
                            with_reducible rfl
                          rotate_left
                          · simp only [Act.put, List.setIfInBounds_toArray, List.set_cons_zero, List.set_cons_succ, i64_w, i32_w]
                            rfl
                          refine take_ (i := 6) (N := some 99) (v := ?_) (a' := ?_) #[true, true, false, true, true, true, true, false, false, false, false, false, false, false, false, false, false, false, false, false, false, false, false, false] rfl rfl (take_ofW HT_.out HW_.out (by kernel_rfl)) (fun _ _ _ h => h) (Or.inl ⟨by rfl, ?_⟩) hHeld ?_ ?_
                          rotate_left
                          · rintro w' ⟨s0, s1, s2, s3⟩
                            go_simp
                            with_reducible rfl
                          rotate_left
                          · simp only [Act.put, List.setIfInBounds_toArray, List.set_cons_zero, List.set_cons_succ, i64_w, i32_w]
                            rfl
                          refine pure_ (i := 7) (N := some 100) (v := ?_) (a' := ?_) #[true, true, false, true, true, true, true, true, false, false, false, false, false, false, false, false, false, false, false, false, false, false, false, false] rfl rfl (any_of HT_.out (by kernel_rfl)) (fun _ _ _ h => h) (Or.inl ⟨by rfl, ?_⟩) ?_ ?_
                          rotate_left
                          · intro w'
                            go_simp
                            with_reducible rfl
                          rotate_left
                          · simp only [Act.put, List.setIfInBounds_toArray, List.set_cons_zero, List.set_cons_succ, i64_w, i32_w]
                            rfl
                          refine one_ (i := 2) (N := some 95) #[true, true, true, true, true, true, true, true, false, false, false, false, false, false, false, false, false, false, false, false, false, false, false, false] rfl rfl (one_of HT_.out (by kernel_rfl)) (by decide) (fun K hK => ?_)
                          refine goes_ Try.func19 (by kernel_rfl) rfl #[.agg #[.int .i64 t176, .string t177], .agg #[.int .i64 t179, .string t180]] (by rfl) rfl rfl (by (try simp only [List.map_toArray, List.map_cons, List.map_nil]); first | done | rfl | (simp only [List.length_drop, List.length_take]; rfl)) ?_
                          with_reducible refine (ballots_Compatible.calls t176 t177 t179 t180 t211 _ A275.out).mono ?_
                          rintro e w283 ⟨rfl, hb⟩
                          refine ⟨_, rfl, ?_⟩
                          have n0_ := Aside0.mk (blk_below (g := gb185) (o := .cells #[.int .i64 t176, .string t177] 26 (0, 0)) (by (with_reducible repeat (first | refine blk_drewN ?_ _ | refine blk_drew ?_ | refine blk_alloc ?_ _)); exact BK185.out) hb)
                          have n1_ := Aside0.mk (blk_below (g := gb186) (o := .cells #[.int .i64 t179, .string t180] 26 (0, 0)) (by (with_reducible repeat (first | refine blk_drewN ?_ _ | refine blk_drew ?_ | refine blk_alloc ?_ _)); exact BK186.out) hb)
                          have n2_ := Aside0.mk (blk_below (g := gb187) (o := .cells #[.int .i64 t182, .string t183] 26 (0, 0)) (by (with_reducible repeat (first | refine blk_drewN ?_ _ | refine blk_drew ?_ | refine blk_alloc ?_ _)); exact BK187.out) hb)
                          have n3_ := Aside0.mk (below_step (by repeat (first | (with_reducible first | exact HB.out | apply below_alloc | apply pw_below_drewN | apply below_drew1 | refine below_set ?_ GE185.out | refine below_set ?_ GE186.out | refine below_set ?_ GE187.out) | exact HB.out)) hb)
                          clear BK185
                          clear BK186
                          clear BK187
                          clear HB
                          have BK185 := n0_
                          have BK186 := n1_
                          have BK187 := n2_
                          have HB := n3_
                          clear n0_ n1_ n2_ n3_
                          (try clear hb)
                          (try clear hb2)
                          (try clear hk)
                          (try clear hi)
                          refine hK.out _ _ ⟨(blk_cell BK185.out 0).trans rfl, (blk_cell BK185.out 1).trans rfl, (blk_cell BK186.out 0).trans rfl, (blk_cell BK186.out 1).trans rfl⟩ (fun hHeld => ?_)
                          clear hK K
                          refine norm_ (a' := ?_) ?_ ?_
                          rotate_left
                          · show Act.put _ (some 95) _ = _
                            simp only [Act.put, List.setIfInBounds_toArray, List.set_cons_zero, List.set_cons_succ, i64_w, i32_w]
                            rfl
                          refine pure_ (i := 8) (N := some 101) (v := ?_) (a' := ?_) #[true, true, true, true, true, true, true, true, true, false, false, false, false, false, false, false, false, false, false, false, false, false, false, false] rfl rfl (any_of HT_.out (by kernel_rfl)) (fun _ _ _ h => h) (Or.inl ⟨by rfl, ?_⟩) ?_ ?_
                          rotate_left
                          · intro w'
                            go_simp
                            with_reducible rfl
                          rotate_left
                          · simp only [Act.put, List.setIfInBounds_toArray, List.set_cons_zero, List.set_cons_succ, i64_w, i32_w]
                            rfl
                          refine pure_ (i := 9) (N := some 102) (v := ?_) (a' := ?_) #[true, true, true, true, true, true, true, true, true, true, false, false, false, false, false, false, false, false, false, false, false, false, false, false] rfl rfl (any_of HT_.out (by kernel_rfl)) (fun _ _ _ h => h) (Or.inl ⟨by rfl, ?_⟩) ?_ ?_
                          rotate_left
                          · intro w'
                            go_simp
                            with_reducible rfl
                          rotate_left
                          · simp only [Act.put, List.setIfInBounds_toArray, List.set_cons_zero, List.set_cons_succ, i64_w, i32_w]
                            rfl
                          refine take_ (i := 10) (N := some 103) (v := ?_) (a' := ?_) #[true, true, true, true, true, true, true, true, true, true, true, false, false, false, false, false, false, false, false, false, false, false, false, false] rfl rfl (take_ofW HT_.out HW_.out (by kernel_rfl)) (fun _ _ _ h => h) (Or.inl ⟨by rfl, ?_⟩) hHeld ?_ ?_
                          rotate_left
                          · rintro w' ⟨s0, s1, s2, s3⟩
                            go_simp
                            with_reducible rfl
                          rotate_left
                          · simp only [Act.put, List.setIfInBounds_toArray, List.set_cons_zero, List.set_cons_succ, i64_w, i32_w]
                            rfl
                          refine take_ (i := 11) (N := some 104) (v := ?_) (a' := ?_) #[true, true, true, true, true, true, true, true, true, true, true, true, false, false, false, false, false, false, false, false, false, false, false, false] rfl rfl (take_ofW HT_.out HW_.out (by kernel_rfl)) (fun _ _ _ h => h) (Or.inl ⟨by rfl, ?_⟩) hHeld ?_ ?_
                          rotate_left
                          · rintro w' ⟨s0, s1, s2, s3⟩
                            go_simp
                            with_reducible rfl
                          rotate_left
                          · simp only [Act.put, List.setIfInBounds_toArray, List.set_cons_zero, List.set_cons_succ, i64_w, i32_w]
                            rfl
                          refine one_ (i := 12) (N := some 105) #[true, true, true, true, true, true, true, true, true, true, true, true, true, false, false, false, false, false, false, false, false, false, false, false] rfl rfl (one_of HT_.out (by kernel_rfl)) (by decide) (fun K hK => ?_)
                          refine goes_ Try.func17 (by kernel_rfl) rfl #[.agg #[.int .i64 t176, .string t177], .agg #[.int .i64 t176, .string t177]] (by rfl) rfl rfl (by (try simp only [List.map_toArray, List.map_cons, List.map_nil]); first | done | rfl | (simp only [List.length_drop, List.length_take]; rfl)) ?_
                          with_reducible refine (ballots_Covers.calls t176 t177 t176 t177 true _ A277.out).mono ?_
                          rintro e w284 ⟨rfl, hb⟩
                          refine ⟨_, rfl, ?_⟩
                          have n0_ := Aside0.mk (blk_below (g := gb185) (o := .cells #[.int .i64 t176, .string t177] 26 (0, 0)) (by (with_reducible repeat (first | refine blk_drewN ?_ _ | refine blk_drew ?_ | refine blk_alloc ?_ _)); exact BK185.out) hb)
                          have n1_ := Aside0.mk (blk_below (g := gb186) (o := .cells #[.int .i64 t179, .string t180] 26 (0, 0)) (by (with_reducible repeat (first | refine blk_drewN ?_ _ | refine blk_drew ?_ | refine blk_alloc ?_ _)); exact BK186.out) hb)
                          have n2_ := Aside0.mk (blk_below (g := gb187) (o := .cells #[.int .i64 t182, .string t183] 26 (0, 0)) (by (with_reducible repeat (first | refine blk_drewN ?_ _ | refine blk_drew ?_ | refine blk_alloc ?_ _)); exact BK187.out) hb)
                          have n3_ := Aside0.mk (below_step (by repeat (first | (with_reducible first | exact HB.out | apply below_alloc | apply pw_below_drewN | apply below_drew1 | refine below_set ?_ GE185.out | refine below_set ?_ GE186.out | refine below_set ?_ GE187.out) | exact HB.out)) hb)
                          clear BK185
                          clear BK186
                          clear BK187
                          clear HB
                          have BK185 := n0_
                          have BK186 := n1_
                          have BK187 := n2_
                          have HB := n3_
                          clear n0_ n1_ n2_ n3_
                          (try clear hb)
                          (try clear hb2)
                          (try clear hk)
                          (try clear hi)
                          refine hK.out _ _ ⟨(blk_cell BK185.out 0).trans rfl, (blk_cell BK185.out 1).trans rfl, (blk_cell BK186.out 0).trans rfl, (blk_cell BK186.out 1).trans rfl⟩ (fun hHeld => ?_)
                          clear hK K
                          refine norm_ (a' := ?_) ?_ ?_
                          rotate_left
                          · show Act.put _ (some 105) _ = _
                            simp only [Act.put, List.setIfInBounds_toArray, List.set_cons_zero, List.set_cons_succ, i64_w, i32_w]
                            rfl
                          refine pure_ (i := 13) (N := some 106) (v := ?_) (a' := ?_) #[true, true, true, true, true, true, true, true, true, true, true, true, true, true, false, false, false, false, false, false, false, false, false, false] rfl rfl (any_of HT_.out (by kernel_rfl)) (fun _ _ _ h => h) (Or.inl ⟨by rfl, ?_⟩) ?_ ?_
                          rotate_left
                          · intro w'
                            go_simp
                            with_reducible rfl
                          rotate_left
                          · simp only [Act.put, List.setIfInBounds_toArray, List.set_cons_zero, List.set_cons_succ, i64_w, i32_w]
                            rfl
                          refine pure_ (i := 14) (N := some 107) (v := ?_) (a' := ?_) #[true, true, true, true, true, true, true, true, true, true, true, true, true, true, true, false, false, false, false, false, false, false, false, false] rfl rfl (any_of HT_.out (by kernel_rfl)) (fun _ _ _ h => h) (Or.inl ⟨by rfl, ?_⟩) ?_ ?_
                          rotate_left
                          · intro w'
                            go_simp
                            with_reducible rfl
                          rotate_left
                          · simp only [Act.put, List.setIfInBounds_toArray, List.set_cons_zero, List.set_cons_succ, i64_w, i32_w]
                            rfl
                          refine take_ (i := 15) (N := some 108) (v := ?_) (a' := ?_) #[true, true, true, true, true, true, true, true, true, true, true, true, true, true, true, true, false, false, false, false, false, false, false, false] rfl rfl (take_ofW HT_.out HW_.out (by kernel_rfl)) (fun _ _ _ h => h) (Or.inl ⟨by rfl, ?_⟩) hHeld ?_ ?_
                          rotate_left
                          · rintro w' ⟨s0, s1, s2, s3⟩
                            go_simp
                            with_reducible rfl
                          rotate_left
                          · simp only [Act.put, List.setIfInBounds_toArray, List.set_cons_zero, List.set_cons_succ, i64_w, i32_w]
                            rfl
                          refine take_ (i := 16) (N := some 109) (v := ?_) (a' := ?_) #[true, true, true, true, true, true, true, true, true, true, true, true, true, true, true, true, true, false, false, false, false, false, false, false] rfl rfl (take_ofW HT_.out HW_.out (by kernel_rfl)) (fun _ _ _ h => h) (Or.inl ⟨by rfl, ?_⟩) hHeld ?_ ?_
                          rotate_left
                          · rintro w' ⟨s0, s1, s2, s3⟩
                            go_simp
                            with_reducible rfl
                          rotate_left
                          · simp only [Act.put, List.setIfInBounds_toArray, List.set_cons_zero, List.set_cons_succ, i64_w, i32_w]
                            rfl
                          refine one_ (i := 17) (N := some 110) #[true, true, true, true, true, true, true, true, true, true, true, true, true, true, true, true, true, true, false, false, false, false, false, false] rfl rfl (one_of HT_.out (by kernel_rfl)) (by decide) (fun K hK => ?_)
                          refine goes_ Try.func18 (by kernel_rfl) rfl #[.agg #[.int .i64 t176, .string t177], .agg #[.int .i64 t176, .string t177]] (by rfl) rfl rfl (by (try simp only [List.map_toArray, List.map_cons, List.map_nil]); first | done | rfl | (simp only [List.length_drop, List.length_take]; rfl)) ?_
                          with_reducible refine (ballots_Aborts.calls kj143 t176 t177 t176 t177 false _ A279.out).mono ?_
                          rintro e w285 ⟨rfl, hb⟩
                          refine ⟨_, rfl, ?_⟩
                          have n0_ := Aside0.mk (blk_below (g := gb185) (o := .cells #[.int .i64 t176, .string t177] 26 (0, 0)) (by (with_reducible repeat (first | refine blk_drewN ?_ _ | refine blk_drew ?_ | refine blk_alloc ?_ _)); exact BK185.out) hb)
                          have n1_ := Aside0.mk (blk_below (g := gb186) (o := .cells #[.int .i64 t179, .string t180] 26 (0, 0)) (by (with_reducible repeat (first | refine blk_drewN ?_ _ | refine blk_drew ?_ | refine blk_alloc ?_ _)); exact BK186.out) hb)
                          have n2_ := Aside0.mk (blk_below (g := gb187) (o := .cells #[.int .i64 t182, .string t183] 26 (0, 0)) (by (with_reducible repeat (first | refine blk_drewN ?_ _ | refine blk_drew ?_ | refine blk_alloc ?_ _)); exact BK187.out) hb)
                          have n3_ := Aside0.mk (below_step (by repeat (first | (with_reducible first | exact HB.out | apply below_alloc | apply pw_below_drewN | apply below_drew1 | refine below_set ?_ GE185.out | refine below_set ?_ GE186.out | refine below_set ?_ GE187.out) | exact HB.out)) hb)
                          clear BK185
                          clear BK186
                          clear BK187
                          clear HB
                          have BK185 := n0_
                          have BK186 := n1_
                          have BK187 := n2_
                          have HB := n3_
                          clear n0_ n1_ n2_ n3_
                          (try clear hb)
                          (try clear hb2)
                          (try clear hk)
                          (try clear hi)
                          refine hK.out _ _ ⟨(blk_cell BK185.out 0).trans rfl, (blk_cell BK185.out 1).trans rfl, (blk_cell BK186.out 0).trans rfl, (blk_cell BK186.out 1).trans rfl⟩ (fun hHeld => ?_)
                          clear hK K
                          refine norm_ (a' := ?_) ?_ ?_
                          rotate_left
                          · show Act.put _ (some 110) _ = _
                            simp only [Act.put, List.setIfInBounds_toArray, List.set_cons_zero, List.set_cons_succ, i64_w, i32_w]
                            rfl
                          refine pure_ (i := 18) (N := some 111) (v := ?_) (a' := ?_) #[true, true, true, true, true, true, true, true, true, true, true, true, true, true, true, true, true, true, true, false, false, false, false, false] rfl rfl (any_of HT_.out (by kernel_rfl)) (fun _ _ _ h => h) (Or.inl ⟨by rfl, ?_⟩) ?_ ?_
                          rotate_left
                          · intro w'
                            go_simp
                            with_reducible rfl
                          rotate_left
                          · simp only [Act.put, List.setIfInBounds_toArray, List.set_cons_zero, List.set_cons_succ, i64_w, i32_w]
                            rfl
                          refine pure_ (i := 19) (N := some 112) (v := ?_) (a' := ?_) #[true, true, true, true, true, true, true, true, true, true, true, true, true, true, true, true, true, true, true, true, false, false, false, false] rfl rfl (any_of HT_.out (by kernel_rfl)) (fun _ _ _ h => h) (Or.inl ⟨by rfl, ?_⟩) ?_ ?_
                          rotate_left
                          · intro w'
                            go_simp
                            with_reducible rfl
                          rotate_left
                          · simp only [Act.put, List.setIfInBounds_toArray, List.set_cons_zero, List.set_cons_succ, i64_w, i32_w]
                            rfl
                          refine pure_ (i := 20) (N := some 113) (v := ?_) (a' := ?_) #[true, true, true, true, true, true, true, true, true, true, true, true, true, true, true, true, true, true, true, true, true, false, false, false] rfl rfl (any_of HT_.out (by kernel_rfl)) (fun _ _ _ h => h) (Or.inl ⟨by rfl, ?_⟩) ?_ ?_
                          rotate_left
                          · intro w'
                            go_simp
                            with_reducible rfl
                          rotate_left
                          · simp only [Act.put, List.setIfInBounds_toArray, List.set_cons_zero, List.set_cons_succ, i64_w, i32_w]
                            rfl
                          refine one_ (i := 21) (N := some 114) #[true, true, true, true, true, true, true, true, true, true, true, true, true, true, true, true, true, true, true, true, true, true, false, false] rfl rfl (one_of HT_.out (by kernel_rfl)) (by decide) (fun K hK => ?_)
                          refine goes_ Try.func14 (by kernel_rfl) rfl #[] (by rfl) rfl rfl (by (try simp only [List.map_toArray, List.map_cons, List.map_nil]); first | done | rfl | (simp only [List.length_drop, List.length_take]; rfl)) ?_
                          with_reducible refine (trustquorumlaw23_sane.calls kj143  t214 _ A281.out).mono ?_
                          rintro e w286 ⟨rfl, hb⟩
                          refine ⟨_, rfl, ?_⟩
                          have n0_ := Aside0.mk (blk_below (g := gb185) (o := .cells #[.int .i64 t176, .string t177] 26 (0, 0)) (by (with_reducible repeat (first | refine blk_drewN ?_ _ | refine blk_drew ?_ | refine blk_alloc ?_ _)); exact BK185.out) hb)
                          have n1_ := Aside0.mk (blk_below (g := gb186) (o := .cells #[.int .i64 t179, .string t180] 26 (0, 0)) (by (with_reducible repeat (first | refine blk_drewN ?_ _ | refine blk_drew ?_ | refine blk_alloc ?_ _)); exact BK186.out) hb)
                          have n2_ := Aside0.mk (blk_below (g := gb187) (o := .cells #[.int .i64 t182, .string t183] 26 (0, 0)) (by (with_reducible repeat (first | refine blk_drewN ?_ _ | refine blk_drew ?_ | refine blk_alloc ?_ _)); exact BK187.out) hb)
                          have n3_ := Aside0.mk (below_step (by repeat (first | (with_reducible first | exact HB.out | apply below_alloc | apply pw_below_drewN | apply below_drew1 | refine below_set ?_ GE185.out | refine below_set ?_ GE186.out | refine below_set ?_ GE187.out) | exact HB.out)) hb)
                          clear BK185
                          clear BK186
                          clear BK187
                          clear HB
                          have BK185 := n0_
                          have BK186 := n1_
                          have BK187 := n2_
                          have HB := n3_
                          clear n0_ n1_ n2_ n3_
                          (try clear hb)
                          (try clear hb2)
                          (try clear hk)
                          (try clear hi)
                          refine hK.out _ _ ⟨(blk_cell BK185.out 0).trans rfl, (blk_cell BK185.out 1).trans rfl, (blk_cell BK186.out 0).trans rfl, (blk_cell BK186.out 1).trans rfl⟩ (fun hHeld => ?_)
                          clear hK K
                          refine norm_ (a' := ?_) ?_ ?_
                          rotate_left
                          · show Act.put _ (some 114) _ = _
                            simp only [Act.put, List.setIfInBounds_toArray, List.set_cons_zero, List.set_cons_succ, i64_w, i32_w]
                            rfl
                          refine pure_ (i := 22) (N := some 115) (v := ?_) (a' := ?_) #[true, true, true, true, true, true, true, true, true, true, true, true, true, true, true, true, true, true, true, true, true, true, true, false] rfl rfl (any_of HT_.out (by kernel_rfl)) (fun _ _ _ h => h) (Or.inl ⟨by rfl, ?_⟩) ?_ ?_
                          rotate_left
                          · intro w'
                            go_simp
                            with_reducible rfl
                          rotate_left
                          · simp only [Act.put, List.setIfInBounds_toArray, List.set_cons_zero, List.set_cons_succ, i64_w, i32_w]
                            rfl
                          refine pure_ (i := 23) (N := some 2) (v := ?_) (a' := ?_) #[true, true, true, true, true, true, true, true, true, true, true, true, true, true, true, true, true, true, true, true, true, true, true, true] rfl rfl (any_of HT_.out (by kernel_rfl)) (fun _ _ _ h => h) (Or.inl ⟨by rfl, ?_⟩) ?_ ?_
                          rotate_left
                          · intro w'
                            go_simp
                            with_reducible rfl
                          rotate_left
                          · simp only [Act.put, List.setIfInBounds_toArray, List.set_cons_zero, List.set_cons_succ, i64_w, i32_w]
                            rfl
                          refine done_ (done_of HT_.out (by kernel_rfl)) ?_
                          try go_wp2
                          go_ret
                          exact ⟨by first | rfl | (simp [errW_none, errW_some] <;> rfl) | (simp [*, errW_none, errW_some] <;> rfl), by repeat (first | (with_reducible first | exact HB.out | apply below_alloc | apply pw_below_drewN | apply below_drew1 | refine below_set ?_ GE185.out | refine below_set ?_ GE186.out | refine below_set ?_ GE187.out) | exact HB.out)⟩
                      · replace c278 := Bool.eq_false_iff.mpr c278
                        subst c278
                        have H1 : (some false) = some r := by rw [if_neg (show ¬ (false = true) by decide)] at H; exact H
                        clear H
                        have H := H1
                        clear H1
                        exact absurd ((Option.some.inj H).trans HRT.out) (by decide)
                    · rw [if_neg c276] at H
                      have c276b0 : (t211 == (t177.toList == t180.toList)) = false := by simpa using c276
                      (try (have c276b1 : decide (t211 = (t177.toList == t180.toList)) = false := by simpa using c276))
                      (try (have c276b2 : (t211 == (t177.toList == t180.toList)) = false := by simpa using c276))
                      (try (have c276b3 : ¬ (t211 = (t177.toList == t180.toList)) := by simpa using c276))
                      clear c276
                      exact absurd ((Option.some.inj H).trans HRT.out) (by decide)

/-- THE ONE PURE STATEMENT of trustquorumlaw23_BallotsOrder: yours. -/
def trustquorumlaw23_BallotsOrder.Pure : Prop := ∀ (l0 : List Int), l0.length ≤ maxLen → l0.length * 8 ≤ 140737488351232 → (∀ x ∈ l0, (Lit.int .i64 x).wf = true) → ∃ k, trustquorumlaw23_BallotsOrder.f k l0 = some true
theorem trustquorumlaw23_BallotsOrder.walk (P : trustquorumlaw23_BallotsOrder.Pure) (a0 : Option Addr) (len0 cap0 : Nat) (z0 : List Int) (w : World) (w0 : (a0 = none ∧ len0 = 0 ∧ cap0 = 0 ∧ z0 = []) ∨ ∃ x, a0 = some x ∧ len0 ≤ cap0 ∧ cap0 ≤ maxLen ∧ z0.length = cap0 ∧ (∀ i, i < z0.length → w.cell? (x.add i) = some (.int .i64 (z0.getD i 0))) ∧ ∀ n ∈ z0, (Lit.int .i64 n).wf = true) (y0 : len0 * 8 ≤ 140737488351232) :
    Calls Try.prog 4 #[.slice a0 len0 cap0] w fun e w' => e = .returned (.bool true) ∧ Below w.heap.size w w' := by
  obtain ⟨l0, rfl, hr0, hm0, hw0, hc0⟩ := ReadsInt.ofRowC w0
  obtain ⟨k, h⟩ := P l0 hm0 y0 hw0
  refine (trustquorumlaw23_BallotsOrder.calls k _ _ l0 true w (Kd.C_of_reads (d := (0 : Int)) (h1 := fun _ => rfl) hr0) hc0 ⟨rfl⟩ h).mono ?_
  rintro e w' ⟨rfl, hd⟩
  exact ⟨rfl, hd⟩

end Go.Proofs.Ytogdpfmlldaeeaa.QBallotsOrder
