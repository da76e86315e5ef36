/- Lean functions that answer as the Go functions do which the law reaches, and proofs that the Go code comes to exactly these answers. Conditions: those that each theorem names. -/
import Derived.Test.YtmeamdklonmahaaQFederatedViewx0
import Derived.Test.YtmeamdklonmahaaQFederatedViewx2
import Derived.Test.YtmeamdklonmahaaQFederatedViewx4
import Derived.Test.YtmeamdklonmahaaQFederatedViewx7
import Derived.Test.YtmeamdklonmahaaQFederatedViewx12
import Derived.Test.YtmeamdklonmahaaQFederatedViewx13
namespace Go.Proofs.Ytmeamdklonmahaa.QFederatedView
open Go.RowKit Go.Proofs.YtmeamdklonmahaaW.PrintWords Go.Proofs.YtmeamdklonmahaaW.PrintLast Go.Proofs.YtmeamdklonmahaaW.PrintMore
attribute [local go_sem] max2_int min2_int max_two min_two max_three min_three max_four min_four   -- for this text's walks alone
set_option linter.unusedVariables false
set_option linter.unusedSimpArgs false

/-! ### trustquorumlaw18_FederatedView: function 6 -/
mutual
def trustquorumlaw18_FederatedView.j0 : Nat → Int → List (S58) → Bool → List (S54) → Option (Bool)
  | 0, _, _, _, _ => none
  | k + 1, x4, x6, x47, x481000 => if x47 = true then (some false) else (trustquorumlaw18_FederatedView.l0 k x4 x6 (x481000.length : Int) 0 x481000)
def trustquorumlaw18_FederatedView.l0 : Nat → Int → List (S58) → Int → Int → List (S54) → Option (Bool)
  | 0, _, _, _, _, _ => none
  | k + 1, x4, x6, x50, x51, x481000 => if x51 < x50 then (trustquorumlaw18_FederatedView.l1 k x4 x6 x51 (-1) x50 x51 (x6.length : Int) 0 x481000) else ((trustquorumlaw18_awake.f k).bind fun t484 => (some t484))
def trustquorumlaw18_FederatedView.l1 : Nat → Int → List (S58) → Int → Int → Int → Int → Int → Int → List (S54) → Option (Bool)
  | 0, _, _, _, _, _, _, _, _, _ => none
  | k + 1, x4, x6, x8, x9, x50, x51, x55, x56, x481000 => if x56 < x55 then (if 0 ≤ x56 then (if x56 < (x6.length : Int) then (if ((rd_T58 x6 x56).f0) = x8 then (trustquorumlaw18_FederatedView.l1 k x4 x6 x8 x56 x50 x51 x55 (wrap64 (x56 + 1)) x481000) else (trustquorumlaw18_FederatedView.l1 k x4 x6 x8 x9 x50 x51 x55 (wrap64 (x56 + 1)) x481000)) else (none)) else (none)) else (if x8 = x4 then (trustquorumlaw18_FederatedView.j3 k x4 x6 x50 x51 false x481000) else (if 0 ≤ x8 then (if x8 < (x481000.length : Int) then (if (((rd_T54 x481000 x8).f0) != (decide (x9 ≥ 0))) = true then (trustquorumlaw18_FederatedView.j3 k x4 x6 x50 x51 true x481000) else (if x9 ≥ 0 then (if 0 ≤ x9 then (if x9 < (x6.length : Int) then ((trustquorumref02_Same.f k ((rd_T54 x481000 x8).f1.f0) ((rd_T54 x481000 x8).f1.f1) ((rd_T54 x481000 x8).f1.f2) ((rd_T58 x6 x9).f2.f0) ((rd_T58 x6 x9).f2.f1) ((rd_T58 x6 x9).f2.f2)).bind fun t490 => (trustquorumlaw18_FederatedView.j3 k x4 x6 x50 x51 (!t490) x481000)) else (none)) else (none)) else (trustquorumlaw18_FederatedView.j3 k x4 x6 x50 x51 false x481000))) else (none)) else (none)))
def trustquorumlaw18_FederatedView.j3 : Nat → Int → List (S58) → Int → Int → Bool → List (S54) → Option (Bool)
  | 0, _, _, _, _, _, _ => none
  | k + 1, x4, x6, x50, x51, x99, x481000 => if x99 = true then (some false) else (trustquorumlaw18_FederatedView.l0 k x4 x6 x50 (wrap64 (x51 + 1)) x481000)
end
def trustquorumlaw18_FederatedView.f (k : Nat) (l0 : List Int) : Option (Bool) := (trustquorummake_New.f l0).bind fun bt459 => ((trustquorummake_Tape_N.f bt459.1 bt459.2 5).bind fun bt462 => ((trustquorummake_Trust.f k bt459.1 bt462.2 5 2).bind fun bt464 => ((trustquorummake_Messages.f k bt459.1 bt464.2.2.2 5 8).bind fun bt473 => ((federated_View.f k bt462.1 bt464.1 bt464.2.1 bt464.2.2.1 bt473.1).bind fun t477 => (if (t477.length : Int) = 10 then (if 0 ≤ bt462.1 then (if bt462.1 < (t477.length : Int) then (if ((rd_T54 t477 bt462.1).f0 = true) then ((trustquorumref02_Same.f k ((rd_T54 t477 bt462.1).f1.f0) ((rd_T54 t477 bt462.1).f1.f1) ((rd_T54 t477 bt462.1).f1.f2) bt464.1 bt464.2.1 bt464.2.2.1).bind fun t483 => (trustquorumlaw18_FederatedView.j0 k bt462.1 bt473.1 (!t483) t477)) else (trustquorumlaw18_FederatedView.j0 k bt462.1 bt473.1 true t477)) else (none)) else (none)) else (trustquorumlaw18_FederatedView.j0 k bt462.1 bt473.1 true t477))))))
theorem trustquorumlaw18_FederatedView.mono_l : ∀ k, (∀ y0 y1 y2 y3, LeO (trustquorumlaw18_FederatedView.j0 k y0 y1 y2 y3) (trustquorumlaw18_FederatedView.j0 (k + 1) y0 y1 y2 y3)) ∧ (∀ y0 y1 y2 y3 y4, LeO (trustquorumlaw18_FederatedView.l0 k y0 y1 y2 y3 y4) (trustquorumlaw18_FederatedView.l0 (k + 1) y0 y1 y2 y3 y4)) ∧ (∀ y0 y1 y2 y3 y4 y5 y6 y7 y8, LeO (trustquorumlaw18_FederatedView.l1 k y0 y1 y2 y3 y4 y5 y6 y7 y8) (trustquorumlaw18_FederatedView.l1 (k + 1) y0 y1 y2 y3 y4 y5 y6 y7 y8)) ∧ (∀ y0 y1 y2 y3 y4 y5, LeO (trustquorumlaw18_FederatedView.j3 k y0 y1 y2 y3 y4 y5) (trustquorumlaw18_FederatedView.j3 (k + 1) y0 y1 y2 y3 y4 y5))
  | 0 => ⟨fun _ _ _ _ r h => by simp [trustquorumlaw18_FederatedView.j0] at h, fun _ _ _ _ _ r h => by simp [trustquorumlaw18_FederatedView.l0] at h, fun _ _ _ _ _ _ _ _ _ r h => by simp [trustquorumlaw18_FederatedView.l1] at h, fun _ _ _ _ _ _ r h => by simp [trustquorumlaw18_FederatedView.j3] at h⟩
  | k + 1 => by
    obtain ⟨ih0, ih1, ih2, ih3⟩ := trustquorumlaw18_FederatedView.mono_l k
    refine ⟨?_, ?_, ?_, ?_⟩
    · intro y0 y1 y2 y3
      unfold trustquorumlaw18_FederatedView.j0
      repeat' first
      | (with_reducible exact ih0 _ _ _ _)
      | (with_reducible exact ih1 _ _ _ _ _)
      | (with_reducible exact ih2 _ _ _ _ _ _ _ _ _)
      | (with_reducible exact ih3 _ _ _ _ _ _)
      | (with_reducible exact federated_View.mono _ _ _ _ _ _)
      | (with_reducible exact trustquorumlaw18_awake.mono _)
      | (with_reducible exact trustquorummake_Messages.mono _ _ _ _ _)
      | (with_reducible exact trustquorummake_Trust.mono _ _ _ _ _)
      | (with_reducible exact trustquorumref02_Same.mono _ _ _ _ _ _ _)
      | (with_reducible exact LeO.refl _)
      | (with_reducible exact LeO.none _)
      | (with_reducible refine LeO.ite ?_ ?_)
      | (with_reducible refine LeO.bind ?_ (fun _ => ?_))
      | exact ih0 _ _ _ _
      | exact ih1 _ _ _ _ _
      | exact ih2 _ _ _ _ _ _ _ _ _
      | exact ih3 _ _ _ _ _ _
      | exact federated_View.mono _ _ _ _ _ _
      | exact trustquorumlaw18_awake.mono _
      | exact trustquorummake_Messages.mono _ _ _ _ _
      | exact trustquorummake_Trust.mono _ _ _ _ _
      | exact trustquorumref02_Same.mono _ _ _ _ _ _ _
      | exact LeO.none _
      | refine LeO.ite ?_ ?_
      | refine LeO.bind ?_ (fun _ => ?_)
    · intro y0 y1 y2 y3 y4
      unfold trustquorumlaw18_FederatedView.l0
      repeat' first
      | (with_reducible exact ih0 _ _ _ _)
      | (with_reducible exact ih1 _ _ _ _ _)
      | (with_reducible exact ih2 _ _ _ _ _ _ _ _ _)
      | (with_reducible exact ih3 _ _ _ _ _ _)
      | (with_reducible exact federated_View.mono _ _ _ _ _ _)
      | (with_reducible exact trustquorumlaw18_awake.mono _)
      | (with_reducible exact trustquorummake_Messages.mono _ _ _ _ _)
      | (with_reducible exact trustquorummake_Trust.mono _ _ _ _ _)
      | (with_reducible exact trustquorumref02_Same.mono _ _ _ _ _ _ _)
      | (with_reducible exact LeO.refl _)
      | (with_reducible exact LeO.none _)
      | (with_reducible refine LeO.ite ?_ ?_)
      | (with_reducible refine LeO.bind ?_ (fun _ => ?_))
      | exact ih0 _ _ _ _
      | exact ih1 _ _ _ _ _
      | exact ih2 _ _ _ _ _ _ _ _ _
      | exact ih3 _ _ _ _ _ _
      | exact federated_View.mono _ _ _ _ _ _
      | exact trustquorumlaw18_awake.mono _
      | exact trustquorummake_Messages.mono _ _ _ _ _
      | exact trustquorummake_Trust.mono _ _ _ _ _
      | exact trustquorumref02_Same.mono _ _ _ _ _ _ _
      | exact LeO.none _
      | refine LeO.ite ?_ ?_
      | refine LeO.bind ?_ (fun _ => ?_)
    · intro y0 y1 y2 y3 y4 y5 y6 y7 y8
      unfold trustquorumlaw18_FederatedView.l1
      repeat' first
      | (with_reducible exact ih0 _ _ _ _)
      | (with_reducible exact ih1 _ _ _ _ _)
      | (with_reducible exact ih2 _ _ _ _ _ _ _ _ _)
      | (with_reducible exact ih3 _ _ _ _ _ _)
      | (with_reducible exact federated_View.mono _ _ _ _ _ _)
      | (with_reducible exact trustquorumlaw18_awake.mono _)
      | (with_reducible exact trustquorummake_Messages.mono _ _ _ _ _)
      | (with_reducible exact trustquorummake_Trust.mono _ _ _ _ _)
      | (with_reducible exact trustquorumref02_Same.mono _ _ _ _ _ _ _)
      | (with_reducible exact LeO.refl _)
      | (with_reducible exact LeO.none _)
      | (with_reducible refine LeO.ite ?_ ?_)
      | (with_reducible refine LeO.bind ?_ (fun _ => ?_))
      | exact ih0 _ _ _ _
      | exact ih1 _ _ _ _ _
      | exact ih2 _ _ _ _ _ _ _ _ _
      | exact ih3 _ _ _ _ _ _
      | exact federated_View.mono _ _ _ _ _ _
      | exact trustquorumlaw18_awake.mono _
      | exact trustquorummake_Messages.mono _ _ _ _ _
      | exact trustquorummake_Trust.mono _ _ _ _ _
      | exact trustquorumref02_Same.mono _ _ _ _ _ _ _
      | exact LeO.none _
      | refine LeO.ite ?_ ?_
      | refine LeO.bind ?_ (fun _ => ?_)
    · intro y0 y1 y2 y3 y4 y5
      unfold trustquorumlaw18_FederatedView.j3
      repeat' first
      | (with_reducible exact ih0 _ _ _ _)
      | (with_reducible exact ih1 _ _ _ _ _)
      | (with_reducible exact ih2 _ _ _ _ _ _ _ _ _)
      | (with_reducible exact ih3 _ _ _ _ _ _)
      | (with_reducible exact federated_View.mono _ _ _ _ _ _)
      | (with_reducible exact trustquorumlaw18_awake.mono _)
      | (with_reducible exact trustquorummake_Messages.mono _ _ _ _ _)
      | (with_reducible exact trustquorummake_Trust.mono _ _ _ _ _)
      | (with_reducible exact trustquorumref02_Same.mono _ _ _ _ _ _ _)
      | (with_reducible exact LeO.refl _)
      | (with_reducible exact LeO.none _)
      | (with_reducible refine LeO.ite ?_ ?_)
      | (with_reducible refine LeO.bind ?_ (fun _ => ?_))
      | exact ih0 _ _ _ _
      | exact ih1 _ _ _ _ _
      | exact ih2 _ _ _ _ _ _ _ _ _
      | exact ih3 _ _ _ _ _ _
      | exact federated_View.mono _ _ _ _ _ _
      | exact trustquorumlaw18_awake.mono _
      | exact trustquorummake_Messages.mono _ _ _ _ _
      | exact trustquorummake_Trust.mono _ _ _ _ _
      | exact trustquorumref02_Same.mono _ _ _ _ _ _ _
      | exact LeO.none _
      | refine LeO.ite ?_ ?_
      | refine LeO.bind ?_ (fun _ => ?_)
theorem trustquorumlaw18_FederatedView.mono : ∀ a0 k, LeO (trustquorumlaw18_FederatedView.f k a0) (trustquorumlaw18_FederatedView.f (k + 1) a0) := by
  intro a0 k
  obtain ⟨ih0, ih1, ih2, ih3⟩ := trustquorumlaw18_FederatedView.mono_l k
  unfold trustquorumlaw18_FederatedView.f
  repeat' first
      | (with_reducible exact ih0 _ _ _ _)
      | (with_reducible exact ih1 _ _ _ _ _)
      | (with_reducible exact ih2 _ _ _ _ _ _ _ _ _)
      | (with_reducible exact ih3 _ _ _ _ _ _)
      | (with_reducible exact federated_View.mono _ _ _ _ _ _)
      | (with_reducible exact trustquorumlaw18_awake.mono _)
      | (with_reducible exact trustquorummake_Messages.mono _ _ _ _ _)
      | (with_reducible exact trustquorummake_Trust.mono _ _ _ _ _)
      | (with_reducible exact trustquorumref02_Same.mono _ _ _ _ _ _ _)
      | (with_reducible exact LeO.refl _)
      | (with_reducible exact LeO.none _)
      | (with_reducible refine LeO.ite ?_ ?_)
      | (with_reducible refine LeO.bind ?_ (fun _ => ?_))
      | exact ih0 _ _ _ _
      | exact ih1 _ _ _ _ _
      | exact ih2 _ _ _ _ _ _ _ _ _
      | exact ih3 _ _ _ _ _ _
      | exact federated_View.mono _ _ _ _ _ _
      | exact trustquorumlaw18_awake.mono _
      | exact trustquorummake_Messages.mono _ _ _ _ _
      | exact trustquorummake_Trust.mono _ _ _ _ _
      | exact trustquorumref02_Same.mono _ _ _ _ _ _ _
      | exact LeO.none _
      | refine LeO.ite ?_ ?_
      | refine LeO.bind ?_ (fun _ => ?_)
def trustquorumlaw18_FederatedView.T5 : Bool × List (List Nat × List Nat) := (true, [([], []), ([0], [0]), ([1], [1]), ([2], [2]), ([3], [3]), ([4], [4]), ([5, 4], [4, 5]), ([4], [4]), ([6, 7, 4], [4, 6, 7]), ([8, 4], [4, 8]), ([9, 4], [4, 9]), ([10, 4], [4, 10]), ([4, 11], [4, 11]), ([12, 4], [12]), ([13], [13]), ([14, 13], [13, 14]), ([13], [13]), ([15, 16, 13], [13, 15, 16]), ([17, 13], [13, 17]), ([18, 13], [13, 18]), ([13], [13]), ([19, 20, 13, 13], [13, 19, 20]), ([21, 13], [13, 21]), ([13, 22], [13, 22])])
def trustquorumlaw18_FederatedView.B5 : List Nat := [0, 1, 3, 7, 15, 31, 63, 31, 255, 511, 1023, 2047, 4095, 8191, 16383, 32767, 16383, 131071, 262143, 524287, 16383, 2097151, 4194303, 8388607]
theorem trustquorumlaw18_FederatedView.tab5 : rtab .any (opsOf Try.f6 5) = trustquorumlaw18_FederatedView.T5 := by kernel_rfl
theorem trustquorumlaw18_FederatedView.bits5 : waitsOk trustquorumlaw18_FederatedView.T5.2 trustquorumlaw18_FederatedView.B5 = true := by kernel_rfl
def trustquorumlaw18_FederatedView.T17 : Bool × List (List Nat × List Nat) := (true, [([], []), ([], []), ([0, 1], [0, 1]), ([2], [2]), ([3], [3]), ([4, 3], [3, 4]), ([3], [3]), ([5, 6, 3], [3, 5, 6]), ([7, 3], [3, 7]), ([8, 3], [3, 8]), ([3], [3]), ([10, 3], [3, 10]), ([9, 11, 3], [3, 9, 11]), ([12, 3, 3], [3, 12]), ([13], [13]), ([14, 13], [13, 14]), ([15, 13, 13], [13, 15]), ([16], [16]), ([17, 16], [16, 17]), ([16], [16]), ([18, 19, 16], [16, 18, 19]), ([20, 16], [16, 20]), ([21, 16], [16, 21]), ([16], [16]), ([16], [16]), ([23, 24, 16], [16, 23, 24]), ([25, 16], [16, 25]), ([26, 16], [16, 26]), ([22, 27, 16, 16], [16, 22, 27]), ([28, 16], [16, 28]), ([16, 29, 13], [13, 16, 29]), ([13, 30, 3], [3, 13, 30]), ([3, 31], [3, 31])])
def trustquorumlaw18_FederatedView.B17 : List Nat := [0, 0, 3, 7, 15, 31, 15, 127, 255, 511, 15, 1039, 4095, 8191, 16383, 32767, 65535, 131071, 262143, 131071, 1048575, 2097151, 4194303, 131071, 131071, 25296895, 58851327, 125960191, 268435455, 536870911, 1073741823, 2147483647, 4294967295]
theorem trustquorumlaw18_FederatedView.tab17 : rtab .any (opsOf Try.f6 17) = trustquorumlaw18_FederatedView.T17 := by kernel_rfl
theorem trustquorumlaw18_FederatedView.bits17 : waitsOk trustquorumlaw18_FederatedView.T17.2 trustquorumlaw18_FederatedView.B17 = true := by kernel_rfl
set_option maxHeartbeats 8000000 in
set_option maxRecDepth 100000 in
theorem trustquorumlaw18_FederatedView.calls (k : Nat) (A0 : Option Addr) (c0 : Nat) (l0 : List Int) (r : Bool) (w : World) (hr0 : Kd.C (Kd.int .i64) w A0 l0.length l0) (hc0 : l0.length ≤ c0) (HRT : Aside0 (r = true)) (h : trustquorumlaw18_FederatedView.f k l0 = some r) :
    Calls Try.prog 6 #[.slice A0 l0.length c0] w fun e w' => e = .returned (.bool r) ∧ Below w.heap.size w w' := by
 have hu48 := Try.underlying48; have hu27 := Try.underlying27; have hu58 := Try.underlying58; have HR0 := Aside0.mk hr0; have HC0 := Aside0.mk hc0; clear hr0 hc0; have HB := Aside0.mk (Below.refl w.heap.size w); have H : ((trustquorummake_New.f l0).bind fun bt459 => ((trustquorummake_Tape_N.f bt459.1 bt459.2 5).bind fun bt462 => ((trustquorummake_Trust.f k bt459.1 bt462.2 5 2).bind fun bt464 => ((trustquorummake_Messages.f k bt459.1 bt464.2.2.2 5 8).bind fun bt473 => ((federated_View.f k bt462.1 bt464.1 bt464.2.1 bt464.2.2.1 bt473.1).bind fun t477 => (if (t477.length : Int) = 10 then (if 0 ≤ bt462.1 then (if bt462.1 < (t477.length : Int) then (if ((rd_T54 t477 bt462.1).f0 = true) then ((trustquorumref02_Same.f k ((rd_T54 t477 bt462.1).f1.f0) ((rd_T54 t477 bt462.1).f1.f1) ((rd_T54 t477 bt462.1).f1.f2) bt464.1 bt464.2.1 bt464.2.2.1).bind fun t483 => (trustquorumlaw18_FederatedView.j0 k bt462.1 bt473.1 (!t483) t477)) else (trustquorumlaw18_FederatedView.j0 k bt462.1 bt473.1 true t477)) else (none)) else (none)) else (trustquorumlaw18_FederatedView.j0 k bt462.1 bt473.1 true t477))))))) = some r := h; clear h; replace H := Option.bind_eq_some_iff.mp H; obtain ⟨⟨t459, t460⟩, A20, H⟩ := H; replace H : ((trustquorummake_Tape_N.f t459 t460 5).bind fun bt462 => ((trustquorummake_Trust.f k t459 bt462.2 5 2).bind fun bt464 => ((trustquorummake_Messages.f k t459 bt464.2.2.2 5 8).bind fun bt473 => ((federated_View.f k bt462.1 bt464.1 bt464.2.1 bt464.2.2.1 bt473.1).bind fun t477 => (if (t477.length : Int) = 10 then (if 0 ≤ bt462.1 then (if bt462.1 < (t477.length : Int) then (if ((rd_T54 t477 bt462.1).f0 = true) then ((trustquorumref02_Same.f k ((rd_T54 t477 bt462.1).f1.f0) ((rd_T54 t477 bt462.1).f1.f1) ((rd_T54 t477 bt462.1).f1.f2) bt464.1 bt464.2.1 bt464.2.2.1).bind fun t483 => (trustquorumlaw18_FederatedView.j0 k bt462.1 bt473.1 (!t483) t477)) else (trustquorumlaw18_FederatedView.j0 k bt462.1 bt473.1 true t477)) else (none)) else (none)) else (trustquorumlaw18_FederatedView.j0 k bt462.1 bt473.1 true t477)))))) = some r := H
 have A2 := Aside0.mk A20; clear A20; replace H := Option.bind_eq_some_iff.mp H; obtain ⟨⟨t462, t463⟩, A30, H⟩ := H; replace H : ((trustquorummake_Trust.f k t459 t463 5 2).bind fun bt464 => ((trustquorummake_Messages.f k t459 bt464.2.2.2 5 8).bind fun bt473 => ((federated_View.f k t462 bt464.1 bt464.2.1 bt464.2.2.1 bt473.1).bind fun t477 => (if (t477.length : Int) = 10 then (if 0 ≤ t462 then (if t462 < (t477.length : Int) then (if ((rd_T54 t477 t462).f0 = true) then ((trustquorumref02_Same.f k ((rd_T54 t477 t462).f1.f0) ((rd_T54 t477 t462).f1.f1) ((rd_T54 t477 t462).f1.f2) bt464.1 bt464.2.1 bt464.2.2.1).bind fun t483 => (trustquorumlaw18_FederatedView.j0 k t462 bt473.1 (!t483) t477)) else (trustquorumlaw18_FederatedView.j0 k t462 bt473.1 true t477)) else (none)) else (none)) else (trustquorumlaw18_FederatedView.j0 k t462 bt473.1 true t477))))) = some r := H; have A3 := Aside0.mk A30; clear A30; replace H := Option.bind_eq_some_iff.mp H; obtain ⟨⟨t464, t465, t468, t471⟩, A40, H⟩ := H; replace H : ((trustquorummake_Messages.f k t459 t471 5 8).bind fun bt473 => ((federated_View.f k t462 t464 t465 t468 bt473.1).bind fun t477 => (if (t477.length : Int) = 10 then (if 0 ≤ t462 then (if t462 < (t477.length : Int) then (if ((rd_T54 t477 t462).f0 = true) then ((trustquorumref02_Same.f k ((rd_T54 t477 t462).f1.f0) ((rd_T54 t477 t462).f1.f1) ((rd_T54 t477 t462).f1.f2) t464 t465 t468).bind fun t483 => (trustquorumlaw18_FederatedView.j0 k t462 bt473.1 (!t483) t477)) else (trustquorumlaw18_FederatedView.j0 k t462 bt473.1 true t477)) else (none)) else (none)) else (trustquorumlaw18_FederatedView.j0 k t462 bt473.1 true t477)))) = some r := H
 have A4 := Aside0.mk A40; clear A40; replace H := Option.bind_eq_some_iff.mp H; obtain ⟨⟨t473, t476⟩, A50, H⟩ := H; replace H : ((federated_View.f k t462 t464 t465 t468 t473).bind fun t477 => (if (t477.length : Int) = 10 then (if 0 ≤ t462 then (if t462 < (t477.length : Int) then (if ((rd_T54 t477 t462).f0 = true) then ((trustquorumref02_Same.f k ((rd_T54 t477 t462).f1.f0) ((rd_T54 t477 t462).f1.f1) ((rd_T54 t477 t462).f1.f2) t464 t465 t468).bind fun t483 => (trustquorumlaw18_FederatedView.j0 k t462 t473 (!t483) t477)) else (trustquorumlaw18_FederatedView.j0 k t462 t473 true t477)) else (none)) else (none)) else (trustquorumlaw18_FederatedView.j0 k t462 t473 true t477))) = some r := H; have A5 := Aside0.mk A50; clear A50; replace H := Option.bind_eq_some_iff.mp H; obtain ⟨t477, A60, H⟩ := H; replace H : (if (t477.length : Int) = 10 then (if 0 ≤ t462 then (if t462 < (t477.length : Int) then (if ((rd_T54 t477 t462).f0 = true) then ((trustquorumref02_Same.f k ((rd_T54 t477 t462).f1.f0) ((rd_T54 t477 t462).f1.f1) ((rd_T54 t477 t462).f1.f2) t464 t465 t468).bind fun t483 => (trustquorumlaw18_FederatedView.j0 k t462 t473 (!t483) t477)) else (trustquorumlaw18_FederatedView.j0 k t462 t473 true t477)) else (none)) else (none)) else (trustquorumlaw18_FederatedView.j0 k t462 t473 true t477)) = some r := H; have A6 := Aside0.mk A60; clear A60; have HC7 := Aside0.mk H; clear H
 go_enter Try.func6, Try.ntmps6
 go_upto_region 5 with (first | ((with_reducible refine gate_callee (f := 8) rfl ?_); refine goesL_ (some 13) rfl rfl Try.func8 (by kernel_rfl) rfl #[.slice A0 l0.length c0] rfl (by (try simp only [List.map_toArray, List.map_cons, List.map_nil]); first | done | rfl | (simp only [List.length_drop, List.length_take]; rfl)) ?_; (with_reducible refine (trustquorummake_New.calls _ _ l0 t459 t460 w _ ?side1 ?side2 ?side3 A2.out).mono ?_); (case side1 => exact HB.out); (case side2 => exact HR0.out); (case side3 => exact HC0.out); rintro e w8 ⟨g461, rfl, hi, hb, hb2⟩; refine ⟨_, rfl, ?_⟩; replace HB := Aside0.mk (hb); have HI461 := Aside0.mk (hi); (try clear hb); (try clear hb2); (try clear hk); (try clear hi)) | ((with_reducible refine gate_callee (f := 10) rfl ?_); refine goesL_ (some 15) rfl rfl Try.func10 (by kernel_rfl) rfl #[.pointer (some ⟨g461, 0, none⟩), .int .i64 5] rfl (by (try simp only [List.map_toArray, List.map_cons, List.map_nil]); first | done | rfl | (simp only [List.length_drop, List.length_take]; rfl)) ?_; (with_reducible refine (trustquorummake_Tape_N.calls g461 t459 t460 5 t462 t463 w _ ?side1 ?side2 A3.out).mono ?_); (case side1 => exact HI461.out); (case side2 => exact HB.out); rintro e w9 ⟨rfl, hi, hb, hk⟩; refine ⟨_, rfl, ?_⟩; replace HB := Aside0.mk (hb); replace HI461 := Aside0.mk (hi); (try clear hb); (try clear hb2); (try clear hk); (try clear hi)) | ((with_reducible refine gate_callee (f := 22) rfl ?_); refine goesL_ (some 17) rfl rfl Try.func22 (by kernel_rfl) rfl #[.pointer (some ⟨g461, 0, none⟩), .int .i64 5, .int .i64 2] rfl (by (try simp only [List.map_toArray, List.map_cons, List.map_nil]); first | done | rfl | (simp only [List.length_drop, List.length_take]; rfl)) ?_; (with_reducible refine (trustquorummake_Trust.calls k g461 t459 t463 5 2 t464 t465 t468 t471 w _ ?side1 ?side2 A4.out).mono ?_); (case side1 => exact HI461.out); (case side2 => exact HB.out); rintro e w10 ⟨v466, v469, rfl, ho0, ho1, hi, hb, hk⟩; refine ⟨_, rfl, ?_⟩; have HO467 := Aside0.mk (Kd.R_lower ho0 (below_size HB.out)); have HO470 := Aside0.mk (Kd.N_lower (Kd.N_mono (ok' := fun k_ => some k_ ≠ (v466 : Value).ownBlock ∧ k_ ≠ g461) (Kd.R_N (Kd.R_bound ho1)) (fun k_ hk_ => ⟨hk_.1, (IsS78.fresh HI461.out k_ hk_.2.1)⟩)) (below_size HB.out)); replace HB := Aside0.mk (hb); replace HI461 := Aside0.mk (hi); (try clear hb); (try clear hb2); (try clear hk); (try clear hi); (try clear ho0); (try clear ho1)) | ((with_reducible refine gate_dst (N := 5) rfl ?_); refine box_event ?hg (N := 5) ?hd (cs := #[.int .i64 0, .slice none 0 0, .slice none 0 0]) (t := 48) ?hr ?_; (case hd => rfl); (case hg => rfl); (case hr => first | (go_simp; done) | (go_simp; rfl)); intro gb472 hg w11 hbox hb; replace HO467 := Aside0.mk (Kd.R_below HO467.out hb); replace HO470 := Aside0.mk (Kd.N_below (Kd.N_elderB HO470.out gb472 (Nat.le_of_eq hg.symm)) hb); have BK472 := Aside0.mk (hbox); have GW472 := Aside0.mk ((by rw [hg]; exact (below_size HB.out) : w.heap.size ≤ gb472)); have GE472 := Aside0.mk ((by rw [hg]; exact (below_size HB.out) : w.heap.size ≤ gb472)); replace HB := Aside0.mk (below_step HB.out hb); have NB461_472 := Aside0.mk ((by rw [hg]; exact Nat.ne_of_lt (IsS78.lt (show IsS78 w _ g461 t459 t471 from by exact HI461.out)) : g461 ≠ gb472)); have NB472_461 := Aside0.mk ((by rw [hg]; exact Nat.ne_of_gt (IsS78.lt (show IsS78 w _ g461 t459 t471 from by exact HI461.out)) : gb472 ≠ g461)); replace HI461 := Aside0.mk (IsS78.below HI461.out hb); clear hb hbox hg; have hnb12 := NB472_461.out; have hnc12 := NB461_472.out; obtain ⟨hcz13_0, hcz13_1, hcz13_2, hfz13_0, hfz13_1, hfz13_2⟩ := blkC3 BK472.out; obtain ⟨Ao14, co14, eo14⟩ := Kd.R_slice HO467.out; subst eo14; obtain ⟨Ao15, co15, eo15⟩ := Kd.N_slice HO470.out; subst eo15) | ((with_reducible refine gate_callee (f := 23) rfl ?_); refine goesL_ (some 19) rfl rfl Try.func23 (by kernel_rfl) rfl #[.pointer (some ⟨g461, 0, none⟩), .int .i64 5, .int .i64 8] rfl (by (try simp only [List.map_toArray, List.map_cons, List.map_nil]); first | done | rfl | (simp only [List.length_drop, List.length_take]; rfl)) ?_; (with_reducible refine (trustquorummake_Messages.calls k g461 t459 t471 5 8 t473 t476 w _ ?side1 ?side2 A5.out).mono ?_); (case side1 => repeat (first | (with_reducible first | exact HI461.out | apply IsS78.alloc | apply IsS78.drewN | apply IsS78.drew | apply IsS78.set_1 | refine IsS78.far ?_ NB461_472.out _) | exact HI461.out)); (case side2 => repeat (first | (with_reducible first | exact HB.out | apply below_alloc | apply pw_below_drewN | apply below_drew1 | refine below_set ?_ (IsS78.ge HI461.out) | refine below_set ?_ GE472.out) | exact HB.out)); rintro e w16 ⟨v474, rfl, ho0, hi, hb, hk⟩; refine ⟨_, rfl, ?_⟩; have HO475 := Aside0.mk (Kd.N_lower (Kd.N_mono (ok' := fun k_ => some k_ ≠ (.slice Ao14 t465.length co14 : Value).ownBlock ∧ some k_ ≠ (.slice Ao15 t468.length co15 : Value).ownBlock ∧ k_ ≠ gb472 ∧ k_ ≠ g461) (Kd.R_N (Kd.R_bound ho0)) (fun k_ hk_ => ⟨(Kd.fresh' (Kd.R_lt (by (with_reducible repeat (first | apply Kd.R_alloc | apply Kd.R_drewN | apply Kd.R_drew)); exact (Kd.R_mono (Kd.R_far (p := ⟨gb472, 2, none⟩) (Kd.R_far (p := ⟨gb472, 1, none⟩) (Kd.R_far (p := ⟨gb472, 0, none⟩) (Kd.R_types HO467.out BK472.out (by decide)) (fun _ hk => hk.2) (.int .i64 t464)) (fun _ hk => hk.2) (.slice Ao14 t465.length co14)) (fun _ hk => hk.2) (.slice Ao15 t468.length co15)) (fun _ h_ => h_.1)))) k_ hk_.2.1), (Kd.fresh' (Kd.N_lt (by (with_reducible repeat (first | apply Kd.N_alloc | apply Kd.N_drewN | apply Kd.N_drew)); exact (Kd.N_mono (Kd.N_far (p := ⟨gb472, 2, none⟩) (Kd.N_far (p := ⟨gb472, 1, none⟩) (Kd.N_far (p := ⟨gb472, 0, none⟩) (Kd.N_mono HO470.out (fun k_ hk => (⟨hk, hk.2⟩ : _ ∧ k_ ≠ gb472))) (fun _ hk => hk.2) (.int .i64 t464)) (fun _ hk => hk.2) (.slice Ao14 t465.length co14)) (fun _ hk => hk.2) (.slice Ao15 t468.length co15)) (fun _ h_ => h_.1)))) k_ hk_.2.1), (Kd.freshB (g := gb472) (o := .cells #[.int .i64 t464, .slice Ao14 t465.length co14, .slice Ao15 t468.length co15] 48 (0, 0)) (by (with_reducible repeat (first | refine blk_drewN ?_ _ | refine blk_drew ?_ | refine blk_alloc ?_ _)); refine blk_put (cs := #[.int .i64 t464, .slice Ao14 t465.length co14, .slice none 0 0]) ?_ 2 _ rfl; (with_reducible repeat (first | refine blk_drewN ?_ _ | refine blk_drew ?_ | refine blk_alloc ?_ _)); refine blk_put (cs := #[.int .i64 t464, .slice none 0 0, .slice none 0 0]) ?_ 1 _ rfl; (with_reducible repeat (first | refine blk_drewN ?_ _ | refine blk_drew ?_ | refine blk_alloc ?_ _)); refine blk_put (cs := #[.int .i64 0, .slice none 0 0, .slice none 0 0]) ?_ 0 _ rfl; (with_reducible repeat (first | refine blk_drewN ?_ _ | refine blk_drew ?_ | refine blk_alloc ?_ _)); exact BK472.out) k_ hk_.2.1), (IsS78.fresh (by repeat (first | (with_reducible first | exact HI461.out | apply IsS78.alloc | apply IsS78.drewN | apply IsS78.drew | apply IsS78.set_1 | refine IsS78.far ?_ NB461_472.out _) | exact HI461.out)) k_ hk_.2.1)⟩)) (below_size (by repeat (first | (with_reducible first | exact HB.out | apply below_alloc | apply pw_below_drewN | apply below_drew1 | refine below_set ?_ (IsS78.ge HI461.out) | refine below_set ?_ GE472.out) | exact HB.out)))); replace HO467 := Aside0.mk (Kd.R_mono (Kd.R_keep (IsS78.apart (show IsS78 w _ g461 t459 t471 from by repeat (first | (with_reducible first | exact HI461.out | apply IsS78.alloc | apply IsS78.drewN | apply IsS78.drew | apply IsS78.set_1 | refine IsS78.far ?_ NB461_472.out _) | exact HI461.out)) (by (with_reducible repeat (first | apply Kd.R_alloc | apply Kd.R_drewN | apply Kd.R_drew)); exact (Kd.R_mono (Kd.R_far (p := ⟨gb472, 2, none⟩) (Kd.R_far (p := ⟨gb472, 1, none⟩) (Kd.R_far (p := ⟨gb472, 0, none⟩) (Kd.R_types HO467.out BK472.out (by decide)) (fun _ hk => hk.2) (.int .i64 t464)) (fun _ hk => hk.2) (.slice Ao14 t465.length co14)) (fun _ hk => hk.2) (.slice Ao15 t468.length co15)) (fun _ h_ => h_.1))) (by decide)) hk (fun _ h => h.2)) (fun _ h => h.1)); replace HO470 := Aside0.mk (Kd.N_mono (Kd.N_told (Kd.N_oldK (Kd.N_mono (ok := fun k_ => ((some k_ ≠ (.slice Ao14 t465.length co14 : Value).ownBlock ∧ k_ ≠ g461) ∧ k_ ≠ gb472)) (by (with_reducible repeat (first | apply Kd.N_alloc | apply Kd.N_drewN | apply Kd.N_drew)); exact (Kd.N_mono (Kd.N_far (p := ⟨gb472, 2, none⟩) (Kd.N_far (p := ⟨gb472, 1, none⟩) (Kd.N_far (p := ⟨gb472, 0, none⟩) (Kd.N_mono HO470.out (fun k_ hk => (⟨hk, hk.2⟩ : _ ∧ k_ ≠ gb472))) (fun _ hk => hk.2) (.int .i64 t464)) (fun _ hk => hk.2) (.slice Ao14 t465.length co14)) (fun _ hk => hk.2) (.slice Ao15 t468.length co15)) (fun _ h_ => h_.1))) (fun k_ hk_ => (⟨hk_, hk_.1.2⟩ : _ ∧ k_ ≠ g461))) hk) (by first | exact Kd.N_base ho0 | exact Kd.R_base ho0)) (fun _ h_ => h_.1)); replace BK472 := Aside0.mk (KeepBut.blk hk (g' := gb472) (o := .cells #[.int .i64 t464, .slice Ao14 t465.length co14, .slice Ao15 t468.length co15] 48 (0, 0)) (by (with_reducible repeat (first | refine blk_drewN ?_ _ | refine blk_drew ?_ | refine blk_alloc ?_ _)); refine blk_put (cs := #[.int .i64 t464, .slice Ao14 t465.length co14, .slice none 0 0]) ?_ 2 _ rfl; (with_reducible repeat (first | refine blk_drewN ?_ _ | refine blk_drew ?_ | refine blk_alloc ?_ _)); refine blk_put (cs := #[.int .i64 t464, .slice none 0 0, .slice none 0 0]) ?_ 1 _ rfl; (with_reducible repeat (first | refine blk_drewN ?_ _ | refine blk_drew ?_ | refine blk_alloc ?_ _)); refine blk_put (cs := #[.int .i64 0, .slice none 0 0, .slice none 0 0]) ?_ 0 _ rfl; (with_reducible repeat (first | refine blk_drewN ?_ _ | refine blk_drew ?_ | refine blk_alloc ?_ _)); exact BK472.out) NB472_461.out (by simp)); replace HB := Aside0.mk (hb); replace HI461 := Aside0.mk (hi); (try clear hb); (try clear hb2); (try clear hk); (try clear hi); (try clear ho0); obtain ⟨hcz17_0, hcz17_1, hcz17_2, hfz17_0, hfz17_1, hfz17_2⟩ := blkC3 BK472.out; obtain ⟨Ao18, co18, eo18⟩ := Kd.N_slice HO475.out; subst eo18) | ((with_reducible refine gate_callee (f := 24) rfl ?_); refine goesL_ (some 23) rfl rfl Try.func24 (by kernel_rfl) rfl #[.int .i64 t462, .agg #[.int .i64 t464, .slice Ao14 t465.length co14, .slice Ao15 t468.length co15], .slice Ao18 t473.length co18] rfl (by (try simp only [List.map_toArray, List.map_cons, List.map_nil]); first | done | rfl | (simp only [List.length_drop, List.length_take]; rfl)) ?_; (with_reducible refine (federated_View.calls k t462 t464 _ _ t465 _ _ t468 _ _ t473 t477 _ ?side1 ?side2 ?side3 ?side4 ?side5 ?side6 A6.out).mono ?_); (case side1 => exact (Kd.R_reads' HO467.out).2.2); (case side2 => exact (Kd.R_reads' HO467.out).2.1); (case side3 => exact (Kd.N_reads' HO470.out).2.2); (case side4 => exact (Kd.N_reads' HO470.out).2.1); (case side5 => exact (Kd.N_reads' HO475.out).2.2); (case side6 => exact (Kd.N_reads' HO475.out).2.1); rintro e w19 ⟨v478, rfl, ho0, hb⟩; refine ⟨_, rfl, ?_⟩; have HO479 := Aside0.mk (Kd.N_lower (Kd.N_mono (ok' := fun k_ => some k_ ≠ (.slice Ao14 t465.length co14 : Value).ownBlock ∧ some k_ ≠ (.slice Ao15 t468.length co15 : Value).ownBlock ∧ some k_ ≠ (.slice Ao18 t473.length co18 : Value).ownBlock ∧ k_ ≠ gb472 ∧ k_ ≠ g461) ho0 (fun k_ hk_ => ⟨(Kd.fresh' (Kd.R_lt HO467.out) k_ hk_), (Kd.fresh' (Kd.N_lt HO470.out) k_ hk_), (Kd.fresh' (Kd.N_lt HO475.out) k_ hk_), (Kd.freshB BK472.out k_ hk_), (IsS78.fresh HI461.out k_ hk_)⟩)) (below_size HB.out)); replace HO467 := Aside0.mk (Kd.R_below HO467.out hb); replace HO470 := Aside0.mk (Kd.N_elder' HO470.out (Kd.N_base ho0) hb); replace HO475 := Aside0.mk (Kd.N_elder' HO475.out (Kd.N_base ho0) hb); replace HI461 := Aside0.mk (IsS78.below HI461.out hb); replace BK472 := Aside0.mk (blk_below BK472.out hb); replace HB := Aside0.mk (below_step HB.out hb); (try clear hb); (try clear hb2); (try clear hk); (try clear hi); (try clear ho0)) | ((with_reducible refine gate_dst (N := 7) rfl ?_); refine box_event ?hg (N := 7) ?hd (cs := #[.slice none 0 0]) (t := 27) ?hr ?_; (case hd => rfl); (case hg => rfl); (case hr => first | (go_simp; done) | (go_simp; rfl)); intro gb480 hg w20 hbox hb; replace HO467 := Aside0.mk (Kd.R_below HO467.out hb); replace HO470 := Aside0.mk (Kd.N_below (Kd.N_elderB HO470.out gb480 (Nat.le_of_eq hg.symm)) hb); replace HO475 := Aside0.mk (Kd.N_below (Kd.N_elderB HO475.out gb480 (Nat.le_of_eq hg.symm)) hb); replace HO479 := Aside0.mk (Kd.N_below (Kd.N_elderB HO479.out gb480 (Nat.le_of_eq hg.symm)) hb); have BK480 := Aside0.mk (hbox); have GW480 := Aside0.mk ((by rw [hg]; exact (below_size HB.out) : w.heap.size ≤ gb480)); have GE480 := Aside0.mk ((by rw [hg]; exact (below_size HB.out) : w.heap.size ≤ gb480)); replace HB := Aside0.mk (below_step HB.out hb); have NB472_480 := Aside0.mk ((by rw [hg]; exact Nat.ne_of_lt (blk_lt BK472.out) : gb472 ≠ gb480)); have NB480_472 := Aside0.mk ((by rw [hg]; exact Nat.ne_of_gt (blk_lt BK472.out) : gb480 ≠ gb472)); replace BK472 := Aside0.mk (blk_below BK472.out hb); have NB461_480 := Aside0.mk ((by rw [hg]; exact Nat.ne_of_lt (IsS78.lt (show IsS78 w _ g461 t459 t476 from by exact HI461.out)) : g461 ≠ gb480)); have NB480_461 := Aside0.mk ((by rw [hg]; exact Nat.ne_of_gt (IsS78.lt (show IsS78 w _ g461 t459 t476 from by exact HI461.out)) : gb480 ≠ g461)); replace HI461 := Aside0.mk (IsS78.below HI461.out hb); clear hb hbox hg; obtain ⟨Ao21, co21, eo21⟩ := Kd.N_slice HO479.out; subst eo21; have hnb22 := NB480_472.out; have hnc22 := NB472_480.out; have hnb23 := NB480_461.out; have hnc23 := NB461_480.out; obtain ⟨hcz24_0, hfz24_0⟩ := blkC1 BK480.out))
 (try simp only [Act.put, List.setIfInBounds_toArray, List.set_cons_zero, List.set_cons_succ])
 go_cut [47] (fun v47 wc => ∃ (kq : Nat) (x47_6 : Bool), v47 = .bool x47_6 ∧ Aside0 (trustquorumlaw18_FederatedView.j0 kq t462 t473 x47_6 t477 = some r) ∧ Aside0 (kq ≤ k) ∧ Aside0 (Kd.N k58 58 wc w.heap.size (fun k_ => some k_ ≠ ((.slice Ao14 t465.length co14) : Value).ownBlock ∧ some k_ ≠ ((.slice Ao15 t468.length co15) : Value).ownBlock ∧ some k_ ≠ ((.slice Ao21 t477.length co21) : Value).ownBlock ∧ k_ ≠ gb472 ∧ k_ ≠ gb480) (.slice Ao18 t473.length co18) t473) ∧ Aside0 (Kd.R (Kd.int .i64) 3 wc w.heap.size (fun _ => True) (.slice Ao14 t465.length co14) t465) ∧ Aside0 (Kd.N k48 48 wc w.heap.size (fun k_ => some k_ ≠ ((.slice Ao18 t473.length co18) : Value).ownBlock ∧ some k_ ≠ ((.slice Ao14 t465.length co14) : Value).ownBlock ∧ some k_ ≠ ((.slice Ao21 t477.length co21) : Value).ownBlock ∧ k_ ≠ gb472 ∧ k_ ≠ gb480) (.slice Ao15 t468.length co15) t468) ∧ Aside0 (Kd.N k54 54 wc w.heap.size (fun k_ => some k_ ≠ ((.slice Ao18 t473.length co18) : Value).ownBlock ∧ some k_ ≠ ((.slice Ao14 t465.length co14) : Value).ownBlock ∧ some k_ ≠ ((.slice Ao15 t468.length co15) : Value).ownBlock ∧ k_ ≠ gb472 ∧ k_ ≠ gb480) (.slice Ao21 t477.length co21) t477) ∧ Aside0 (wc.heap[gb472]? = some (.cells #[.int .i64 t464, (.slice Ao14 t465.length co14), (.slice Ao15 t468.length co15)] 48 (0, 0))) ∧ Aside0 (wc.heap[gb480]? = some (.cells #[(.slice Ao21 t477.length co21)] 27 (0, 0))) ∧ Aside0 (Below w.heap.size w wc))
 case first =>
  have H := HC7.out; clear HC7
  by_cases c25 : (t477.length : Int) = 10
  ·
   rw [if_pos c25] at H; have c25b0 : ((t477.length : Int) == 10) = true := beq_iff_eq.mpr c25; have c25b1 : ((t477.length : Int) != 10) = false := bne_eq_false_iff_eq.mpr c25; clear c25; (first | rw [c25b0] | (simp only [i64_w, i32_w]; rw [c25b0]) | skip)
   by_cases c26 : 0 ≤ t462
   ·
    rw [if_pos c26] at H; have c26b0 : decide (0 ≤ t462) = true := decide_eq_true c26; clear c26
    by_cases c27 : t462 < (t477.length : Int)
    ·
     rw [if_pos c27] at H; have c27b0 : decide (t462 < (t477.length : Int)) = true := decide_eq_true c27; clear c27; obtain ⟨bq28, hbq28⟩ : ∃ b_ : Bool, b_ = ((rd_T54 t477 t462).f0) := ⟨_, rfl⟩; replace H : (if (bq28 = true) then ((trustquorumref02_Same.f k ((rd_T54 t477 t462).f1.f0) ((rd_T54 t477 t462).f1.f1) ((rd_T54 t477 t462).f1.f2) t464 t465 t468).bind fun t483 => (trustquorumlaw18_FederatedView.j0 k t462 t473 (!t483) t477)) else (trustquorumlaw18_FederatedView.j0 k t462 t473 true t477)) = some r := by rw [← hbq28] at H; exact H
     have Nbq28 := Aside0.mk hbq28; clear hbq28
     by_cases c29 : (bq28 = true)
     ·
      subst c29; have H1 : ((trustquorumref02_Same.f k ((rd_T54 t477 t462).f1.f0) ((rd_T54 t477 t462).f1.f1) ((rd_T54 t477 t462).f1.f2) t464 t465 t468).bind fun t483 => (trustquorumlaw18_FederatedView.j0 k t462 t473 (!t483) t477)) = some r := by rw [if_pos rfl] at H; exact H
      clear H; have H := H1; clear H1; replace H := Option.bind_eq_some_iff.mp H; obtain ⟨t483, A300, H⟩ := H; replace H : (trustquorumlaw18_FederatedView.j0 k t462 t473 (!t483) t477) = some r := H; have A30 := Aside0.mk A300; clear A300; have H' := Aside0.mk H; clear H
      try go_wp2
      have n0_ : Aside0 (Kd.R (Kd.int .i64) 3 (w20.setCell ⟨gb480, 0, none⟩ (.slice Ao21 t477.length co21)) w.heap.size (fun _ => True) (.slice Ao14 t465.length co14) t465) := ⟨by (with_reducible repeat (first | apply Kd.R_alloc | apply Kd.R_drewN | apply Kd.R_drew)); exact Kd.R_mono (Kd.R_far (p := ⟨gb480, 0, none⟩) (Kd.R_types HO467.out BK480.out (by decide)) (fun _ hk => hk.2) (.slice Ao21 t477.length co21)) (fun _ hk => trivial)⟩
      have n1_ : Aside0 (Kd.N k48 48 (w20.setCell ⟨gb480, 0, none⟩ (.slice Ao21 t477.length co21)) w.heap.size (fun k_ => some k_ ≠ (.slice Ao14 t465.length co14 : Value).ownBlock ∧ some k_ ≠ (.slice Ao18 t473.length co18 : Value).ownBlock ∧ some k_ ≠ (.slice Ao21 t477.length co21 : Value).ownBlock ∧ k_ ≠ g461 ∧ k_ ≠ gb472 ∧ k_ ≠ gb480) (.slice Ao15 t468.length co15) t468) := ⟨by (with_reducible repeat (first | apply Kd.N_alloc | apply Kd.N_drewN | apply Kd.N_drew)); exact Kd.N_mono (Kd.N_far (p := ⟨gb480, 0, none⟩) (Kd.N_mono HO470.out (fun k_ hk => (⟨hk, hk.2⟩ : _ ∧ k_ ≠ gb480))) (fun _ hk => hk.2) (.slice Ao21 t477.length co21)) (fun _ hk => ⟨hk.1.1.1.1.1.1, ⟨hk.1.1.1.2, ⟨hk.1.1.2, ⟨hk.1.1.1.1.1.2, ⟨hk.1.1.1.1.2, hk.1.2⟩⟩⟩⟩⟩)⟩
      have n2_ : Aside0 (Kd.N k58 58 (w20.setCell ⟨gb480, 0, none⟩ (.slice Ao21 t477.length co21)) w.heap.size (fun k_ => some k_ ≠ (.slice Ao14 t465.length co14 : Value).ownBlock ∧ some k_ ≠ (.slice Ao15 t468.length co15 : Value).ownBlock ∧ some k_ ≠ (.slice Ao21 t477.length co21 : Value).ownBlock ∧ k_ ≠ gb472 ∧ k_ ≠ g461 ∧ k_ ≠ gb480) (.slice Ao18 t473.length co18) t473) := ⟨by (with_reducible repeat (first | apply Kd.N_alloc | apply Kd.N_drewN | apply Kd.N_drew)); exact Kd.N_mono (Kd.N_far (p := ⟨gb480, 0, none⟩) (Kd.N_mono HO475.out (fun k_ hk => (⟨hk, hk.2⟩ : _ ∧ k_ ≠ gb480))) (fun _ hk => hk.2) (.slice Ao21 t477.length co21)) (fun _ hk => ⟨hk.1.1.1.1, ⟨hk.1.1.1.2.1, ⟨hk.1.1.2, ⟨hk.1.1.1.2.2.1, ⟨hk.1.1.1.2.2.2, hk.1.2⟩⟩⟩⟩⟩)⟩
      have n3_ : Aside0 (Kd.N k54 54 (w20.setCell ⟨gb480, 0, none⟩ (.slice Ao21 t477.length co21)) w.heap.size (fun k_ => some k_ ≠ (.slice Ao14 t465.length co14 : Value).ownBlock ∧ some k_ ≠ (.slice Ao15 t468.length co15 : Value).ownBlock ∧ some k_ ≠ (.slice Ao18 t473.length co18 : Value).ownBlock ∧ k_ ≠ gb472 ∧ k_ ≠ g461 ∧ k_ ≠ gb480) (.slice Ao21 t477.length co21) t477) := ⟨by (with_reducible repeat (first | apply Kd.N_alloc | apply Kd.N_drewN | apply Kd.N_drew)); exact Kd.N_mono (Kd.N_far (p := ⟨gb480, 0, none⟩) (Kd.N_mono HO479.out (fun k_ hk => (⟨hk, hk.2⟩ : _ ∧ k_ ≠ gb480))) (fun _ hk => hk.2) (.slice Ao21 t477.length co21)) (fun _ hk => ⟨hk.1.1.1, ⟨hk.1.1.2.1, ⟨hk.1.1.2.2.1, ⟨hk.1.1.2.2.2.1, ⟨hk.1.1.2.2.2.2, hk.1.2⟩⟩⟩⟩⟩)⟩
      have n4_ : Aside0 ((w20.setCell ⟨gb480, 0, none⟩ (.slice Ao21 t477.length co21)).heap[gb472]? = some (.cells #[.int .i64 t464, .slice Ao14 t465.length co14, .slice Ao15 t468.length co15] 48 (0, 0))) := ⟨by (with_reducible repeat (first | refine blk_drewN ?_ _ | refine blk_drew ?_ | refine blk_alloc ?_ _)); refine blk_far ?_ NB472_480.out _; (with_reducible repeat (first | refine blk_drewN ?_ _ | refine blk_drew ?_ | refine blk_alloc ?_ _)); exact BK472.out⟩
      have n5_ : Aside0 ((w20.setCell ⟨gb480, 0, none⟩ (.slice Ao21 t477.length co21)).heap[gb480]? = some (.cells #[.slice Ao21 t477.length co21] 27 (0, 0))) := ⟨by (with_reducible repeat (first | refine blk_drewN ?_ _ | refine blk_drew ?_ | refine blk_alloc ?_ _)); refine blk_put (cs := #[.slice none 0 0]) ?_ 0 _ (by first | rfl | ((try rw [← Nbq28.out]); rfl)); (with_reducible repeat (first | refine blk_drewN ?_ _ | refine blk_drew ?_ | refine blk_alloc ?_ _)); exact BK480.out⟩
      have n6_ : Aside0 (IsS78 w (w20.setCell ⟨gb480, 0, none⟩ (.slice Ao21 t477.length co21)) g461 t459 t476) := ⟨by repeat (first | (with_reducible first | exact HI461.out | apply IsS78.alloc | apply IsS78.drewN | apply IsS78.drew | apply IsS78.set_1 | refine IsS78.far ?_ NB461_472.out _ | refine IsS78.far ?_ NB461_480.out _) | exact HI461.out)⟩; have n7_ : Aside0 (Below w.heap.size w (w20.setCell ⟨gb480, 0, none⟩ (.slice Ao21 t477.length co21))) := ⟨by repeat (first | (with_reducible first | exact HB.out | apply below_alloc | apply pw_below_drewN | apply below_drew1 | refine below_set ?_ (IsS78.ge HI461.out) | refine below_set ?_ GE472.out | refine below_set ?_ GE480.out) | exact HB.out)⟩; (try clear HO467); (try clear HO470); (try clear HO475); (try clear HO479); (try clear BK472); (try clear BK480); (try clear HI461); (try clear HB); generalize (w20.setCell ⟨gb480, 0, none⟩ (.slice Ao21 t477.length co21)) = w31 at n0_ n1_ n2_ n3_ n4_ n5_ n6_ n7_ ⊢; have HO467 := n0_; have HO470 := n1_; have HO475 := n2_; have HO479 := n3_; have BK472 := n4_; have BK480 := n5_; have HI461 := n6_; have HB := n7_; clear n0_ n1_ n2_ n3_ n4_ n5_ n6_ n7_; replace HO467 := Aside0.mk (Kd.R_drew HO467.out); replace HO470 := Aside0.mk (Kd.N_drew HO470.out); replace HO475 := Aside0.mk (Kd.N_drew HO475.out); replace HO479 := Aside0.mk (Kd.N_drew HO479.out); replace BK472 := Aside0.mk (blk_drew BK472.out); replace BK480 := Aside0.mk (blk_drew BK480.out); replace HI461 := Aside0.mk (IsS78.drew HI461.out); replace HB := Aside0.mk (below_drew1 HB.out)
      have p481 : 0 ≤ (t462 : Int) := of_decide_eq_true (by first | (with_reducible assumption) | assumption); have q481 : t462 < (t477.length : Int) := of_decide_eq_true (by first | (with_reducible assumption) | assumption); obtain ⟨ad481, A481_2, c481_2, A481_3, c481_3, e481, hx481_0, hx481_1, hx481_2, hx481_3, hl481_2, hi481_2, hl481_3, hi481_3⟩ := at_T54 (Kd.N_reads' HO479.out).2.2 t462 p481 q481; (try rw [← Nbq28.out] at hx481_0)
      cases e481
      obtain ⟨ce481, hce481, hMe481, hcc481⟩ := Kd.N_get HO479.out z54 t462 p481 (by first | exact q481 | exact of_decide_eq_true (by first | (with_reducible assumption) | assumption) | (have e_ := (Kd.N_reads' HO479.out).1; omega)); obtain ⟨ua481_2, uc481_2, ua481_3, uc481_3, rfl, ul481_2, ge481_2, ul481_3, ge481_3⟩ := k54_openF hMe481; have hv481_2 := hcc481 2 _ rfl; rw [add_field _ _ 2 (by omega)] at hv481_2; replace hv481_2 := Option.some.inj (hv481_2.symm.trans hx481_2); injection hv481_2 with hva_ hvn_ hvc_
      rw [hva_] at ge481_2; rw [hvc_] at ul481_2; have HL481_2 := Aside0.mk (show Kd.V (Kd.int .i64) 3 _ w.heap.size _ _ ((rd_T54 t477 t462).f1.f1) from Kd.V_mk ul481_2 ge481_2); clear hva_ hvn_ hvc_ ge481_2 ul481_2; have hv481_3 := hcc481 3 _ rfl; rw [add_field _ _ 3 (by omega)] at hv481_3; replace hv481_3 := Option.some.inj (hv481_3.symm.trans hx481_3); injection hv481_3 with hva_ hvn_ hvc_
      rw [hva_] at ge481_3; rw [hvc_] at ul481_3; have HL481_3 := Aside0.mk (show Kd.V k48 48 _ w.heap.size _ _ ((rd_T54 t477 t462).f1.f2) from Kd.V_mk ul481_3 ge481_3); clear hva_ hvn_ hvc_ ge481_3 ul481_3; clear hcc481 hce481; have HR481_2 := Aside0.mk hi481_2; have HC481_2 := Aside0.mk hl481_2; clear hi481_2 hl481_2; have HR481_3 := Aside0.mk hi481_3; have HC481_3 := Aside0.mk hl481_3; clear hi481_3 hl481_3; replace p481 := eq_true p481; replace q481 := eq_true q481; have p482 : 0 ≤ (t462 : Int) := of_decide_eq_true (by first | (with_reducible assumption) | assumption); have q482 : t462 < (t477.length : Int) := of_decide_eq_true (by first | (with_reducible assumption) | assumption); obtain ⟨ad482, A482_2, c482_2, A482_3, c482_3, e482, hx482_0, hx482_1, hx482_2, hx482_3, hl482_2, hi482_2, hl482_3, hi482_3⟩ := at_T54 (Kd.N_reads' HO479.out).2.2 t462 p482 q482; (try rw [← Nbq28.out] at hx482_0); obtain rfl : ad481 = ad482 := (by injection e482); obtain ⟨ce482, hce482, hMe482, hcc482⟩ := Kd.N_get HO479.out z54 t462 p482 (by first | exact q482 | exact of_decide_eq_true (by first | (with_reducible assumption) | assumption) | (have e_ := (Kd.N_reads' HO479.out).1; omega)); obtain ⟨ua482_2, uc482_2, ua482_3, uc482_3, rfl, ul482_2, ge482_2, ul482_3, ge482_3⟩ := k54_openF hMe482; have hv482_2 := hcc482 2 _ rfl; rw [add_field _ _ 2 (by omega)] at hv482_2; replace hv482_2 := Option.some.inj (hv482_2.symm.trans hx482_2); injection hv482_2 with hva_ hvn_ hvc_
      rw [hva_] at ge482_2; rw [hvc_] at ul482_2; have HL482_2 := Aside0.mk (show Kd.V (Kd.int .i64) 3 _ w.heap.size _ _ ((rd_T54 t477 t462).f1.f1) from Kd.V_mk ul482_2 ge482_2); clear hva_ hvn_ hvc_ ge482_2 ul482_2; have hv482_3 := hcc482 3 _ rfl; rw [add_field _ _ 3 (by omega)] at hv482_3; replace hv482_3 := Option.some.inj (hv482_3.symm.trans hx482_3); injection hv482_3 with hva_ hvn_ hvc_
      rw [hva_] at ge482_3; rw [hvc_] at ul482_3; have HL482_3 := Aside0.mk (show Kd.V k48 48 _ w.heap.size _ _ ((rd_T54 t477 t462).f1.f2) from Kd.V_mk ul482_3 ge482_3); clear hva_ hvn_ hvc_ ge482_3 ul482_3; clear hcc482 hce482; have HR482_2 := Aside0.mk hi482_2; have HC482_2 := Aside0.mk hl482_2; clear hi482_2 hl482_2; have HR482_3 := Aside0.mk hi482_3; have HC482_3 := Aside0.mk hl482_3; clear hi482_3 hl482_3; replace p482 := eq_true p482; replace q482 := eq_true q482; have ea_ := Option.some.inj (hx481_2.symm.trans hx482_2); injection ea_ with ea_ en_ ec_
      subst ea_; subst ec_; clear en_; have ea_ := Option.some.inj (hx481_3.symm.trans hx482_3); injection ea_ with ea_ en_ ec_
      subst ea_; subst ec_; clear en_; refine start_ (n := 24) (S := fun w' => w'.cell? ⟨gb480, 0, none⟩ = some (.slice (some ad481) t477.length co21) ∧ w'.cell? ⟨gb472, 0, none⟩ = some (.int .i64 t464) ∧ w'.cell? ⟨gb472, 1, none⟩ = some (.slice Ao14 t465.length co14) ∧ w'.cell? ⟨gb472, 2, none⟩ = some (.slice Ao15 t468.length co15) ∧ w'.cell? (ad481.add ((t462).toNat * 4)) = some (.bool true) ∧ w'.cell? ⟨(ad481.add ((t462).toNat * 4)).block, (ad481.add ((t462).toNat * 4)).off + 1, none⟩ = some (.int .i64 ((rd_T54 t477 t462).f1.f0)) ∧ w'.cell? ⟨(ad481.add ((t462).toNat * 4)).block, (ad481.add ((t462).toNat * 4)).off + 2, none⟩ = some (.slice A481_2 ((rd_T54 t477 t462).f1.f1).length c481_2) ∧ w'.cell? ⟨(ad481.add ((t462).toNat * 4)).block, (ad481.add ((t462).toNat * 4)).off + 3, none⟩ = some (.slice A481_3 ((rd_T54 t477 t462).f1.f2).length c481_3) ∧ w'.cell? (ad481.add ((t462).toNat * 4)) = some (.bool (true)) ∧ w'.cell? ⟨(ad481.add ((t462).toNat * 4)).block, (ad481.add ((t462).toNat * 4)).off + 1, none⟩ = some (.int .i64 ((rd_T54 t477 t462).f1.f0)) ∧ w'.cell? ⟨(ad481.add ((t462).toNat * 4)).block, (ad481.add ((t462).toNat * 4)).off + 2, none⟩ = some (.slice A481_2 ((rd_T54 t477 t462).f1.f1).length c481_2) ∧ w'.cell? ⟨(ad481.add ((t462).toNat * 4)).block, (ad481.add ((t462).toNat * 4)).off + 3, none⟩ = some (.slice A481_3 ((rd_T54 t477 t462).f1.f2).length c481_3)) (ds := []) #[false, false, false, false, false, false, false, false, false, false, false, false, false, false, false, false, false, false, false, false, false, false, false, false] (by kernel_rfl) rfl rfl ⟨(blk_cell BK480.out 0).trans rfl, (blk_cell BK472.out 0).trans rfl, (blk_cell BK472.out 1).trans rfl, (blk_cell BK472.out 2).trans rfl, hx481_0, hx481_1, hx481_2, hx481_3, hx482_0, hx482_1, hx482_2, hx482_3⟩ (fun hHeld => ?_); refine with_tabW trustquorumlaw18_FederatedView.tab5 trustquorumlaw18_FederatedView.bits5 (fun HT_ HW_ => ?_)
      generalize w31.drew = w32 at HO467 HO470 HO475 HO479 BK472 BK480 HI461 HB HL481_2 HL481_3 HL482_2 HL482_3 HO467 HO470 HO475 HO479 HR481_2 HR481_3 HR482_2 HR482_3 hx481_0 hx481_1 hx481_2 hx481_3 hx482_0 hx482_1 hx482_2 hx482_3 hHeld ⊢; refine pure_ (i := 0) (N := some 24) (v := ?_) (a' := ?_) #[true, false, false, false, false, false, false, false, false, false, false, false, false, false, false, false, false, false, false, false, false, false, false, false] rfl rfl (any_of HT_.out (by kernel_rfl)) (fun _ _ _ h => h) (Or.inl ⟨by rfl, ?_⟩) ?_ ?_; rotate_left
      ·
       intro w'; go_simp
       with_reducible rfl
      rotate_left
      ·
       simp only [Act.put, List.setIfInBounds_toArray, List.set_cons_zero, List.set_cons_succ, i64_w, i32_w]; rfl
      refine take_ (i := 1) (N := some 25) (v := ?_) (a' := ?_) #[true, true, false, false, false, false, false, false, false, false, false, false, false, false, false, false, false, false, false, false, false, false, false, false] rfl rfl (take_ofW HT_.out HW_.out (by kernel_rfl)) (fun _ _ _ h => h) (Or.inl ⟨by rfl, ?_⟩) hHeld ?_ ?_; rotate_left
      ·
       rintro w' ⟨s0, s1, s2, s3, s4, s5, s6, s7, s8, s9, s10, s11⟩; go_simp
       with_reducible rfl
      rotate_left
      ·
       simp only [Act.put, List.setIfInBounds_toArray, List.set_cons_zero, List.set_cons_succ, i64_w, i32_w]; rfl
      refine pure_ (i := 2) (N := some 26) (v := ?_) (a' := ?_) #[true, true, true, false, false, false, false, false, false, false, false, false, false, false, false, false, false, false, false, false, false, false, false, false] rfl rfl (any_of HT_.out (by kernel_rfl)) (fun _ _ _ h => h) (Or.inl ⟨by rfl, ?_⟩) ?_ ?_; rotate_left
      ·
       intro w'; go_simp
       with_reducible rfl
      rotate_left
      ·
       simp only [Act.put, List.setIfInBounds_toArray, List.set_cons_zero, List.set_cons_succ, i64_w, i32_w]; rfl
      refine pure_ (i := 3) (N := some 27) (v := ?_) (a' := ?_) #[true, true, true, true, false, false, false, false, false, false, false, false, false, false, false, false, false, false, false, false, false, false, false, false] rfl rfl (any_of HT_.out (by kernel_rfl)) (fun _ _ _ h => h) (Or.inl ⟨by rfl, ?_⟩) ?_ ?_; rotate_left
      ·
       intro w'; go_simp
       with_reducible rfl
      rotate_left
      ·
       simp only [Act.put, List.setIfInBounds_toArray, List.set_cons_zero, List.set_cons_succ, i64_w, i32_w]; rfl
      refine pure_ (i := 4) (N := some 28) (v := ?_) (a' := ?_) #[true, true, true, true, true, false, false, false, false, false, false, false, false, false, false, false, false, false, false, false, false, false, false, false] rfl rfl (any_of HT_.out (by kernel_rfl)) (fun _ _ _ h => h) (Or.inl ⟨by rfl, ?_⟩) ?_ ?_; rotate_left
      ·
       intro w'; go_simp
       with_reducible rfl
      rotate_left
      ·
       simp only [Act.put, List.setIfInBounds_toArray, List.set_cons_zero, List.set_cons_succ, i64_w, i32_w]; rfl
      refine pure_ (i := 5) (N := some 29) (v := ?_) (a' := ?_) #[true, true, true, true, true, true, false, false, false, false, false, false, false, false, false, false, false, false, false, false, false, false, false, false] rfl rfl (any_of HT_.out (by kernel_rfl)) (fun _ _ _ h => h) (Or.inl ⟨by rfl, ?_⟩) ?_ ?_; rotate_left
      ·
       intro w'; go_simp
       with_reducible rfl
      rotate_left
      ·
       simp only [Act.put, List.setIfInBounds_toArray, List.set_cons_zero, List.set_cons_succ, i64_w, i32_w]; rfl
      refine pure_ (i := 7) (N := some 31) (v := ?_) (a' := ?_) #[true, true, true, true, true, true, false, true, false, false, false, false, false, false, false, false, false, false, false, false, false, false, false, false] rfl rfl (any_of HT_.out (by kernel_rfl)) (fun _ _ _ h => h) (Or.inl ⟨by rfl, ?_⟩) ?_ ?_; rotate_left
      ·
       intro w'; go_simp
       with_reducible rfl
      rotate_left
      ·
       simp only [Act.put, List.setIfInBounds_toArray, List.set_cons_zero, List.set_cons_succ, i64_w, i32_w]; rfl
      refine take_ (i := 6) (N := some 30) (v := ?_) (a' := ?_) #[true, true, true, true, true, true, true, true, false, false, false, false, false, false, false, false, false, false, false, false, false, false, false, false] rfl rfl (take_ofW HT_.out HW_.out (by kernel_rfl)) (fun _ _ _ h => h) (Or.inl ⟨by rfl, ?_⟩) hHeld ?_ ?_; rotate_left
      ·
       rintro w' ⟨s0, s1, s2, s3, s4, s5, s6, s7, s8, s9, s10, s11⟩; go_simp
       with_reducible rfl
      rotate_left
      ·
       simp only [Act.put, List.setIfInBounds_toArray, List.set_cons_zero, List.set_cons_succ, i64_w, i32_w]; rfl
      refine pure_ (i := 8) (N := some 32) (v := ?_) (a' := ?_) #[true, true, true, true, true, true, true, true, true, false, false, false, false, false, false, false, false, false, false, false, false, false, false, false] rfl rfl (any_of HT_.out (by kernel_rfl)) (fun _ _ _ h => h) (Or.inl ⟨by rfl, ?_⟩) ?_ ?_; rotate_left
      ·
       intro w'; go_simp
       with_reducible rfl
      rotate_left
      ·
       simp only [Act.put, List.setIfInBounds_toArray, List.set_cons_zero, List.set_cons_succ, i64_w, i32_w]; rfl
      refine pure_ (i := 9) (N := some 33) (v := ?_) (a' := ?_) #[true, true, true, true, true, true, true, true, true, true, false, false, false, false, false, false, false, false, false, false, false, false, false, false] rfl rfl (any_of HT_.out (by kernel_rfl)) (fun _ _ _ h => h) (Or.inl ⟨by rfl, ?_⟩) ?_ ?_; rotate_left
      ·
       intro w'; go_simp
       with_reducible rfl
      rotate_left
      ·
       simp only [Act.put, List.setIfInBounds_toArray, List.set_cons_zero, List.set_cons_succ, i64_w, i32_w]; rfl
      refine take_ (i := 10) (N := some 34) (v := ?_) (a' := ?_) #[true, true, true, true, true, true, true, true, true, true, true, false, false, false, false, false, false, false, false, false, false, false, false, false] rfl rfl (take_ofW HT_.out HW_.out (by kernel_rfl)) (fun _ _ _ h => h) (Or.inl ⟨by rfl, ?_⟩) hHeld ?_ ?_; rotate_left
      ·
       rintro w' ⟨s0, s1, s2, s3, s4, s5, s6, s7, s8, s9, s10, s11⟩; go_simp
       with_reducible rfl
      rotate_left
      ·
       simp only [Act.put, List.setIfInBounds_toArray, List.set_cons_zero, List.set_cons_succ, i64_w, i32_w]; rfl
      refine pure_ (i := 11) (N := some 35) (v := ?_) (a' := ?_) #[true, true, true, true, true, true, true, true, true, true, true, true, false, false, false, false, false, false, false, false, false, false, false, false] rfl rfl (any_of HT_.out (by kernel_rfl)) (fun _ _ _ h => h) (Or.inl ⟨by rfl, ?_⟩) ?_ ?_; rotate_left
      ·
       intro w'; go_simp
       with_reducible rfl
      rotate_left
      ·
       simp only [Act.put, List.setIfInBounds_toArray, List.set_cons_zero, List.set_cons_succ, i64_w, i32_w]; rfl
      refine pure_ (i := 12) (N := some 36) (v := ?_) (a' := ?_) #[true, true, true, true, true, true, true, true, true, true, true, true, true, false, false, false, false, false, false, false, false, false, false, false] rfl rfl (any_of HT_.out (by kernel_rfl)) (fun _ _ _ h => h) (Or.inl ⟨by rfl, ?_⟩) ?_ ?_; rotate_left
      ·
       intro w'; go_simp
       with_reducible rfl
      rotate_left
      ·
       simp only [Act.put, List.setIfInBounds_toArray, List.set_cons_zero, List.set_cons_succ, i64_w, i32_w]; rfl
      refine pure_ (i := 13) (N := some 37) (v := ?_) (a' := ?_) #[true, true, true, true, true, true, true, true, true, true, true, true, true, true, false, false, false, false, false, false, false, false, false, false] rfl rfl (any_of HT_.out (by kernel_rfl)) (fun _ _ _ h => h) (Or.inl ⟨by rfl, ?_⟩) ?_ ?_; rotate_left
      ·
       intro w'; go_simp
       with_reducible rfl
      rotate_left
      ·
       simp only [Act.put, List.setIfInBounds_toArray, List.set_cons_zero, List.set_cons_succ, i64_w, i32_w]; rfl
      refine pure_ (i := 14) (N := some 38) (v := ?_) (a' := ?_) #[true, true, true, true, true, true, true, true, true, true, true, true, true, true, true, false, false, false, false, false, false, false, false, false] rfl rfl (any_of HT_.out (by kernel_rfl)) (fun _ _ _ h => h) (Or.inl ⟨by rfl, ?_⟩) ?_ ?_; rotate_left
      ·
       intro w'; go_simp
       with_reducible rfl
      rotate_left
      ·
       simp only [Act.put, List.setIfInBounds_toArray, List.set_cons_zero, List.set_cons_succ, i64_w, i32_w]; rfl
      refine pure_ (i := 16) (N := some 40) (v := ?_) (a' := ?_) #[true, true, true, true, true, true, true, true, true, true, true, true, true, true, true, false, true, false, false, false, false, false, false, false] rfl rfl (any_of HT_.out (by kernel_rfl)) (fun _ _ _ h => h) (Or.inl ⟨by rfl, ?_⟩) ?_ ?_; rotate_left
      ·
       intro w'; go_simp
       with_reducible rfl
      rotate_left
      ·
       simp only [Act.put, List.setIfInBounds_toArray, List.set_cons_zero, List.set_cons_succ, i64_w, i32_w]; rfl
      refine take_ (i := 15) (N := some 39) (v := ?_) (a' := ?_) #[true, true, true, true, true, true, true, true, true, true, true, true, true, true, true, true, true, false, false, false, false, false, false, false] rfl rfl (take_ofW HT_.out HW_.out (by kernel_rfl)) (fun _ _ _ h => h) (Or.inl ⟨by rfl, ?_⟩) hHeld ?_ ?_; rotate_left
      ·
       rintro w' ⟨s0, s1, s2, s3, s4, s5, s6, s7, s8, s9, s10, s11⟩; go_simp
       with_reducible rfl
      rotate_left
      ·
       simp only [Act.put, List.setIfInBounds_toArray, List.set_cons_zero, List.set_cons_succ, i64_w, i32_w]; rfl
      refine pure_ (i := 17) (N := some 41) (v := ?_) (a' := ?_) #[true, true, true, true, true, true, true, true, true, true, true, true, true, true, true, true, true, true, false, false, false, false, false, false] rfl rfl (any_of HT_.out (by kernel_rfl)) (fun _ _ _ h => h) (Or.inl ⟨by rfl, ?_⟩) ?_ ?_; rotate_left
      ·
       intro w'; go_simp
       with_reducible rfl
      rotate_left
      ·
       simp only [Act.put, List.setIfInBounds_toArray, List.set_cons_zero, List.set_cons_succ, i64_w, i32_w]; rfl
      refine pure_ (i := 18) (N := some 42) (v := ?_) (a' := ?_) #[true, true, true, true, true, true, true, true, true, true, true, true, true, true, true, true, true, true, true, false, false, false, false, false] rfl rfl (any_of HT_.out (by kernel_rfl)) (fun _ _ _ h => h) (Or.inl ⟨by rfl, ?_⟩) ?_ ?_; rotate_left
      ·
       intro w'; go_simp
       with_reducible rfl
      rotate_left
      ·
       simp only [Act.put, List.setIfInBounds_toArray, List.set_cons_zero, List.set_cons_succ, i64_w, i32_w]; rfl
      refine take_ (i := 19) (N := some 43) (v := ?_) (a' := ?_) #[true, true, true, true, true, true, true, true, true, true, true, true, true, true, true, true, true, true, true, true, false, false, false, false] rfl rfl (take_ofW HT_.out HW_.out (by kernel_rfl)) (fun _ _ _ h => h) (Or.inl ⟨by rfl, ?_⟩) hHeld ?_ ?_; rotate_left
      ·
       rintro w' ⟨s0, s1, s2, s3, s4, s5, s6, s7, s8, s9, s10, s11⟩; go_simp
       with_reducible rfl
      rotate_left
      ·
       simp only [Act.put, List.setIfInBounds_toArray, List.set_cons_zero, List.set_cons_succ, i64_w, i32_w]; rfl
      refine take_ (i := 20) (N := some 44) (v := ?_) (a' := ?_) #[true, true, true, true, true, true, true, true, true, true, true, true, true, true, true, true, true, true, true, true, true, false, false, false] rfl rfl (take_ofW HT_.out HW_.out (by kernel_rfl)) (fun _ _ _ h => h) (Or.inl ⟨by rfl, ?_⟩) hHeld ?_ ?_; rotate_left
      ·
       rintro w' ⟨s0, s1, s2, s3, s4, s5, s6, s7, s8, s9, s10, s11⟩; go_simp
       with_reducible rfl
      rotate_left
      ·
       simp only [Act.put, List.setIfInBounds_toArray, List.set_cons_zero, List.set_cons_succ, i64_w, i32_w]; rfl
      refine one_ (i := 21) (N := some 45) #[true, true, true, true, true, true, true, true, true, true, true, true, true, true, true, true, true, true, true, true, true, true, false, false] rfl rfl (one_of HT_.out (by kernel_rfl)) (by decide) (fun K hK => ?_); refine goes_ Try.func25 (by kernel_rfl) rfl #[.agg #[.int .i64 ((rd_T54 t477 t462).f1.f0), .slice A481_2 ((rd_T54 t477 t462).f1.f1).length c481_2, .slice A481_3 ((rd_T54 t477 t462).f1.f2).length c481_3], .agg #[.int .i64 t464, .slice Ao14 t465.length co14, .slice Ao15 t468.length co15]] (by rfl) rfl rfl (by (try simp only [List.map_toArray, List.map_cons, List.map_nil]); first | done | rfl | (simp only [List.length_drop, List.length_take]; rfl)) ?_
      with_reducible refine (trustquorumref02_Same.calls k ((rd_T54 t477 t462).f1.f0) _ _ ((rd_T54 t477 t462).f1.f1) _ _ ((rd_T54 t477 t462).f1.f2) t464 _ _ t465 _ _ t468 t483 _ ?side1 ?side2 ?side3 ?side4 ?side5 ?side6 ?side7 ?side8 A30.out).mono ?_
      (case side1 => exact HR482_2.out)
      (case side2 => exact HC482_2.out)
      (case side3 => exact HR482_3.out)
      (case side4 => exact HC482_3.out)
      (case side5 => exact (Kd.R_reads' HO467.out).2.2)
      (case side6 => exact (Kd.R_reads' HO467.out).2.1)
      (case side7 => exact (Kd.N_reads' HO470.out).2.2)
      (case side8 => exact (Kd.N_reads' HO470.out).2.1)
      rintro e w33 ⟨rfl, hb⟩; have HS4_ := (hb.cell (World.block_lt_of_cell? _ _ (hHeld.2.2.2.2.1))).trans (hHeld.2.2.2.2.1); have HS5_ := (hb.cell (World.block_lt_of_cell? _ _ (hHeld.2.2.2.2.2.1))).trans (hHeld.2.2.2.2.2.1); have HS6_ := (hb.cell (World.block_lt_of_cell? _ _ (hHeld.2.2.2.2.2.2.1))).trans (hHeld.2.2.2.2.2.2.1); have HS7_ := (hb.cell (World.block_lt_of_cell? _ _ (hHeld.2.2.2.2.2.2.2.1))).trans (hHeld.2.2.2.2.2.2.2.1); have HS8_ := (hb.cell (World.block_lt_of_cell? _ _ (hHeld.2.2.2.2.2.2.2.2.1))).trans (hHeld.2.2.2.2.2.2.2.2.1); have HS9_ := (hb.cell (World.block_lt_of_cell? _ _ (hHeld.2.2.2.2.2.2.2.2.2.1))).trans (hHeld.2.2.2.2.2.2.2.2.2.1); have HS10_ := (hb.cell (World.block_lt_of_cell? _ _ (hHeld.2.2.2.2.2.2.2.2.2.2.1))).trans (hHeld.2.2.2.2.2.2.2.2.2.2.1); have HS11_ := (hb.cell (World.block_lt_of_cell? _ _ (hHeld.2.2.2.2.2.2.2.2.2.2.2))).trans (hHeld.2.2.2.2.2.2.2.2.2.2.2); refine ⟨_, rfl, ?_⟩; replace HO467 := Aside0.mk (Kd.R_below HO467.out hb); replace HO470 := Aside0.mk (Kd.N_below HO470.out hb); replace HO475 := Aside0.mk (Kd.N_below HO475.out hb); replace HO479 := Aside0.mk (Kd.N_below HO479.out hb); replace HL481_2 := Aside0.mk (Kd.V_below HL481_2.out hb); replace HL481_3 := Aside0.mk (Kd.V_below HL481_3.out hb); replace HL482_2 := Aside0.mk (Kd.V_below HL482_2.out hb); replace HL482_3 := Aside0.mk (Kd.V_below HL482_3.out hb); replace HI461 := Aside0.mk (IsS78.below HI461.out hb)
      replace BK472 := Aside0.mk (blk_below BK472.out hb); replace BK480 := Aside0.mk (blk_below BK480.out hb); replace HR481_2 := Aside0.mk (Kd.C_below HR481_2.out hb); replace HR481_3 := Aside0.mk (Kd.C_below HR481_3.out hb); replace HR482_2 := Aside0.mk (Kd.C_below HR482_2.out hb); replace HR482_3 := Aside0.mk (Kd.C_below HR482_3.out hb); replace HB := Aside0.mk (below_step HB.out hb); (try clear hb); (try clear hb2); (try clear hk); (try clear hi); refine hK.out _ _ ⟨(blk_cell BK480.out 0).trans rfl, (blk_cell BK472.out 0).trans rfl, (blk_cell BK472.out 1).trans rfl, (blk_cell BK472.out 2).trans rfl, HS4_, HS5_, HS6_, HS7_, HS8_, HS9_, HS10_, HS11_⟩ (fun hHeld => ?_); clear hK K; refine norm_ (a' := ?_) ?_ ?_; rotate_left
      ·
       show Act.put _ (some 45) _ = _
       simp only [Act.put, List.setIfInBounds_toArray, List.set_cons_zero, List.set_cons_succ, i64_w, i32_w]; rfl
      refine pure_ (i := 22) (N := some 46) (v := ?_) (a' := ?_) #[true, true, true, true, true, true, true, true, true, true, true, true, true, true, true, true, true, true, true, true, true, true, true, false] rfl rfl (any_of HT_.out (by kernel_rfl)) (fun _ _ _ h => h) (Or.inl ⟨by rfl, ?_⟩) ?_ ?_; rotate_left
      ·
       intro w'; go_simp
       with_reducible rfl
      rotate_left
      ·
       simp only [Act.put, List.setIfInBounds_toArray, List.set_cons_zero, List.set_cons_succ, i64_w, i32_w]; rfl
      refine pure_ (i := 23) (N := some 47) (v := ?_) (a' := ?_) #[true, true, true, true, true, true, true, true, true, true, true, true, true, true, true, true, true, true, true, true, true, true, true, true] rfl rfl (any_of HT_.out (by kernel_rfl)) (fun _ _ _ h => h) (Or.inl ⟨by rfl, ?_⟩) ?_ ?_; rotate_left
      ·
       intro w'; go_simp
       with_reducible rfl
      rotate_left
      ·
       simp only [Act.put, List.setIfInBounds_toArray, List.set_cons_zero, List.set_cons_succ, i64_w, i32_w]; rfl
      refine done_ (done_of HT_.out (by kernel_rfl)) ?_
      try go_wp2
      go_meet
      case rel => exact ⟨_, (!t483), (by first | rfl | (simp; done) | (simp [*]; done) | (refine congrArg (Value.int .i64) ?_; unfold wrap64; omega)), H', ⟨by first | omega | exact Nat.le_refl _⟩, ⟨by exact Kd.N_mono HO475.out (fun _ hk => ⟨hk.1, ⟨hk.2.1, ⟨hk.2.2.1, ⟨hk.2.2.2.1, hk.2.2.2.2.2⟩⟩⟩⟩)⟩, ⟨by exact HO467.out⟩, ⟨by exact Kd.N_mono HO470.out (fun _ hk => ⟨hk.2.1, ⟨hk.1, ⟨hk.2.2.1, ⟨hk.2.2.2.2.1, hk.2.2.2.2.2⟩⟩⟩⟩)⟩, ⟨by exact Kd.N_mono HO479.out (fun _ hk => ⟨hk.2.2.1, ⟨hk.1, ⟨hk.2.1, ⟨hk.2.2.2.1, hk.2.2.2.2.2⟩⟩⟩⟩)⟩, ⟨by exact BK472.out⟩, ⟨by exact BK480.out⟩, ⟨by exact HB.out⟩⟩
     ·
      replace c29 := Bool.eq_false_iff.mpr c29; subst c29; have H1 : (trustquorumlaw18_FederatedView.j0 k t462 t473 true t477) = some r := by rw [if_neg (show ¬ (false = true) by decide)] at H; exact H
      clear H; have H := H1; clear H1
      cases k with
      | zero => exact absurd H (by simp [trustquorumlaw18_FederatedView.j0])
      | succ kz_ => rw [trustquorumlaw18_FederatedView.j0, if_pos rfl] at H; exact absurd ((Option.some.inj H).trans HRT.out) (by decide)
    ·
     rw [if_neg c27] at H; exact absurd H (by simp)
   ·
    rw [if_neg c26] at H; exact absurd H (by simp)
  ·
   rw [if_neg c25] at H; have c25b0 : ((t477.length : Int) == 10) = false := beq_eq_false_iff_ne.mpr c25; have c25b1 : ((t477.length : Int) != 10) = true := bne_iff_ne.mpr c25; (first | rw [c25b0] | (simp only [i64_w, i32_w]; rw [c25b0]) | skip)
   cases k with
   | zero => exact absurd H (by simp [trustquorumlaw18_FederatedView.j0])
   | succ kz_ => rw [trustquorumlaw18_FederatedView.j0, if_pos rfl] at H; exact absurd ((Option.some.inj H).trans HRT.out) (by decide)
 case rest =>
  clear HC7; (try clear c1); (try clear c2); (try clear p2); (try clear q2); (try clear c4); (try clear p4); (try clear q4); (try clear hx4); (try clear c6); (try clear p6); (try clear c8); (try clear c10); (try clear c12); (try clear c22); (try clear c23); (try clear c24); (try clear c25); (try clear c25b0); (try clear c25b1); (try clear c26); (try clear c26b0); (try clear c27); (try clear c27b0); (try clear q28); (try clear c29); (try clear hcz13_0); (try clear hcz13_1); (try clear hcz13_2); (try clear hcz17_0); (try clear hcz17_1); (try clear hcz17_2); (try clear hcz24_0); (try clear hfz13_0); (try clear hfz13_1); (try clear hfz13_2); (try clear hfz17_0); (try clear hfz17_1); (try clear hfz17_2); (try clear hfz24_0); (try clear hx481_0); (try clear hx481_1); (try clear hx481_2); (try clear hx481_3); (try clear hx482_0); (try clear hx482_1); (try clear hx482_2); (try clear hx482_3); (try clear p481); (try clear p482); (try clear q481); (try clear q482); obtain ⟨kq, x47_6, rfl, HA, HJ6, HO_6, HO_473001, HO_473002, HO_481000, BK472, BK480, HB⟩ := hcut
  cases kq with
  | zero => exact absurd HA.out (by simp [trustquorumlaw18_FederatedView.j0])
  | succ kj6 =>
   have H := HA.out; clear HA; simp only [trustquorumlaw18_FederatedView.j0] at H
   by_cases c34 : x47_6 = true
   ·
    subst c34; have H1 : (some false) = some r := by rw [if_pos rfl] at H; exact H
    clear H; have H := H1; clear H1; exact absurd ((Option.some.inj H).trans HRT.out) (by decide)
   ·
    replace c34 := Bool.eq_false_iff.mpr c34; subst c34; have H1 : (trustquorumlaw18_FederatedView.l0 kj6 t462 t473 (t477.length : Int) 0 t477) = some r := by rw [if_neg (show ¬ (false = true) by decide)] at H; exact H
    clear H; have H := H1; clear H1; have H' := Aside0.mk H; clear H; have hnb35 := NB480_472.out; have hnc35 := NB472_480.out; obtain ⟨hcz36_0, hfz36_0⟩ := blkC1 BK480.out
    go_wp2
    go_loopg [51] kj6 (fun kq v51 w' => ∃ (x51_2 : Int), v51 = .int .i64 x51_2 ∧ Aside0 (trustquorumlaw18_FederatedView.l0 kq t462 t473 (t477.length : Int) x51_2 t477 = some r) ∧ Aside0 (kq ≤ kj6) ∧ Aside0 (Kd.N k58 58 w' w.heap.size (fun k_ => some k_ ≠ ((.slice Ao21 t477.length co21) : Value).ownBlock ∧ k_ ≠ gb480) (.slice Ao18 t473.length co18) t473) ∧ Aside0 (Kd.N k54 54 w' w.heap.size (fun k_ => some k_ ≠ ((.slice Ao18 t473.length co18) : Value).ownBlock ∧ k_ ≠ gb480) (.slice Ao21 t477.length co21) t477) ∧ Aside0 (w'.heap[gb480]? = some (.cells #[(.slice Ao21 t477.length co21)] 27 (0, 0))) ∧ Aside0 (Below w.heap.size w w'))
    case atStart => exact ⟨(0), (by first | rfl | (simp; done) | (simp [*]; done) | (refine congrArg (Value.int .i64) ?_; unfold wrap64; omega)), H', ⟨Nat.le_refl _⟩, ⟨by exact Kd.N_mono HO_6.out (fun _ hk => ⟨hk.2.2.1, hk.2.2.2.2⟩)⟩, ⟨by exact Kd.N_mono HO_481000.out (fun _ hk => ⟨hk.1, hk.2.2.2.2⟩)⟩, ⟨by exact BK480.out⟩, ⟨by exact HB.out⟩⟩
    case round =>
     clear H'; (try clear c1); (try clear c2); (try clear p2); (try clear q2); (try clear c3); (try clear c4); (try clear p4); (try clear q4); (try clear hx4); (try clear c6); (try clear p6); (try clear c8); (try clear c10); (try clear c12); (try clear c22); (try clear c23); (try clear c24); (try clear c25); (try clear c25b0); (try clear c25b1); (try clear c26); (try clear c26b0); (try clear c27); (try clear c27b0); (try clear q28); (try clear c29); (try clear c34); (try clear c35); (try clear hcz13_0); (try clear hcz13_1); (try clear hcz13_2); (try clear hcz17_0); (try clear hcz17_1); (try clear hcz17_2); (try clear hcz24_0); (try clear hcz36_0); (try clear hfz13_0); (try clear hfz13_1); (try clear hfz13_2); (try clear hfz17_0); (try clear hfz17_1); (try clear hfz17_2); (try clear hfz24_0); (try clear hfz36_0); (try clear hx481_0); (try clear hx481_1); (try clear hx481_2); (try clear hx481_3); (try clear hx482_0); (try clear hx482_1); (try clear hx482_2); (try clear hx482_3); (try clear p2); (try clear p4); (try clear p481); (try clear p482); (try clear p6); (try clear q2); (try clear q28); (try clear q4); (try clear q481); (try clear q482); obtain ⟨x51_2, rfl, HA, HK2, HO_6, HO_481000, BK480, HB⟩ := hrel
     cases gk with
     | zero => exact absurd HA.out (by simp [trustquorumlaw18_FederatedView.l0])
     | succ k2 =>
      have H := HA.out; clear HA; simp only [trustquorumlaw18_FederatedView.l0] at H
      by_cases c37 : x51_2 < (t477.length : Int)
      ·
       rw [if_pos c37] at H; have c37b0 : decide (x51_2 < (t477.length : Int)) = true := decide_eq_true c37; clear c37; have H' := Aside0.mk H; clear H
       go_wp2
       go_loopg [9, 56] k2 (fun kq v9 v56 w' => ∃ (x9_3 : Int) (x56_3 : Int), v9 = .int .i64 x9_3 ∧ v56 = .int .i64 x56_3 ∧ Aside0 (trustquorumlaw18_FederatedView.l1 kq t462 t473 x51_2 x9_3 (t477.length : Int) x51_2 (t473.length : Int) x56_3 t477 = some r) ∧ Aside0 (kq ≤ k2) ∧ Aside0 (Kd.N k58 58 w' w.heap.size (fun k_ => some k_ ≠ ((.slice Ao21 t477.length co21) : Value).ownBlock ∧ k_ ≠ gb480) (.slice Ao18 t473.length co18) t473) ∧ Aside0 (Kd.N k54 54 w' w.heap.size (fun k_ => some k_ ≠ ((.slice Ao18 t473.length co18) : Value).ownBlock ∧ k_ ≠ gb480) (.slice Ao21 t477.length co21) t477) ∧ Aside0 (w'.heap[gb480]? = some (.cells #[(.slice Ao21 t477.length co21)] 27 (0, 0))) ∧ Aside0 (Below w.heap.size w w'))
       case atStart => exact ⟨((-1)), (0), (by first | rfl | (simp; done) | (simp [*]; done) | (refine congrArg (Value.int .i64) ?_; unfold wrap64; omega)), (by first | rfl | (simp; done) | (simp [*]; done) | (refine congrArg (Value.int .i64) ?_; unfold wrap64; omega)), H', ⟨Nat.le_refl _⟩, ⟨by exact HO_6.out⟩, ⟨by exact HO_481000.out⟩, ⟨by exact BK480.out⟩, ⟨by exact HB.out⟩⟩
       case round =>
        clear H'; (try clear c1); (try clear c2); (try clear p2); (try clear q2); (try clear c3); (try clear c4); (try clear p4); (try clear q4); (try clear hx4); (try clear c6); (try clear p6); (try clear c8); (try clear c10); (try clear c12); (try clear c22); (try clear c23); (try clear c24); (try clear c25); (try clear c25b0); (try clear c25b1); (try clear c26); (try clear c26b0); (try clear c27); (try clear c27b0); (try clear q28); (try clear c29); (try clear c34); (try clear c35); (try clear c37); (try clear c37b0); (try clear hcz13_0); (try clear hcz13_1); (try clear hcz13_2); (try clear hcz17_0); (try clear hcz17_1); (try clear hcz17_2); (try clear hcz24_0); (try clear hcz36_0); (try clear hfz13_0); (try clear hfz13_1); (try clear hfz13_2); (try clear hfz17_0); (try clear hfz17_1); (try clear hfz17_2); (try clear hfz24_0); (try clear hfz36_0); (try clear hx481_0); (try clear hx481_1); (try clear hx481_2); (try clear hx481_3); (try clear hx482_0); (try clear hx482_1); (try clear hx482_2); (try clear hx482_3); (try clear p2); (try clear p4); (try clear p481); (try clear p482); (try clear p6); (try clear q2); (try clear q28); (try clear q4); (try clear q481); (try clear q482); obtain ⟨x9_3, x56_3, rfl, rfl, HA, HK3, HO_6, HO_481000, BK480, HB⟩ := hrel
        cases gk with
        | zero => exact absurd HA.out (by simp [trustquorumlaw18_FederatedView.l1])
        | succ k3 =>
         have H := HA.out; clear HA; simp only [trustquorumlaw18_FederatedView.l1] at H
         by_cases c38 : x56_3 < (t473.length : Int)
         ·
          rw [if_pos c38] at H; have c38b0 : decide (x56_3 < (t473.length : Int)) = true := decide_eq_true c38; clear c38
          by_cases c39 : 0 ≤ x56_3
          ·
           rw [if_pos c39] at H; have c39b0 : decide (0 ≤ x56_3) = true := decide_eq_true c39; clear c39
           by_cases c40 : x56_3 < (t473.length : Int)
           ·
            rw [if_pos c40] at H; have c40b0 : decide (x56_3 < (t473.length : Int)) = true := decide_eq_true c40; clear c40
            by_cases c41 : ((rd_T58 t473 x56_3).f0) = x51_2
            ·
             rw [if_pos c41] at H; have c41b0 : (((rd_T58 t473 x56_3).f0) == x51_2) = true := beq_iff_eq.mpr c41; have c41b1 : (((rd_T58 t473 x56_3).f0) != x51_2) = false := bne_eq_false_iff_eq.mpr c41; clear c41; have H' := Aside0.mk H; clear H; have p485 : 0 ≤ (x56_3 : Int) := of_decide_eq_true (by first | (with_reducible assumption) | assumption); have q485 : x56_3 < (t473.length : Int) := of_decide_eq_true (by first | (with_reducible assumption) | assumption); obtain ⟨ad485, A485_3, c485_3, A485_4, c485_4, A485_5, c485_5, A485_6, c485_6, e485, hx485_0, hx485_1, hx485_2, hx485_3, hx485_4, hx485_5, hx485_6, hl485_3, hi485_3, hl485_4, hi485_4, hl485_5, hi485_5, hl485_6, hi485_6⟩ := at_T58 (Kd.N_reads' HO_6.out).2.2 x56_3 p485 q485
             cases e485
             obtain ⟨ce485, hce485, hMe485, hcc485⟩ := Kd.N_get HO_6.out z58 x56_3 p485 (by first | exact q485 | exact of_decide_eq_true (by first | (with_reducible assumption) | assumption) | (have e_ := (Kd.N_reads' HO_6.out).1; omega)); obtain ⟨ua485_3, uc485_3, ua485_4, uc485_4, ua485_5, uc485_5, ua485_6, uc485_6, rfl, ul485_3, ge485_3, ul485_4, ge485_4, ul485_5, ge485_5, ul485_6, ge485_6⟩ := k58_openF hMe485; have hv485_3 := hcc485 3 _ rfl; rw [add_field _ _ 3 (by omega)] at hv485_3; replace hv485_3 := Option.some.inj (hv485_3.symm.trans hx485_3); injection hv485_3 with hva_ hvn_ hvc_
             rw [hva_] at ge485_3; rw [hvc_] at ul485_3; have HL485_3 := Aside0.mk (show Kd.V (Kd.int .i64) 3 _ w.heap.size _ _ ((rd_T58 t473 x56_3).f2.f1) from Kd.V_mk ul485_3 ge485_3); clear hva_ hvn_ hvc_ ge485_3 ul485_3; have hv485_4 := hcc485 4 _ rfl; rw [add_field _ _ 4 (by omega)] at hv485_4; replace hv485_4 := Option.some.inj (hv485_4.symm.trans hx485_4); injection hv485_4 with hva_ hvn_ hvc_
             rw [hva_] at ge485_4; rw [hvc_] at ul485_4; have HL485_4 := Aside0.mk (show Kd.V k48 48 _ w.heap.size _ _ ((rd_T58 t473 x56_3).f2.f2) from Kd.V_mk ul485_4 ge485_4); clear hva_ hvn_ hvc_ ge485_4 ul485_4; have hv485_5 := hcc485 5 _ rfl; rw [add_field _ _ 5 (by omega)] at hv485_5; replace hv485_5 := Option.some.inj (hv485_5.symm.trans hx485_5); injection hv485_5 with hva_ hvn_ hvc_
             rw [hva_] at ge485_5; rw [hvc_] at ul485_5; have HL485_5 := Aside0.mk (show Kd.V k60 60 _ w.heap.size _ _ ((rd_T58 t473 x56_3).f3) from Kd.V_mk ul485_5 ge485_5); clear hva_ hvn_ hvc_ ge485_5 ul485_5; have hv485_6 := hcc485 6 _ rfl; rw [add_field _ _ 6 (by omega)] at hv485_6; replace hv485_6 := Option.some.inj (hv485_6.symm.trans hx485_6); injection hv485_6 with hva_ hvn_ hvc_
             rw [hva_] at ge485_6; rw [hvc_] at ul485_6; have HL485_6 := Aside0.mk (show Kd.V k60 60 _ w.heap.size _ _ ((rd_T58 t473 x56_3).f4) from Kd.V_mk ul485_6 ge485_6); clear hva_ hvn_ hvc_ ge485_6 ul485_6; clear hcc485 hce485; have HR485_3 := Aside0.mk hi485_3; have HC485_3 := Aside0.mk hl485_3; clear hi485_3 hl485_3; have HR485_4 := Aside0.mk hi485_4; have HC485_4 := Aside0.mk hl485_4; clear hi485_4 hl485_4; have HR485_5 := Aside0.mk hi485_5; have HC485_5 := Aside0.mk hl485_5; clear hi485_5 hl485_5; have HR485_6 := Aside0.mk hi485_6; have HC485_6 := Aside0.mk hl485_6; clear hi485_6 hl485_6; replace p485 := eq_true p485; replace q485 := eq_true q485
             go_wp2_with (first | ((with_reducible refine gate_dst (N := 11) rfl ?_); refine box_event ?hg (N := 11) ?hd (cs := #[.int .i64 0, .int .i64 0, .int .i64 0, .slice none 0 0, .slice none 0 0, .slice none 0 0, .slice none 0 0]) (t := 58) ?hr ?_; (case hd => rfl); (case hg => rfl); (case hr => first | (go_simp; done) | (go_simp; rfl)); intro gb486 hg w42 hbox hb; replace HO_6 := Aside0.mk (Kd.N_below (Kd.N_elderB HO_6.out gb486 (Nat.le_of_eq hg.symm)) hb); replace HO_481000 := Aside0.mk (Kd.N_below (Kd.N_elderB HO_481000.out gb486 (Nat.le_of_eq hg.symm)) hb); replace HL485_3 := Aside0.mk (Kd.V_below (Kd.V_elderB HL485_3.out gb486 (Nat.le_of_eq hg.symm)) hb); replace HL485_4 := Aside0.mk (Kd.V_below (Kd.V_elderB HL485_4.out gb486 (Nat.le_of_eq hg.symm)) hb); replace HL485_5 := Aside0.mk (Kd.V_below (Kd.V_elderB HL485_5.out gb486 (Nat.le_of_eq hg.symm)) hb); replace HL485_6 := Aside0.mk (Kd.V_below (Kd.V_elderB HL485_6.out gb486 (Nat.le_of_eq hg.symm)) hb); replace HR485_3 := Aside0.mk (Kd.C_below HR485_3.out hb); replace HR485_4 := Aside0.mk (Kd.C_below HR485_4.out hb); replace HR485_5 := Aside0.mk (Kd.C_below HR485_5.out hb); replace HR485_6 := Aside0.mk (Kd.C_below HR485_6.out hb); have BK486 := Aside0.mk (hbox); have GW486 := Aside0.mk ((by rw [hg]; exact (below_size HB.out) : w.heap.size ≤ gb486)); have GE486 := Aside0.mk ((by rw [hg]; exact (below_size HB.out) : w.heap.size ≤ gb486)); replace HB := Aside0.mk (below_step HB.out hb); have NB480_486 := Aside0.mk ((by rw [hg]; exact Nat.ne_of_lt (blk_lt BK480.out) : gb480 ≠ gb486)); have NB486_480 := Aside0.mk ((by rw [hg]; exact Nat.ne_of_gt (blk_lt BK480.out) : gb486 ≠ gb480)); replace BK480 := Aside0.mk (blk_below BK480.out hb); clear hb hbox hg; have hnb43 := NB486_480.out; have hnc43 := NB480_486.out; obtain ⟨hcz44_0, hcz44_1, hcz44_2, hcz44_3, hcz44_4, hcz44_5, hcz44_6, hfz44_0, hfz44_1, hfz44_2, hfz44_3, hfz44_4, hfz44_5, hfz44_6⟩ := blkC7 BK486.out))
             go_roundg k3
             case measure => have := HJ6.out; have := HK2.out; have := HK3.out; omega
             case rel => exact ⟨(x56_3), (wrap64 (x56_3 + 1)), (by first | rfl | (simp; done) | (simp [*]; done) | (refine congrArg (Value.int .i64) ?_; unfold wrap64; omega)), (by first | rfl | (simp; done) | (simp [*]; done) | (refine congrArg (Value.int .i64) ?_; unfold wrap64; omega)), H', ⟨by have := HJ6.out; have := HK2.out; have := HK3.out; omega⟩, ⟨by (with_reducible repeat (first | apply Kd.N_alloc | apply Kd.N_drewN | apply Kd.N_drew)); exact Kd.N_mono (Kd.N_far (p := ⟨gb486, 6, none⟩) (Kd.N_far (p := ⟨gb486, 5, none⟩) (Kd.N_far (p := ⟨gb486, 4, none⟩) (Kd.N_far (p := ⟨gb486, 3, none⟩) (Kd.N_far (p := ⟨gb486, 2, none⟩) (Kd.N_far (p := ⟨gb486, 1, none⟩) (Kd.N_far (p := ⟨gb486, 0, none⟩) (Kd.N_mono HO_6.out (fun k_ hk => (⟨hk, hk.2⟩ : _ ∧ k_ ≠ gb486))) (fun _ hk => hk.2) (.int .i64 ((rd_T58 t473 x56_3).f0))) (fun _ hk => hk.2) (.int .i64 ((rd_T58 t473 x56_3).f1))) (fun _ hk => hk.2) (.int .i64 ((rd_T58 t473 x56_3).f2.f0))) (fun _ hk => hk.2) (.slice A485_3 ((rd_T58 t473 x56_3).f2.f1).length c485_3)) (fun _ hk => hk.2) (.slice A485_4 ((rd_T58 t473 x56_3).f2.f2).length c485_4)) (fun _ hk => hk.2) (.slice A485_5 ((rd_T58 t473 x56_3).f3).length c485_5)) (fun _ hk => hk.2) (.slice A485_6 ((rd_T58 t473 x56_3).f4).length c485_6)) (fun _ hk => ⟨hk.1.1.1, hk.1.1.2⟩)⟩, ⟨by (with_reducible repeat (first | apply Kd.N_alloc | apply Kd.N_drewN | apply Kd.N_drew)); exact Kd.N_mono (Kd.N_far (p := ⟨gb486, 6, none⟩) (Kd.N_far (p := ⟨gb486, 5, none⟩) (Kd.N_far (p := ⟨gb486, 4, none⟩) (Kd.N_far (p := ⟨gb486, 3, none⟩) (Kd.N_far (p := ⟨gb486, 2, none⟩) (Kd.N_far (p := ⟨gb486, 1, none⟩) (Kd.N_far (p := ⟨gb486, 0, none⟩) (Kd.N_mono HO_481000.out (fun k_ hk => (⟨hk, hk.2⟩ : _ ∧ k_ ≠ gb486))) (fun _ hk => hk.2) (.int .i64 ((rd_T58 t473 x56_3).f0))) (fun _ hk => hk.2) (.int .i64 ((rd_T58 t473 x56_3).f1))) (fun _ hk => hk.2) (.int .i64 ((rd_T58 t473 x56_3).f2.f0))) (fun _ hk => hk.2) (.slice A485_3 ((rd_T58 t473 x56_3).f2.f1).length c485_3)) (fun _ hk => hk.2) (.slice A485_4 ((rd_T58 t473 x56_3).f2.f2).length c485_4)) (fun _ hk => hk.2) (.slice A485_5 ((rd_T58 t473 x56_3).f3).length c485_5)) (fun _ hk => hk.2) (.slice A485_6 ((rd_T58 t473 x56_3).f4).length c485_6)) (fun _ hk => ⟨hk.1.1.1, hk.1.1.2⟩)⟩, ⟨by (with_reducible repeat (first | refine blk_drewN ?_ _ | refine blk_drew ?_ | refine blk_alloc ?_ _)); refine blk_far ?_ NB480_486.out _; (with_reducible repeat (first | refine blk_drewN ?_ _ | refine blk_drew ?_ | refine blk_alloc ?_ _)); refine blk_far ?_ NB480_486.out _; (with_reducible repeat (first | refine blk_drewN ?_ _ | refine blk_drew ?_ | refine blk_alloc ?_ _)); refine blk_far ?_ NB480_486.out _; (with_reducible repeat (first | refine blk_drewN ?_ _ | refine blk_drew ?_ | refine blk_alloc ?_ _)); refine blk_far ?_ NB480_486.out _; (with_reducible repeat (first | refine blk_drewN ?_ _ | refine blk_drew ?_ | refine blk_alloc ?_ _)); refine blk_far ?_ NB480_486.out _; (with_reducible repeat (first | refine blk_drewN ?_ _ | refine blk_drew ?_ | refine blk_alloc ?_ _)); refine blk_far ?_ NB480_486.out _; (with_reducible repeat (first | refine blk_drewN ?_ _ | refine blk_drew ?_ | refine blk_alloc ?_ _)); refine blk_far ?_ NB480_486.out _; (with_reducible repeat (first | refine blk_drewN ?_ _ | refine blk_drew ?_ | refine blk_alloc ?_ _)); exact BK480.out⟩, ⟨by repeat (first | (with_reducible first | exact HB.out | apply below_alloc | apply pw_below_drewN | apply below_drew1 | refine below_set ?_ GE480.out | refine below_set ?_ GE486.out) | exact HB.out)⟩⟩
            ·
             rw [if_neg c41] at H; have c41b0 : (((rd_T58 t473 x56_3).f0) == x51_2) = false := beq_eq_false_iff_ne.mpr c41; have c41b1 : (((rd_T58 t473 x56_3).f0) != x51_2) = true := bne_iff_ne.mpr c41; have H' := Aside0.mk H; clear H; have p485 : 0 ≤ (x56_3 : Int) := of_decide_eq_true (by first | (with_reducible assumption) | assumption); have q485 : x56_3 < (t473.length : Int) := of_decide_eq_true (by first | (with_reducible assumption) | assumption); obtain ⟨ad485, A485_3, c485_3, A485_4, c485_4, A485_5, c485_5, A485_6, c485_6, e485, hx485_0, hx485_1, hx485_2, hx485_3, hx485_4, hx485_5, hx485_6, hl485_3, hi485_3, hl485_4, hi485_4, hl485_5, hi485_5, hl485_6, hi485_6⟩ := at_T58 (Kd.N_reads' HO_6.out).2.2 x56_3 p485 q485
             cases e485
             obtain ⟨ce485, hce485, hMe485, hcc485⟩ := Kd.N_get HO_6.out z58 x56_3 p485 (by first | exact q485 | exact of_decide_eq_true (by first | (with_reducible assumption) | assumption) | (have e_ := (Kd.N_reads' HO_6.out).1; omega)); obtain ⟨ua485_3, uc485_3, ua485_4, uc485_4, ua485_5, uc485_5, ua485_6, uc485_6, rfl, ul485_3, ge485_3, ul485_4, ge485_4, ul485_5, ge485_5, ul485_6, ge485_6⟩ := k58_openF hMe485; have hv485_3 := hcc485 3 _ rfl; rw [add_field _ _ 3 (by omega)] at hv485_3; replace hv485_3 := Option.some.inj (hv485_3.symm.trans hx485_3); injection hv485_3 with hva_ hvn_ hvc_
             rw [hva_] at ge485_3; rw [hvc_] at ul485_3; have HL485_3 := Aside0.mk (show Kd.V (Kd.int .i64) 3 _ w.heap.size _ _ ((rd_T58 t473 x56_3).f2.f1) from Kd.V_mk ul485_3 ge485_3); clear hva_ hvn_ hvc_ ge485_3 ul485_3; have hv485_4 := hcc485 4 _ rfl; rw [add_field _ _ 4 (by omega)] at hv485_4; replace hv485_4 := Option.some.inj (hv485_4.symm.trans hx485_4); injection hv485_4 with hva_ hvn_ hvc_
             rw [hva_] at ge485_4; rw [hvc_] at ul485_4; have HL485_4 := Aside0.mk (show Kd.V k48 48 _ w.heap.size _ _ ((rd_T58 t473 x56_3).f2.f2) from Kd.V_mk ul485_4 ge485_4); clear hva_ hvn_ hvc_ ge485_4 ul485_4; have hv485_5 := hcc485 5 _ rfl; rw [add_field _ _ 5 (by omega)] at hv485_5; replace hv485_5 := Option.some.inj (hv485_5.symm.trans hx485_5); injection hv485_5 with hva_ hvn_ hvc_
             rw [hva_] at ge485_5; rw [hvc_] at ul485_5; have HL485_5 := Aside0.mk (show Kd.V k60 60 _ w.heap.size _ _ ((rd_T58 t473 x56_3).f3) from Kd.V_mk ul485_5 ge485_5); clear hva_ hvn_ hvc_ ge485_5 ul485_5; have hv485_6 := hcc485 6 _ rfl; rw [add_field _ _ 6 (by omega)] at hv485_6; replace hv485_6 := Option.some.inj (hv485_6.symm.trans hx485_6); injection hv485_6 with hva_ hvn_ hvc_
             rw [hva_] at ge485_6; rw [hvc_] at ul485_6; have HL485_6 := Aside0.mk (show Kd.V k60 60 _ w.heap.size _ _ ((rd_T58 t473 x56_3).f4) from Kd.V_mk ul485_6 ge485_6); clear hva_ hvn_ hvc_ ge485_6 ul485_6; clear hcc485 hce485; have HR485_3 := Aside0.mk hi485_3; have HC485_3 := Aside0.mk hl485_3; clear hi485_3 hl485_3; have HR485_4 := Aside0.mk hi485_4; have HC485_4 := Aside0.mk hl485_4; clear hi485_4 hl485_4; have HR485_5 := Aside0.mk hi485_5; have HC485_5 := Aside0.mk hl485_5; clear hi485_5 hl485_5; have HR485_6 := Aside0.mk hi485_6; have HC485_6 := Aside0.mk hl485_6; clear hi485_6 hl485_6; replace p485 := eq_true p485; replace q485 := eq_true q485
             go_wp2_with (first | ((with_reducible refine gate_dst (N := 11) rfl ?_); refine box_event ?hg (N := 11) ?hd (cs := #[.int .i64 0, .int .i64 0, .int .i64 0, .slice none 0 0, .slice none 0 0, .slice none 0 0, .slice none 0 0]) (t := 58) ?hr ?_; (case hd => rfl); (case hg => rfl); (case hr => first | (go_simp; done) | (go_simp; rfl)); intro gb486 hg w45 hbox hb; replace HO_6 := Aside0.mk (Kd.N_below (Kd.N_elderB HO_6.out gb486 (Nat.le_of_eq hg.symm)) hb); replace HO_481000 := Aside0.mk (Kd.N_below (Kd.N_elderB HO_481000.out gb486 (Nat.le_of_eq hg.symm)) hb); replace HL485_3 := Aside0.mk (Kd.V_below (Kd.V_elderB HL485_3.out gb486 (Nat.le_of_eq hg.symm)) hb); replace HL485_4 := Aside0.mk (Kd.V_below (Kd.V_elderB HL485_4.out gb486 (Nat.le_of_eq hg.symm)) hb); replace HL485_5 := Aside0.mk (Kd.V_below (Kd.V_elderB HL485_5.out gb486 (Nat.le_of_eq hg.symm)) hb); replace HL485_6 := Aside0.mk (Kd.V_below (Kd.V_elderB HL485_6.out gb486 (Nat.le_of_eq hg.symm)) hb); replace HR485_3 := Aside0.mk (Kd.C_below HR485_3.out hb); replace HR485_4 := Aside0.mk (Kd.C_below HR485_4.out hb); replace HR485_5 := Aside0.mk (Kd.C_below HR485_5.out hb); replace HR485_6 := Aside0.mk (Kd.C_below HR485_6.out hb); have BK486 := Aside0.mk (hbox); have GW486 := Aside0.mk ((by rw [hg]; exact (below_size HB.out) : w.heap.size ≤ gb486)); have GE486 := Aside0.mk ((by rw [hg]; exact (below_size HB.out) : w.heap.size ≤ gb486)); replace HB := Aside0.mk (below_step HB.out hb); have NB480_486 := Aside0.mk ((by rw [hg]; exact Nat.ne_of_lt (blk_lt BK480.out) : gb480 ≠ gb486)); have NB486_480 := Aside0.mk ((by rw [hg]; exact Nat.ne_of_gt (blk_lt BK480.out) : gb486 ≠ gb480)); replace BK480 := Aside0.mk (blk_below BK480.out hb); clear hb hbox hg; have hnb46 := NB486_480.out; have hnc46 := NB480_486.out; obtain ⟨hcz47_0, hcz47_1, hcz47_2, hcz47_3, hcz47_4, hcz47_5, hcz47_6, hfz47_0, hfz47_1, hfz47_2, hfz47_3, hfz47_4, hfz47_5, hfz47_6⟩ := blkC7 BK486.out))
             go_roundg k3
             case measure => have := HJ6.out; have := HK2.out; have := HK3.out; omega
             case rel => exact ⟨(x9_3), (wrap64 (x56_3 + 1)), (by first | rfl | (simp; done) | (simp [*]; done) | (refine congrArg (Value.int .i64) ?_; unfold wrap64; omega)), (by first | rfl | (simp; done) | (simp [*]; done) | (refine congrArg (Value.int .i64) ?_; unfold wrap64; omega)), H', ⟨by have := HJ6.out; have := HK2.out; have := HK3.out; omega⟩, ⟨by (with_reducible repeat (first | apply Kd.N_alloc | apply Kd.N_drewN | apply Kd.N_drew)); exact Kd.N_mono (Kd.N_far (p := ⟨gb486, 6, none⟩) (Kd.N_far (p := ⟨gb486, 5, none⟩) (Kd.N_far (p := ⟨gb486, 4, none⟩) (Kd.N_far (p := ⟨gb486, 3, none⟩) (Kd.N_far (p := ⟨gb486, 2, none⟩) (Kd.N_far (p := ⟨gb486, 1, none⟩) (Kd.N_far (p := ⟨gb486, 0, none⟩) (Kd.N_mono HO_6.out (fun k_ hk => (⟨hk, hk.2⟩ : _ ∧ k_ ≠ gb486))) (fun _ hk => hk.2) (.int .i64 ((rd_T58 t473 x56_3).f0))) (fun _ hk => hk.2) (.int .i64 ((rd_T58 t473 x56_3).f1))) (fun _ hk => hk.2) (.int .i64 ((rd_T58 t473 x56_3).f2.f0))) (fun _ hk => hk.2) (.slice A485_3 ((rd_T58 t473 x56_3).f2.f1).length c485_3)) (fun _ hk => hk.2) (.slice A485_4 ((rd_T58 t473 x56_3).f2.f2).length c485_4)) (fun _ hk => hk.2) (.slice A485_5 ((rd_T58 t473 x56_3).f3).length c485_5)) (fun _ hk => hk.2) (.slice A485_6 ((rd_T58 t473 x56_3).f4).length c485_6)) (fun _ hk => ⟨hk.1.1.1, hk.1.1.2⟩)⟩, ⟨by (with_reducible repeat (first | apply Kd.N_alloc | apply Kd.N_drewN | apply Kd.N_drew)); exact Kd.N_mono (Kd.N_far (p := ⟨gb486, 6, none⟩) (Kd.N_far (p := ⟨gb486, 5, none⟩) (Kd.N_far (p := ⟨gb486, 4, none⟩) (Kd.N_far (p := ⟨gb486, 3, none⟩) (Kd.N_far (p := ⟨gb486, 2, none⟩) (Kd.N_far (p := ⟨gb486, 1, none⟩) (Kd.N_far (p := ⟨gb486, 0, none⟩) (Kd.N_mono HO_481000.out (fun k_ hk => (⟨hk, hk.2⟩ : _ ∧ k_ ≠ gb486))) (fun _ hk => hk.2) (.int .i64 ((rd_T58 t473 x56_3).f0))) (fun _ hk => hk.2) (.int .i64 ((rd_T58 t473 x56_3).f1))) (fun _ hk => hk.2) (.int .i64 ((rd_T58 t473 x56_3).f2.f0))) (fun _ hk => hk.2) (.slice A485_3 ((rd_T58 t473 x56_3).f2.f1).length c485_3)) (fun _ hk => hk.2) (.slice A485_4 ((rd_T58 t473 x56_3).f2.f2).length c485_4)) (fun _ hk => hk.2) (.slice A485_5 ((rd_T58 t473 x56_3).f3).length c485_5)) (fun _ hk => hk.2) (.slice A485_6 ((rd_T58 t473 x56_3).f4).length c485_6)) (fun _ hk => ⟨hk.1.1.1, hk.1.1.2⟩)⟩, ⟨by (with_reducible repeat (first | refine blk_drewN ?_ _ | refine blk_drew ?_ | refine blk_alloc ?_ _)); refine blk_far ?_ NB480_486.out _; (with_reducible repeat (first | refine blk_drewN ?_ _ | refine blk_drew ?_ | refine blk_alloc ?_ _)); refine blk_far ?_ NB480_486.out _; (with_reducible repeat (first | refine blk_drewN ?_ _ | refine blk_drew ?_ | refine blk_alloc ?_ _)); refine blk_far ?_ NB480_486.out _; (with_reducible repeat (first | refine blk_drewN ?_ _ | refine blk_drew ?_ | refine blk_alloc ?_ _)); refine blk_far ?_ NB480_486.out _; (with_reducible repeat (first | refine blk_drewN ?_ _ | refine blk_drew ?_ | refine blk_alloc ?_ _)); refine blk_far ?_ NB480_486.out _; (with_reducible repeat (first | refine blk_drewN ?_ _ | refine blk_drew ?_ | refine blk_alloc ?_ _)); refine blk_far ?_ NB480_486.out _; (with_reducible repeat (first | refine blk_drewN ?_ _ | refine blk_drew ?_ | refine blk_alloc ?_ _)); refine blk_far ?_ NB480_486.out _; (with_reducible repeat (first | refine blk_drewN ?_ _ | refine blk_drew ?_ | refine blk_alloc ?_ _)); exact BK480.out⟩, ⟨by repeat (first | (with_reducible first | exact HB.out | apply below_alloc | apply pw_below_drewN | apply below_drew1 | refine below_set ?_ GE480.out | refine below_set ?_ GE486.out) | exact HB.out)⟩⟩
           ·
            rw [if_neg c40] at H; exact absurd H (by simp)
          ·
           rw [if_neg c39] at H; exact absurd H (by simp)
         ·
          rw [if_neg c38] at H; have c38b0 : decide (x56_3 < (t473.length : Int)) = false := decide_eq_false c38; clear c38; have HC48 := Aside0.mk H; clear H
          go_upto_region 17 with (fail)
          go_cut [99] (fun v99 wc => ∃ (kq : Nat) (x99_47 : Bool), v99 = .bool x99_47 ∧ Aside0 (trustquorumlaw18_FederatedView.j3 kq t462 t473 (t477.length : Int) x51_2 x99_47 t477 = some r) ∧ Aside0 (kq ≤ k3) ∧ Aside0 (Kd.N k58 58 wc w.heap.size (fun k_ => some k_ ≠ ((.slice Ao21 t477.length co21) : Value).ownBlock ∧ k_ ≠ gb480) (.slice Ao18 t473.length co18) t473) ∧ Aside0 (Kd.N k54 54 wc w.heap.size (fun k_ => some k_ ≠ ((.slice Ao18 t473.length co18) : Value).ownBlock ∧ k_ ≠ gb480) (.slice Ao21 t477.length co21) t477) ∧ Aside0 (wc.heap[gb480]? = some (.cells #[(.slice Ao21 t477.length co21)] 27 (0, 0))) ∧ Aside0 (Below w.heap.size w wc))
          case first =>
           have H := HC48.out; clear HC48
           by_cases c49 : x51_2 = t462
           ·
            rw [if_pos c49] at H; have c49b0 : (x51_2 == t462) = true := beq_iff_eq.mpr c49; have c49b1 : (x51_2 != t462) = false := bne_eq_false_iff_eq.mpr c49; clear c49; (first | rw [c49b0] | (simp only [i64_w, i32_w]; rw [c49b0]) | skip); have H' := Aside0.mk H; clear H
            try go_wp2
            replace HO_6 := Aside0.mk (Kd.N_drew HO_6.out); replace HO_481000 := Aside0.mk (Kd.N_drew HO_481000.out); replace BK480 := Aside0.mk (blk_drew BK480.out); replace HB := Aside0.mk (below_drew1 HB.out); refine start_ (n := 33) (S := fun w' => True) (ds := []) #[false, false, false, false, false, false, false, false, false, false, false, false, false, false, false, false, false, false, false, false, false, false, false, false, false, false, false, false, false, false, false, false, false] (by kernel_rfl) rfl rfl trivial (fun hHeld => ?_); refine with_tabW trustquorumlaw18_FederatedView.tab17 trustquorumlaw18_FederatedView.bits17 (fun HT_ HW_ => ?_); generalize wr.drew = w50 at HO_6 HO_481000 BK480 HB hHeld ⊢; refine pure_ (i := 0) (N := some 67) (v := ?_) (a' := ?_) #[true, false, false, false, false, false, false, false, false, false, false, false, false, false, false, false, false, false, false, false, false, false, false, false, false, false, false, false, false, false, false, false, false] rfl rfl (any_of HT_.out (by kernel_rfl)) (fun _ _ _ h => h) (Or.inl ⟨by rfl, ?_⟩) ?_ ?_; rotate_left
            ·
             intro w'; go_simp
             with_reducible rfl
            rotate_left
            ·
             simp only [Act.put, List.setIfInBounds_toArray, List.set_cons_zero, List.set_cons_succ, i64_w, i32_w]; rfl
            refine pure_ (i := 1) (N := some 68) (v := ?_) (a' := ?_) #[true, true, false, false, false, false, false, false, false, false, false, false, false, false, false, false, false, false, false, false, false, false, false, false, false, false, false, false, false, false, false, false, false] rfl rfl (any_of HT_.out (by kernel_rfl)) (fun _ _ _ h => h) (Or.inl ⟨by rfl, ?_⟩) ?_ ?_; rotate_left
            ·
             intro w'; go_simp
             with_reducible rfl
            rotate_left
            ·
             simp only [Act.put, List.setIfInBounds_toArray, List.set_cons_zero, List.set_cons_succ, i64_w, i32_w]; rfl
            refine pure_ (i := 2) (N := some 69) (v := ?_) (a' := ?_) #[true, true, true, false, false, false, false, false, false, false, false, false, false, false, false, false, false, false, false, false, false, false, false, false, false, false, false, false, false, false, false, false, false] rfl rfl (any_of HT_.out (by kernel_rfl)) (fun _ _ _ h => h) (Or.inl ⟨by rfl, ?_⟩) ?_ ?_; rotate_left
            ·
             intro w'; go_simp
             with_reducible rfl
            rotate_left
            ·
             simp only [Act.put, List.setIfInBounds_toArray, List.set_cons_zero, List.set_cons_succ, i64_w, i32_w]; rfl
            refine pure_ (i := 3) (N := some 70) (v := ?_) (a' := ?_) #[true, true, true, true, false, false, false, false, false, false, false, false, false, false, false, false, false, false, false, false, false, false, false, false, false, false, false, false, false, false, false, false, false] rfl rfl (any_of HT_.out (by kernel_rfl)) (fun _ _ _ h => h) (Or.inl ⟨by rfl, ?_⟩) ?_ ?_; rotate_left
            ·
             intro w'; go_simp
             with_reducible rfl
            rotate_left
            ·
             simp only [Act.put, List.setIfInBounds_toArray, List.set_cons_zero, List.set_cons_succ, i64_w, i32_w]; rfl
            refine pure_ (i := 4) (N := some 71) (v := undef) (a' := ?_) #[true, true, true, true, true, false, false, false, false, false, false, false, false, false, false, false, false, false, false, false, false, false, false, false, false, false, false, false, false, false, false, false, false] rfl rfl (any_of HT_.out (by kernel_rfl)) (fun _ _ _ h => h) (Or.inr ⟨by rfl, rfl⟩) ?_ ?_; rotate_left
            ·
             simp only [Act.put, List.setIfInBounds_toArray, List.set_cons_zero, List.set_cons_succ, i64_w, i32_w]; rfl
            refine pure_ (i := 5) (N := some 72) (v := undef) (a' := ?_) #[true, true, true, true, true, true, false, false, false, false, false, false, false, false, false, false, false, false, false, false, false, false, false, false, false, false, false, false, false, false, false, false, false] rfl rfl (any_of HT_.out (by kernel_rfl)) (fun _ _ _ h => h) (Or.inr ⟨by rfl, rfl⟩) ?_ ?_; rotate_left
            ·
             simp only [Act.put, List.setIfInBounds_toArray, List.set_cons_zero, List.set_cons_succ, i64_w, i32_w]; rfl
            refine pure_ (i := 6) (N := some 73) (v := undef) (a' := ?_) #[true, true, true, true, true, true, true, false, false, false, false, false, false, false, false, false, false, false, false, false, false, false, false, false, false, false, false, false, false, false, false, false, false] rfl rfl (any_of HT_.out (by kernel_rfl)) (fun _ _ _ h => h) (Or.inr ⟨by rfl, rfl⟩) ?_ ?_; rotate_left
            ·
             simp only [Act.put, List.setIfInBounds_toArray, List.set_cons_zero, List.set_cons_succ, i64_w, i32_w]; rfl
            refine pure_ (i := 7) (N := some 74) (v := undef) (a' := ?_) #[true, true, true, true, true, true, true, true, false, false, false, false, false, false, false, false, false, false, false, false, false, false, false, false, false, false, false, false, false, false, false, false, false] rfl rfl (any_of HT_.out (by kernel_rfl)) (fun _ _ _ h => h) (Or.inr ⟨by rfl, rfl⟩) ?_ ?_; rotate_left
            ·
             simp only [Act.put, List.setIfInBounds_toArray, List.set_cons_zero, List.set_cons_succ, i64_w, i32_w]; rfl
            refine pure_ (i := 8) (N := some 75) (v := undef) (a' := ?_) #[true, true, true, true, true, true, true, true, true, false, false, false, false, false, false, false, false, false, false, false, false, false, false, false, false, false, false, false, false, false, false, false, false] rfl rfl (any_of HT_.out (by kernel_rfl)) (fun _ _ _ h => h) (Or.inr ⟨by rfl, rfl⟩) ?_ ?_; rotate_left
            ·
             simp only [Act.put, List.setIfInBounds_toArray, List.set_cons_zero, List.set_cons_succ, i64_w, i32_w]; rfl
            refine pure_ (i := 9) (N := some 76) (v := undef) (a' := ?_) #[true, true, true, true, true, true, true, true, true, true, false, false, false, false, false, false, false, false, false, false, false, false, false, false, false, false, false, false, false, false, false, false, false] rfl rfl (any_of HT_.out (by kernel_rfl)) (fun _ _ _ h => h) (Or.inr ⟨by rfl, rfl⟩) ?_ ?_; rotate_left
            ·
             simp only [Act.put, List.setIfInBounds_toArray, List.set_cons_zero, List.set_cons_succ, i64_w, i32_w]; rfl
            refine pure_ (i := 10) (N := some 77) (v := undef) (a' := ?_) #[true, true, true, true, true, true, true, true, true, true, true, false, false, false, false, false, false, false, false, false, false, false, false, false, false, false, false, false, false, false, false, false, false] rfl rfl (any_of HT_.out (by kernel_rfl)) (fun _ _ _ h => h) (Or.inr ⟨by rfl, rfl⟩) ?_ ?_; rotate_left
            ·
             simp only [Act.put, List.setIfInBounds_toArray, List.set_cons_zero, List.set_cons_succ, i64_w, i32_w]; rfl
            refine pure_ (i := 11) (N := some 78) (v := undef) (a' := ?_) #[true, true, true, true, true, true, true, true, true, true, true, true, false, false, false, false, false, false, false, false, false, false, false, false, false, false, false, false, false, false, false, false, false] rfl rfl (any_of HT_.out (by kernel_rfl)) (fun _ _ _ h => h) (Or.inr ⟨by rfl, rfl⟩) ?_ ?_; rotate_left
            ·
             simp only [Act.put, List.setIfInBounds_toArray, List.set_cons_zero, List.set_cons_succ, i64_w, i32_w]; rfl
            refine pure_ (i := 12) (N := some 79) (v := undef) (a' := ?_) #[true, true, true, true, true, true, true, true, true, true, true, true, true, false, false, false, false, false, false, false, false, false, false, false, false, false, false, false, false, false, false, false, false] rfl rfl (any_of HT_.out (by kernel_rfl)) (fun _ _ _ h => h) (Or.inr ⟨by rfl, rfl⟩) ?_ ?_; rotate_left
            ·
             simp only [Act.put, List.setIfInBounds_toArray, List.set_cons_zero, List.set_cons_succ, i64_w, i32_w]; rfl
            refine pure_ (i := 13) (N := some 80) (v := undef) (a' := ?_) #[true, true, true, true, true, true, true, true, true, true, true, true, true, true, false, false, false, false, false, false, false, false, false, false, false, false, false, false, false, false, false, false, false] rfl rfl (any_of HT_.out (by kernel_rfl)) (fun _ _ _ h => h) (Or.inr ⟨by rfl, rfl⟩) ?_ ?_; rotate_left
            ·
             simp only [Act.put, List.setIfInBounds_toArray, List.set_cons_zero, List.set_cons_succ, i64_w, i32_w]; rfl
            refine pure_ (i := 14) (N := some 81) (v := undef) (a' := ?_) #[true, true, true, true, true, true, true, true, true, true, true, true, true, true, true, false, false, false, false, false, false, false, false, false, false, false, false, false, false, false, false, false, false] rfl rfl (any_of HT_.out (by kernel_rfl)) (fun _ _ _ h => h) (Or.inr ⟨by rfl, rfl⟩) ?_ ?_; rotate_left
            ·
             simp only [Act.put, List.setIfInBounds_toArray, List.set_cons_zero, List.set_cons_succ, i64_w, i32_w]; rfl
            refine pure_ (i := 15) (N := some 82) (v := undef) (a' := ?_) #[true, true, true, true, true, true, true, true, true, true, true, true, true, true, true, true, false, false, false, false, false, false, false, false, false, false, false, false, false, false, false, false, false] rfl rfl (any_of HT_.out (by kernel_rfl)) (fun _ _ _ h => h) (Or.inr ⟨by rfl, rfl⟩) ?_ ?_; rotate_left
            ·
             simp only [Act.put, List.setIfInBounds_toArray, List.set_cons_zero, List.set_cons_succ, i64_w, i32_w]; rfl
            refine pure_ (i := 16) (N := some 83) (v := undef) (a' := ?_) #[true, true, true, true, true, true, true, true, true, true, true, true, true, true, true, true, true, false, false, false, false, false, false, false, false, false, false, false, false, false, false, false, false] rfl rfl (any_of HT_.out (by kernel_rfl)) (fun _ _ _ h => h) (Or.inr ⟨by rfl, rfl⟩) ?_ ?_; rotate_left
            ·
             simp only [Act.put, List.setIfInBounds_toArray, List.set_cons_zero, List.set_cons_succ, i64_w, i32_w]; rfl
            refine pure_ (i := 17) (N := some 84) (v := undef) (a' := ?_) #[true, true, true, true, true, true, true, true, true, true, true, true, true, true, true, true, true, true, false, false, false, false, false, false, false, false, false, false, false, false, false, false, false] rfl rfl (any_of HT_.out (by kernel_rfl)) (fun _ _ _ h => h) (Or.inr ⟨by rfl, rfl⟩) ?_ ?_; rotate_left
            ·
             simp only [Act.put, List.setIfInBounds_toArray, List.set_cons_zero, List.set_cons_succ, i64_w, i32_w]; rfl
            refine pure_ (i := 18) (N := some 85) (v := undef) (a' := ?_) #[true, true, true, true, true, true, true, true, true, true, true, true, true, true, true, true, true, true, true, false, false, false, false, false, false, false, false, false, false, false, false, false, false] rfl rfl (any_of HT_.out (by kernel_rfl)) (fun _ _ _ h => h) (Or.inr ⟨by rfl, rfl⟩) ?_ ?_; rotate_left
            ·
             simp only [Act.put, List.setIfInBounds_toArray, List.set_cons_zero, List.set_cons_succ, i64_w, i32_w]; rfl
            refine pure_ (i := 19) (N := some 86) (v := undef) (a' := ?_) #[true, true, true, true, true, true, true, true, true, true, true, true, true, true, true, true, true, true, true, true, false, false, false, false, false, false, false, false, false, false, false, false, false] rfl rfl (any_of HT_.out (by kernel_rfl)) (fun _ _ _ h => h) (Or.inr ⟨by rfl, rfl⟩) ?_ ?_; rotate_left
            ·
             simp only [Act.put, List.setIfInBounds_toArray, List.set_cons_zero, List.set_cons_succ, i64_w, i32_w]; rfl
            refine pure_ (i := 20) (N := some 87) (v := undef) (a' := ?_) #[true, true, true, true, true, true, true, true, true, true, true, true, true, true, true, true, true, true, true, true, true, false, false, false, false, false, false, false, false, false, false, false, false] rfl rfl (any_of HT_.out (by kernel_rfl)) (fun _ _ _ h => h) (Or.inr ⟨by rfl, rfl⟩) ?_ ?_; rotate_left
            ·
             simp only [Act.put, List.setIfInBounds_toArray, List.set_cons_zero, List.set_cons_succ, i64_w, i32_w]; rfl
            refine pure_ (i := 21) (N := some 88) (v := undef) (a' := ?_) #[true, true, true, true, true, true, true, true, true, true, true, true, true, true, true, true, true, true, true, true, true, true, false, false, false, false, false, false, false, false, false, false, false] rfl rfl (any_of HT_.out (by kernel_rfl)) (fun _ _ _ h => h) (Or.inr ⟨by rfl, rfl⟩) ?_ ?_; rotate_left
            ·
             simp only [Act.put, List.setIfInBounds_toArray, List.set_cons_zero, List.set_cons_succ, i64_w, i32_w]; rfl
            refine pure_ (i := 22) (N := some 89) (v := undef) (a' := ?_) #[true, true, true, true, true, true, true, true, true, true, true, true, true, true, true, true, true, true, true, true, true, true, true, false, false, false, false, false, false, false, false, false, false] rfl rfl (any_of HT_.out (by kernel_rfl)) (fun _ _ _ h => h) (Or.inr ⟨by rfl, rfl⟩) ?_ ?_; rotate_left
            ·
             simp only [Act.put, List.setIfInBounds_toArray, List.set_cons_zero, List.set_cons_succ, i64_w, i32_w]; rfl
            refine pure_ (i := 23) (N := some 90) (v := undef) (a' := ?_) #[true, true, true, true, true, true, true, true, true, true, true, true, true, true, true, true, true, true, true, true, true, true, true, true, false, false, false, false, false, false, false, false, false] rfl rfl (any_of HT_.out (by kernel_rfl)) (fun _ _ _ h => h) (Or.inr ⟨by rfl, rfl⟩) ?_ ?_; rotate_left
            ·
             simp only [Act.put, List.setIfInBounds_toArray, List.set_cons_zero, List.set_cons_succ, i64_w, i32_w]; rfl
            refine pure_ (i := 24) (N := some 91) (v := undef) (a' := ?_) #[true, true, true, true, true, true, true, true, true, true, true, true, true, true, true, true, true, true, true, true, true, true, true, true, true, false, false, false, false, false, false, false, false] rfl rfl (any_of HT_.out (by kernel_rfl)) (fun _ _ _ h => h) (Or.inr ⟨by rfl, rfl⟩) ?_ ?_; rotate_left
            ·
             simp only [Act.put, List.setIfInBounds_toArray, List.set_cons_zero, List.set_cons_succ, i64_w, i32_w]; rfl
            refine pure_ (i := 25) (N := some 92) (v := undef) (a' := ?_) #[true, true, true, true, true, true, true, true, true, true, true, true, true, true, true, true, true, true, true, true, true, true, true, true, true, true, false, false, false, false, false, false, false] rfl rfl (any_of HT_.out (by kernel_rfl)) (fun _ _ _ h => h) (Or.inr ⟨by rfl, rfl⟩) ?_ ?_; rotate_left
            ·
             simp only [Act.put, List.setIfInBounds_toArray, List.set_cons_zero, List.set_cons_succ, i64_w, i32_w]; rfl
            refine pure_ (i := 26) (N := some 93) (v := undef) (a' := ?_) #[true, true, true, true, true, true, true, true, true, true, true, true, true, true, true, true, true, true, true, true, true, true, true, true, true, true, true, false, false, false, false, false, false] rfl rfl (any_of HT_.out (by kernel_rfl)) (fun _ _ _ h => h) (Or.inr ⟨by rfl, rfl⟩) ?_ ?_; rotate_left
            ·
             simp only [Act.put, List.setIfInBounds_toArray, List.set_cons_zero, List.set_cons_succ, i64_w, i32_w]; rfl
            refine pure_ (i := 27) (N := some 94) (v := undef) (a' := ?_) #[true, true, true, true, true, true, true, true, true, true, true, true, true, true, true, true, true, true, true, true, true, true, true, true, true, true, true, true, false, false, false, false, false] rfl rfl (any_of HT_.out (by kernel_rfl)) (fun _ _ _ h => h) (Or.inr ⟨by rfl, rfl⟩) ?_ ?_; rotate_left
            ·
             simp only [Act.put, List.setIfInBounds_toArray, List.set_cons_zero, List.set_cons_succ, i64_w, i32_w]; rfl
            refine pure_ (i := 28) (N := some 95) (v := undef) (a' := ?_) #[true, true, true, true, true, true, true, true, true, true, true, true, true, true, true, true, true, true, true, true, true, true, true, true, true, true, true, true, true, false, false, false, false] rfl rfl (any_of HT_.out (by kernel_rfl)) (fun _ _ _ h => h) (Or.inr ⟨by rfl, rfl⟩) ?_ ?_; rotate_left
            ·
             simp only [Act.put, List.setIfInBounds_toArray, List.set_cons_zero, List.set_cons_succ, i64_w, i32_w]; rfl
            refine pure_ (i := 29) (N := some 96) (v := undef) (a' := ?_) #[true, true, true, true, true, true, true, true, true, true, true, true, true, true, true, true, true, true, true, true, true, true, true, true, true, true, true, true, true, true, false, false, false] rfl rfl (any_of HT_.out (by kernel_rfl)) (fun _ _ _ h => h) (Or.inr ⟨by rfl, rfl⟩) ?_ ?_; rotate_left
            ·
             simp only [Act.put, List.setIfInBounds_toArray, List.set_cons_zero, List.set_cons_succ, i64_w, i32_w]; rfl
            refine pure_ (i := 30) (N := some 97) (v := undef) (a' := ?_) #[true, true, true, true, true, true, true, true, true, true, true, true, true, true, true, true, true, true, true, true, true, true, true, true, true, true, true, true, true, true, true, false, false] rfl rfl (any_of HT_.out (by kernel_rfl)) (fun _ _ _ h => h) (Or.inr ⟨by rfl, rfl⟩) ?_ ?_; rotate_left
            ·
             simp only [Act.put, List.setIfInBounds_toArray, List.set_cons_zero, List.set_cons_succ, i64_w, i32_w]; rfl
            refine pure_ (i := 31) (N := some 98) (v := undef) (a' := ?_) #[true, true, true, true, true, true, true, true, true, true, true, true, true, true, true, true, true, true, true, true, true, true, true, true, true, true, true, true, true, true, true, true, false] rfl rfl (any_of HT_.out (by kernel_rfl)) (fun _ _ _ h => h) (Or.inr ⟨by rfl, rfl⟩) ?_ ?_; rotate_left
            ·
             simp only [Act.put, List.setIfInBounds_toArray, List.set_cons_zero, List.set_cons_succ, i64_w, i32_w]; rfl
            refine pure_ (i := 32) (N := some 99) (v := ?_) (a' := ?_) #[true, true, true, true, true, true, true, true, true, true, true, true, true, true, true, true, true, true, true, true, true, true, true, true, true, true, true, true, true, true, true, true, true] rfl rfl (any_of HT_.out (by kernel_rfl)) (fun _ _ _ h => h) (Or.inl ⟨by rfl, ?_⟩) ?_ ?_; rotate_left
            ·
             intro w'; go_simp
             with_reducible rfl
            rotate_left
            ·
             simp only [Act.put, List.setIfInBounds_toArray, List.set_cons_zero, List.set_cons_succ, i64_w, i32_w]; rfl
            refine done_ (done_of HT_.out (by kernel_rfl)) ?_
            try go_wp2
            go_meet
            case rel => exact ⟨_, (false), (by first | rfl | (simp; done) | (simp [*]; done) | (refine congrArg (Value.int .i64) ?_; unfold wrap64; omega)), H', ⟨by have := HJ6.out; have := HK2.out; have := HK3.out; first | omega | exact Nat.le_refl _⟩, ⟨by exact HO_6.out⟩, ⟨by exact HO_481000.out⟩, ⟨by exact BK480.out⟩, ⟨by exact HB.out⟩⟩
           ·
            rw [if_neg c49] at H; have c49b0 : (x51_2 == t462) = false := beq_eq_false_iff_ne.mpr c49; have c49b1 : (x51_2 != t462) = true := bne_iff_ne.mpr c49; (first | rw [c49b0] | (simp only [i64_w, i32_w]; rw [c49b0]) | skip)
            by_cases c51 : 0 ≤ x51_2
            ·
             rw [if_pos c51] at H; have c51b0 : decide (0 ≤ x51_2) = true := decide_eq_true c51; clear c51
             by_cases c52 : x51_2 < (t477.length : Int)
             ·
              rw [if_pos c52] at H; have c52b0 : decide (x51_2 < (t477.length : Int)) = true := decide_eq_true c52; clear c52
              by_cases c53 : (((rd_T54 t477 x51_2).f0) != (decide (x9_3 ≥ 0))) = true
              ·
               rw [if_pos c53] at H; have c53b0 : (((rd_T54 t477 x51_2).f0) != (decide (x9_3 ≥ 0))) = true := c53; (try (have c53b1 : decide (((rd_T54 t477 x51_2).f0) = (decide (x9_3 ≥ 0))) = false := by simpa using c53)); (try (have c53b2 : (((rd_T54 t477 x51_2).f0) == (decide (x9_3 ≥ 0))) = false := by simpa using c53)); (try (have c53b3 : ¬ (((rd_T54 t477 x51_2).f0) = (decide (x9_3 ≥ 0))) := by simpa using c53)); (try (have c53b4 : (((rd_T54 t477 x51_2).f0) != (decide (0 ≤ x9_3))) = true := by first | exact c53 | simpa using c53)); (try (have c53b5 : decide (((rd_T54 t477 x51_2).f0) = (decide (0 ≤ x9_3))) = false := by first | exact c53 | simpa using c53)); (try (have c53b6 : (((rd_T54 t477 x51_2).f0) == (decide (0 ≤ x9_3))) = false := by first | exact c53 | simpa using c53)); (try (have c53b7 : ¬ (((rd_T54 t477 x51_2).f0) = (decide (0 ≤ x9_3))) := by first | exact c53 | simpa using c53)); clear c53
               cases k3 with
               | zero => exact absurd H (by simp [trustquorumlaw18_FederatedView.j3])
               | succ kz_ => rw [trustquorumlaw18_FederatedView.j3, if_pos rfl] at H; exact absurd ((Option.some.inj H).trans HRT.out) (by decide)
              ·
               rw [if_neg c53] at H; have c53b0 : (((rd_T54 t477 x51_2).f0) != (decide (x9_3 ≥ 0))) = false := by simpa using c53
               (try (have c53b1 : decide (((rd_T54 t477 x51_2).f0) = (decide (x9_3 ≥ 0))) = true := by simpa using c53)); (try (have c53b2 : (((rd_T54 t477 x51_2).f0) == (decide (x9_3 ≥ 0))) = true := by simpa using c53)); (try (have c53b3 : (((rd_T54 t477 x51_2).f0) != (decide (0 ≤ x9_3))) = false := by first | exact c53 | simpa using c53)); (try (have c53b4 : decide (((rd_T54 t477 x51_2).f0) = (decide (0 ≤ x9_3))) = true := by first | exact c53 | simpa using c53)); (try (have c53b5 : (((rd_T54 t477 x51_2).f0) == (decide (0 ≤ x9_3))) = true := by first | exact c53 | simpa using c53)); clear c53
               by_cases c54 : x9_3 ≥ 0
               ·
                rw [if_pos c54] at H; have c54b0 : decide (0 ≤ x9_3) = true := decide_eq_true c54; (try (have c54z9 : (!((rd_T54 t477 x51_2).f0)) = false := by simpa [c54b0] using c53b3)); clear c54
                by_cases c55 : 0 ≤ x9_3
                ·
                 rw [if_pos c55] at H; have c55b0 : decide (0 ≤ x9_3) = true := decide_eq_true c55; (try (have c55z9 : (!((rd_T54 t477 x51_2).f0)) = false := by simpa [c55b0] using c53b3)); clear c55
                 by_cases c56 : x9_3 < (t473.length : Int)
                 ·
                  rw [if_pos c56] at H; have c56b0 : decide (x9_3 < (t473.length : Int)) = true := decide_eq_true c56; clear c56; replace H := Option.bind_eq_some_iff.mp H; obtain ⟨t490, A570, H⟩ := H; replace H : (trustquorumlaw18_FederatedView.j3 k3 t462 t473 (t477.length : Int) x51_2 (!t490) t477) = some r := H; have A57 := Aside0.mk A570; clear A570; have H' := Aside0.mk H; clear H
                  try go_wp2
                  replace HO_6 := Aside0.mk (Kd.N_drew HO_6.out); replace HO_481000 := Aside0.mk (Kd.N_drew HO_481000.out); replace BK480 := Aside0.mk (blk_drew BK480.out); replace HB := Aside0.mk (below_drew1 HB.out); have p487 : 0 ≤ (x51_2 : Int) := of_decide_eq_true (by first | (with_reducible assumption) | assumption); have q487 : x51_2 < (t477.length : Int) := of_decide_eq_true (by first | (with_reducible assumption) | assumption); obtain ⟨ad487, A487_2, c487_2, A487_3, c487_3, e487, hx487_0, hx487_1, hx487_2, hx487_3, hl487_2, hi487_2, hl487_3, hi487_3⟩ := at_T54 (Kd.N_reads' HO_481000.out).2.2 x51_2 p487 q487
                  cases e487
                  obtain ⟨ce487, hce487, hMe487, hcc487⟩ := Kd.N_get HO_481000.out z54 x51_2 p487 (by first | exact q487 | exact of_decide_eq_true (by first | (with_reducible assumption) | assumption) | (have e_ := (Kd.N_reads' HO_481000.out).1; omega)); obtain ⟨ua487_2, uc487_2, ua487_3, uc487_3, rfl, ul487_2, ge487_2, ul487_3, ge487_3⟩ := k54_openF hMe487; have hv487_2 := hcc487 2 _ rfl; rw [add_field _ _ 2 (by omega)] at hv487_2; replace hv487_2 := Option.some.inj (hv487_2.symm.trans hx487_2); injection hv487_2 with hva_ hvn_ hvc_
                  rw [hva_] at ge487_2; rw [hvc_] at ul487_2; have HL487_2 := Aside0.mk (show Kd.V (Kd.int .i64) 3 _ w.heap.size _ _ ((rd_T54 t477 x51_2).f1.f1) from Kd.V_mk ul487_2 ge487_2); clear hva_ hvn_ hvc_ ge487_2 ul487_2; have hv487_3 := hcc487 3 _ rfl; rw [add_field _ _ 3 (by omega)] at hv487_3; replace hv487_3 := Option.some.inj (hv487_3.symm.trans hx487_3); injection hv487_3 with hva_ hvn_ hvc_
                  rw [hva_] at ge487_3; rw [hvc_] at ul487_3; have HL487_3 := Aside0.mk (show Kd.V k48 48 _ w.heap.size _ _ ((rd_T54 t477 x51_2).f1.f2) from Kd.V_mk ul487_3 ge487_3); clear hva_ hvn_ hvc_ ge487_3 ul487_3; clear hcc487 hce487; have HR487_2 := Aside0.mk hi487_2; have HC487_2 := Aside0.mk hl487_2; clear hi487_2 hl487_2; have HR487_3 := Aside0.mk hi487_3; have HC487_3 := Aside0.mk hl487_3; clear hi487_3 hl487_3; replace p487 := eq_true p487; replace q487 := eq_true q487; have p488 : 0 ≤ (x51_2 : Int) := of_decide_eq_true (by first | (with_reducible assumption) | assumption); have q488 : x51_2 < (t477.length : Int) := of_decide_eq_true (by first | (with_reducible assumption) | assumption); obtain ⟨ad488, A488_2, c488_2, A488_3, c488_3, e488, hx488_0, hx488_1, hx488_2, hx488_3, hl488_2, hi488_2, hl488_3, hi488_3⟩ := at_T54 (Kd.N_reads' HO_481000.out).2.2 x51_2 p488 q488; obtain rfl : ad487 = ad488 := (by injection e488); obtain ⟨ce488, hce488, hMe488, hcc488⟩ := Kd.N_get HO_481000.out z54 x51_2 p488 (by first | exact q488 | exact of_decide_eq_true (by first | (with_reducible assumption) | assumption) | (have e_ := (Kd.N_reads' HO_481000.out).1; omega)); obtain ⟨ua488_2, uc488_2, ua488_3, uc488_3, rfl, ul488_2, ge488_2, ul488_3, ge488_3⟩ := k54_openF hMe488; have hv488_2 := hcc488 2 _ rfl; rw [add_field _ _ 2 (by omega)] at hv488_2; replace hv488_2 := Option.some.inj (hv488_2.symm.trans hx488_2); injection hv488_2 with hva_ hvn_ hvc_
                  rw [hva_] at ge488_2; rw [hvc_] at ul488_2; have HL488_2 := Aside0.mk (show Kd.V (Kd.int .i64) 3 _ w.heap.size _ _ ((rd_T54 t477 x51_2).f1.f1) from Kd.V_mk ul488_2 ge488_2); clear hva_ hvn_ hvc_ ge488_2 ul488_2; have hv488_3 := hcc488 3 _ rfl; rw [add_field _ _ 3 (by omega)] at hv488_3; replace hv488_3 := Option.some.inj (hv488_3.symm.trans hx488_3); injection hv488_3 with hva_ hvn_ hvc_
                  rw [hva_] at ge488_3; rw [hvc_] at ul488_3; have HL488_3 := Aside0.mk (show Kd.V k48 48 _ w.heap.size _ _ ((rd_T54 t477 x51_2).f1.f2) from Kd.V_mk ul488_3 ge488_3); clear hva_ hvn_ hvc_ ge488_3 ul488_3; clear hcc488 hce488; have HR488_2 := Aside0.mk hi488_2; have HC488_2 := Aside0.mk hl488_2; clear hi488_2 hl488_2; have HR488_3 := Aside0.mk hi488_3; have HC488_3 := Aside0.mk hl488_3; clear hi488_3 hl488_3; replace p488 := eq_true p488; replace q488 := eq_true q488; have ea_ := Option.some.inj (hx487_2.symm.trans hx488_2); injection ea_ with ea_ en_ ec_
                  subst ea_; subst ec_; clear en_; have ea_ := Option.some.inj (hx487_3.symm.trans hx488_3); injection ea_ with ea_ en_ ec_
                  subst ea_; subst ec_; clear en_; have p489 : 0 ≤ (x9_3 : Int) := of_decide_eq_true (by first | (with_reducible assumption) | assumption); have q489 : x9_3 < (t473.length : Int) := of_decide_eq_true (by first | (with_reducible assumption) | assumption); obtain ⟨ad489, A489_3, c489_3, A489_4, c489_4, A489_5, c489_5, A489_6, c489_6, e489, hx489_0, hx489_1, hx489_2, hx489_3, hx489_4, hx489_5, hx489_6, hl489_3, hi489_3, hl489_4, hi489_4, hl489_5, hi489_5, hl489_6, hi489_6⟩ := at_T58 (Kd.N_reads' HO_6.out).2.2 x9_3 p489 q489
                  cases e489
                  obtain ⟨ce489, hce489, hMe489, hcc489⟩ := Kd.N_get HO_6.out z58 x9_3 p489 (by first | exact q489 | exact of_decide_eq_true (by first | (with_reducible assumption) | assumption) | (have e_ := (Kd.N_reads' HO_6.out).1; omega)); obtain ⟨ua489_3, uc489_3, ua489_4, uc489_4, ua489_5, uc489_5, ua489_6, uc489_6, rfl, ul489_3, ge489_3, ul489_4, ge489_4, ul489_5, ge489_5, ul489_6, ge489_6⟩ := k58_openF hMe489; have hv489_3 := hcc489 3 _ rfl; rw [add_field _ _ 3 (by omega)] at hv489_3; replace hv489_3 := Option.some.inj (hv489_3.symm.trans hx489_3); injection hv489_3 with hva_ hvn_ hvc_
                  rw [hva_] at ge489_3; rw [hvc_] at ul489_3; have HL489_3 := Aside0.mk (show Kd.V (Kd.int .i64) 3 _ w.heap.size _ _ ((rd_T58 t473 x9_3).f2.f1) from Kd.V_mk ul489_3 ge489_3); clear hva_ hvn_ hvc_ ge489_3 ul489_3; have hv489_4 := hcc489 4 _ rfl; rw [add_field _ _ 4 (by omega)] at hv489_4; replace hv489_4 := Option.some.inj (hv489_4.symm.trans hx489_4); injection hv489_4 with hva_ hvn_ hvc_
                  rw [hva_] at ge489_4; rw [hvc_] at ul489_4; have HL489_4 := Aside0.mk (show Kd.V k48 48 _ w.heap.size _ _ ((rd_T58 t473 x9_3).f2.f2) from Kd.V_mk ul489_4 ge489_4); clear hva_ hvn_ hvc_ ge489_4 ul489_4; have hv489_5 := hcc489 5 _ rfl; rw [add_field _ _ 5 (by omega)] at hv489_5; replace hv489_5 := Option.some.inj (hv489_5.symm.trans hx489_5); injection hv489_5 with hva_ hvn_ hvc_
                  rw [hva_] at ge489_5; rw [hvc_] at ul489_5; have HL489_5 := Aside0.mk (show Kd.V k60 60 _ w.heap.size _ _ ((rd_T58 t473 x9_3).f3) from Kd.V_mk ul489_5 ge489_5); clear hva_ hvn_ hvc_ ge489_5 ul489_5; have hv489_6 := hcc489 6 _ rfl; rw [add_field _ _ 6 (by omega)] at hv489_6; replace hv489_6 := Option.some.inj (hv489_6.symm.trans hx489_6); injection hv489_6 with hva_ hvn_ hvc_
                  rw [hva_] at ge489_6; rw [hvc_] at ul489_6; have HL489_6 := Aside0.mk (show Kd.V k60 60 _ w.heap.size _ _ ((rd_T58 t473 x9_3).f4) from Kd.V_mk ul489_6 ge489_6); clear hva_ hvn_ hvc_ ge489_6 ul489_6; clear hcc489 hce489; have HR489_3 := Aside0.mk hi489_3; have HC489_3 := Aside0.mk hl489_3; clear hi489_3 hl489_3; have HR489_4 := Aside0.mk hi489_4; have HC489_4 := Aside0.mk hl489_4; clear hi489_4 hl489_4; have HR489_5 := Aside0.mk hi489_5; have HC489_5 := Aside0.mk hl489_5; clear hi489_5 hl489_5; have HR489_6 := Aside0.mk hi489_6; have HC489_6 := Aside0.mk hl489_6; clear hi489_6 hl489_6; replace p489 := eq_true p489; replace q489 := eq_true q489; refine start_ (n := 33) (S := fun w' => w'.cell? ⟨gb480, 0, none⟩ = some (.slice (some ad487) t477.length co21) ∧ w'.cell? (ad487.add ((x51_2).toNat * 4)) = some (.bool ((rd_T54 t477 x51_2).f0)) ∧ w'.cell? ⟨(ad487.add ((x51_2).toNat * 4)).block, (ad487.add ((x51_2).toNat * 4)).off + 1, none⟩ = some (.int .i64 ((rd_T54 t477 x51_2).f1.f0)) ∧ w'.cell? ⟨(ad487.add ((x51_2).toNat * 4)).block, (ad487.add ((x51_2).toNat * 4)).off + 2, none⟩ = some (.slice A487_2 ((rd_T54 t477 x51_2).f1.f1).length c487_2) ∧ w'.cell? ⟨(ad487.add ((x51_2).toNat * 4)).block, (ad487.add ((x51_2).toNat * 4)).off + 3, none⟩ = some (.slice A487_3 ((rd_T54 t477 x51_2).f1.f2).length c487_3) ∧ w'.cell? (ad487.add ((x51_2).toNat * 4)) = some (.bool ((rd_T54 t477 x51_2).f0)) ∧ w'.cell? ⟨(ad487.add ((x51_2).toNat * 4)).block, (ad487.add ((x51_2).toNat * 4)).off + 1, none⟩ = some (.int .i64 ((rd_T54 t477 x51_2).f1.f0)) ∧ w'.cell? ⟨(ad487.add ((x51_2).toNat * 4)).block, (ad487.add ((x51_2).toNat * 4)).off + 2, none⟩ = some (.slice A487_2 ((rd_T54 t477 x51_2).f1.f1).length c487_2) ∧ w'.cell? ⟨(ad487.add ((x51_2).toNat * 4)).block, (ad487.add ((x51_2).toNat * 4)).off + 3, none⟩ = some (.slice A487_3 ((rd_T54 t477 x51_2).f1.f2).length c487_3) ∧ w'.cell? (ad489.add ((x9_3).toNat * 7)) = some (.int .i64 ((rd_T58 t473 x9_3).f0)) ∧ w'.cell? ⟨(ad489.add ((x9_3).toNat * 7)).block, (ad489.add ((x9_3).toNat * 7)).off + 1, none⟩ = some (.int .i64 ((rd_T58 t473 x9_3).f1)) ∧ w'.cell? ⟨(ad489.add ((x9_3).toNat * 7)).block, (ad489.add ((x9_3).toNat * 7)).off + 2, none⟩ = some (.int .i64 ((rd_T58 t473 x9_3).f2.f0)) ∧ w'.cell? ⟨(ad489.add ((x9_3).toNat * 7)).block, (ad489.add ((x9_3).toNat * 7)).off + 3, none⟩ = some (.slice A489_3 ((rd_T58 t473 x9_3).f2.f1).length c489_3) ∧ w'.cell? ⟨(ad489.add ((x9_3).toNat * 7)).block, (ad489.add ((x9_3).toNat * 7)).off + 4, none⟩ = some (.slice A489_4 ((rd_T58 t473 x9_3).f2.f2).length c489_4) ∧ w'.cell? ⟨(ad489.add ((x9_3).toNat * 7)).block, (ad489.add ((x9_3).toNat * 7)).off + 5, none⟩ = some (.slice A489_5 ((rd_T58 t473 x9_3).f3).length c489_5) ∧ w'.cell? ⟨(ad489.add ((x9_3).toNat * 7)).block, (ad489.add ((x9_3).toNat * 7)).off + 6, none⟩ = some (.slice A489_6 ((rd_T58 t473 x9_3).f4).length c489_6)) (ds := []) #[false, false, false, false, false, false, false, false, false, false, false, false, false, false, false, false, false, false, false, false, false, false, false, false, false, false, false, false, false, false, false, false, false] (by kernel_rfl) rfl rfl ⟨(blk_cell BK480.out 0).trans rfl, hx487_0, hx487_1, hx487_2, hx487_3, hx488_0, hx488_1, hx488_2, hx488_3, hx489_0, hx489_1, hx489_2, hx489_3, hx489_4, hx489_5, hx489_6⟩ (fun hHeld => ?_); refine with_tabW trustquorumlaw18_FederatedView.tab17 trustquorumlaw18_FederatedView.bits17 (fun HT_ HW_ => ?_)
                  generalize wr.drew = w58 at HO_6 HO_481000 BK480 HB HL487_2 HL487_3 HL488_2 HL488_3 HL489_3 HL489_4 HL489_5 HL489_6 HR487_2 HR487_3 HR488_2 HR488_3 HR489_3 HR489_4 HR489_5 HR489_6 hx487_0 hx487_1 hx487_2 hx487_3 hx488_0 hx488_1 hx488_2 hx488_3 hx489_0 hx489_1 hx489_2 hx489_3 hx489_4 hx489_5 hx489_6 hHeld ⊢; refine pure_ (i := 0) (N := some 67) (v := ?_) (a' := ?_) #[true, false, false, false, false, false, false, false, false, false, false, false, false, false, false, false, false, false, false, false, false, false, false, false, false, false, false, false, false, false, false, false, false] rfl rfl (any_of HT_.out (by kernel_rfl)) (fun _ _ _ h => h) (Or.inl ⟨by rfl, ?_⟩) ?_ ?_; rotate_left
                  ·
                   intro w'; go_simp
                   with_reducible rfl
                  rotate_left
                  ·
                   simp only [Act.put, List.setIfInBounds_toArray, List.set_cons_zero, List.set_cons_succ, i64_w, i32_w]; rfl
                  refine pure_ (i := 1) (N := some 68) (v := ?_) (a' := ?_) #[true, true, false, false, false, false, false, false, false, false, false, false, false, false, false, false, false, false, false, false, false, false, false, false, false, false, false, false, false, false, false, false, false] rfl rfl (any_of HT_.out (by kernel_rfl)) (fun _ _ _ h => h) (Or.inl ⟨by rfl, ?_⟩) ?_ ?_; rotate_left
                  ·
                   intro w'; go_simp
                   with_reducible rfl
                  rotate_left
                  ·
                   simp only [Act.put, List.setIfInBounds_toArray, List.set_cons_zero, List.set_cons_succ, i64_w, i32_w]; rfl
                  refine pure_ (i := 2) (N := some 69) (v := ?_) (a' := ?_) #[true, true, true, false, false, false, false, false, false, false, false, false, false, false, false, false, false, false, false, false, false, false, false, false, false, false, false, false, false, false, false, false, false] rfl rfl (any_of HT_.out (by kernel_rfl)) (fun _ _ _ h => h) (Or.inl ⟨by rfl, ?_⟩) ?_ ?_; rotate_left
                  ·
                   intro w'; go_simp
                   with_reducible rfl
                  rotate_left
                  ·
                   simp only [Act.put, List.setIfInBounds_toArray, List.set_cons_zero, List.set_cons_succ, i64_w, i32_w]; rfl
                  refine pure_ (i := 3) (N := some 70) (v := ?_) (a' := ?_) #[true, true, true, true, false, false, false, false, false, false, false, false, false, false, false, false, false, false, false, false, false, false, false, false, false, false, false, false, false, false, false, false, false] rfl rfl (any_of HT_.out (by kernel_rfl)) (fun _ _ _ h => h) (Or.inl ⟨by rfl, ?_⟩) ?_ ?_; rotate_left
                  ·
                   intro w'; go_simp
                   with_reducible rfl
                  rotate_left
                  ·
                   simp only [Act.put, List.setIfInBounds_toArray, List.set_cons_zero, List.set_cons_succ, i64_w, i32_w]; rfl
                  refine pure_ (i := 4) (N := some 71) (v := ?_) (a' := ?_) #[true, true, true, true, true, false, false, false, false, false, false, false, false, false, false, false, false, false, false, false, false, false, false, false, false, false, false, false, false, false, false, false, false] rfl rfl (any_of HT_.out (by kernel_rfl)) (fun _ _ _ h => h) (Or.inl ⟨by rfl, ?_⟩) ?_ ?_; rotate_left
                  ·
                   intro w'; go_simp
                   with_reducible rfl
                  rotate_left
                  ·
                   simp only [Act.put, List.setIfInBounds_toArray, List.set_cons_zero, List.set_cons_succ, i64_w, i32_w]; rfl
                  refine pure_ (i := 6) (N := some 73) (v := ?_) (a' := ?_) #[true, true, true, true, true, false, true, false, false, false, false, false, false, false, false, false, false, false, false, false, false, false, false, false, false, false, false, false, false, false, false, false, false] rfl rfl (any_of HT_.out (by kernel_rfl)) (fun _ _ _ h => h) (Or.inl ⟨by rfl, ?_⟩) ?_ ?_; rotate_left
                  ·
                   intro w'; go_simp
                   with_reducible rfl
                  rotate_left
                  ·
                   simp only [Act.put, List.setIfInBounds_toArray, List.set_cons_zero, List.set_cons_succ, i64_w, i32_w]; rfl
                  refine pure_ (i := 10) (N := some 77) (v := ?_) (a' := ?_) #[true, true, true, true, true, false, true, false, false, false, true, false, false, false, false, false, false, false, false, false, false, false, false, false, false, false, false, false, false, false, false, false, false] rfl rfl (any_of HT_.out (by kernel_rfl)) (fun _ _ _ h => h) (Or.inl ⟨by rfl, ?_⟩) ?_ ?_; rotate_left
                  ·
                   intro w'; go_simp
                   with_reducible rfl
                  rotate_left
                  ·
                   simp only [Act.put, List.setIfInBounds_toArray, List.set_cons_zero, List.set_cons_succ, i64_w, i32_w]; rfl
                  refine pure_ (i := 11) (N := some 78) (v := ?_) (a' := ?_) #[true, true, true, true, true, false, true, false, false, false, true, true, false, false, false, false, false, false, false, false, false, false, false, false, false, false, false, false, false, false, false, false, false] rfl rfl (any_of HT_.out (by kernel_rfl)) (fun _ _ _ h => h) (Or.inl ⟨by rfl, ?_⟩) ?_ ?_; rotate_left
                  ·
                   intro w'; go_simp
                   with_reducible rfl
                  rotate_left
                  ·
                   simp only [Act.put, List.setIfInBounds_toArray, List.set_cons_zero, List.set_cons_succ, i64_w, i32_w]; rfl
                  refine take_ (i := 5) (N := some 72) (v := ?_) (a' := ?_) #[true, true, true, true, true, true, true, false, false, false, true, true, false, false, false, false, false, false, false, false, false, false, false, false, false, false, false, false, false, false, false, false, false] rfl rfl (take_ofW HT_.out HW_.out (by kernel_rfl)) (fun _ _ _ h => h) (Or.inl ⟨by rfl, ?_⟩) hHeld ?_ ?_; rotate_left
                  ·
                   rintro w' ⟨s0, s1, s2, s3, s4, s5, s6, s7, s8, s9, s10, s11, s12, s13, s14, s15⟩; go_simp
                   with_reducible rfl
                  rotate_left
                  ·
                   simp only [Act.put, List.setIfInBounds_toArray, List.set_cons_zero, List.set_cons_succ, i64_w, i32_w]; rfl
                  refine pure_ (i := 7) (N := some 74) (v := ?_) (a' := ?_) #[true, true, true, true, true, true, true, true, false, false, true, true, false, false, false, false, false, false, false, false, false, false, false, false, false, false, false, false, false, false, false, false, false] rfl rfl (any_of HT_.out (by kernel_rfl)) (fun _ _ _ h => h) (Or.inl ⟨by rfl, ?_⟩) ?_ ?_; rotate_left
                  ·
                   intro w'; go_simp
                   with_reducible rfl
                  rotate_left
                  ·
                   simp only [Act.put, List.setIfInBounds_toArray, List.set_cons_zero, List.set_cons_succ, i64_w, i32_w]; rfl
                  refine pure_ (i := 8) (N := some 75) (v := ?_) (a' := ?_) #[true, true, true, true, true, true, true, true, true, false, true, true, false, false, false, false, false, false, false, false, false, false, false, false, false, false, false, false, false, false, false, false, false] rfl rfl (any_of HT_.out (by kernel_rfl)) (fun _ _ _ h => h) (Or.inl ⟨by rfl, ?_⟩) ?_ ?_; rotate_left
                  ·
                   intro w'; go_simp
                   with_reducible rfl
                  rotate_left
                  ·
                   simp only [Act.put, List.setIfInBounds_toArray, List.set_cons_zero, List.set_cons_succ, i64_w, i32_w]; rfl
                  refine take_ (i := 9) (N := some 76) (v := ?_) (a' := ?_) #[true, true, true, true, true, true, true, true, true, true, true, true, false, false, false, false, false, false, false, false, false, false, false, false, false, false, false, false, false, false, false, false, false] rfl rfl (take_ofW HT_.out HW_.out (by kernel_rfl)) (fun _ _ _ h => h) (Or.inl ⟨by rfl, ?_⟩) hHeld ?_ ?_; rotate_left
                  ·
                   rintro w' ⟨s0, s1, s2, s3, s4, s5, s6, s7, s8, s9, s10, s11, s12, s13, s14, s15⟩; go_simp
                   with_reducible rfl
                  rotate_left
                  ·
                   simp only [Act.put, List.setIfInBounds_toArray, List.set_cons_zero, List.set_cons_succ, i64_w, i32_w]; rfl
                  refine pure_ (i := 12) (N := some 79) (v := ?_) (a' := ?_) #[true, true, true, true, true, true, true, true, true, true, true, true, true, false, false, false, false, false, false, false, false, false, false, false, false, false, false, false, false, false, false, false, false] rfl rfl (any_of HT_.out (by kernel_rfl)) (fun _ _ _ h => h) (Or.inl ⟨by rfl, ?_⟩) ?_ ?_; rotate_left
                  ·
                   intro w'; go_simp
                   with_reducible rfl
                  rotate_left
                  ·
                   simp only [Act.put, List.setIfInBounds_toArray, List.set_cons_zero, List.set_cons_succ, i64_w, i32_w]; rfl
                  refine pure_ (i := 13) (N := some 80) (v := ?_) (a' := ?_) #[true, true, true, true, true, true, true, true, true, true, true, true, true, true, false, false, false, false, false, false, false, false, false, false, false, false, false, false, false, false, false, false, false] rfl rfl (any_of HT_.out (by kernel_rfl)) (fun _ _ _ h => h) (Or.inl ⟨by rfl, ?_⟩) ?_ ?_; rotate_left
                  ·
                   intro w'; go_simp
                   with_reducible rfl
                  rotate_left
                  ·
                   simp only [Act.put, List.setIfInBounds_toArray, List.set_cons_zero, List.set_cons_succ, i64_w, i32_w]; rfl
                  refine pure_ (i := 14) (N := some 81) (v := ?_) (a' := ?_) #[true, true, true, true, true, true, true, true, true, true, true, true, true, true, true, false, false, false, false, false, false, false, false, false, false, false, false, false, false, false, false, false, false] rfl rfl (any_of HT_.out (by kernel_rfl)) (fun _ _ _ h => h) (Or.inl ⟨by rfl, ?_⟩) ?_ ?_; rotate_left
                  ·
                   intro w'; go_simp
                   with_reducible rfl
                  rotate_left
                  ·
                   simp only [Act.put, List.setIfInBounds_toArray, List.set_cons_zero, List.set_cons_succ, i64_w, i32_w]; rfl
                  refine pure_ (i := 15) (N := some 82) (v := ?_) (a' := ?_) #[true, true, true, true, true, true, true, true, true, true, true, true, true, true, true, true, false, false, false, false, false, false, false, false, false, false, false, false, false, false, false, false, false] rfl rfl (any_of HT_.out (by kernel_rfl)) (fun _ _ _ h => h) (Or.inl ⟨by rfl, ?_⟩) ?_ ?_; rotate_left
                  ·
                   intro w'; go_simp
                   with_reducible rfl
                  rotate_left
                  ·
                   simp only [Act.put, List.setIfInBounds_toArray, List.set_cons_zero, List.set_cons_succ, i64_w, i32_w]; rfl
                  refine pure_ (i := 16) (N := some 83) (v := ?_) (a' := ?_) #[true, true, true, true, true, true, true, true, true, true, true, true, true, true, true, true, true, false, false, false, false, false, false, false, false, false, false, false, false, false, false, false, false] rfl rfl (any_of HT_.out (by kernel_rfl)) (fun _ _ _ h => h) (Or.inl ⟨by rfl, ?_⟩) ?_ ?_; rotate_left
                  ·
                   intro w'; go_simp
                   with_reducible rfl
                  rotate_left
                  ·
                   simp only [Act.put, List.setIfInBounds_toArray, List.set_cons_zero, List.set_cons_succ, i64_w, i32_w]; rfl
                  refine pure_ (i := 17) (N := some 84) (v := ?_) (a' := ?_) #[true, true, true, true, true, true, true, true, true, true, true, true, true, true, true, true, true, true, false, false, false, false, false, false, false, false, false, false, false, false, false, false, false] rfl rfl (any_of HT_.out (by kernel_rfl)) (fun _ _ _ h => h) (Or.inl ⟨by rfl, ?_⟩) ?_ ?_; rotate_left
                  ·
                   intro w'; go_simp
                   with_reducible rfl
                  rotate_left
                  ·
                   simp only [Act.put, List.setIfInBounds_toArray, List.set_cons_zero, List.set_cons_succ, i64_w, i32_w]; rfl
                  refine pure_ (i := 19) (N := some 86) (v := ?_) (a' := ?_) #[true, true, true, true, true, true, true, true, true, true, true, true, true, true, true, true, true, true, false, true, false, false, false, false, false, false, false, false, false, false, false, false, false] rfl rfl (any_of HT_.out (by kernel_rfl)) (fun _ _ _ h => h) (Or.inl ⟨by rfl, ?_⟩) ?_ ?_; rotate_left
                  ·
                   intro w'; go_simp
                   with_reducible rfl
                  rotate_left
                  ·
                   simp only [Act.put, List.setIfInBounds_toArray, List.set_cons_zero, List.set_cons_succ, i64_w, i32_w]; rfl
                  refine pure_ (i := 23) (N := some 90) (v := ?_) (a' := ?_) #[true, true, true, true, true, true, true, true, true, true, true, true, true, true, true, true, true, true, false, true, false, false, false, true, false, false, false, false, false, false, false, false, false] rfl rfl (any_of HT_.out (by kernel_rfl)) (fun _ _ _ h => h) (Or.inl ⟨by rfl, ?_⟩) ?_ ?_; rotate_left
                  ·
                   intro w'; go_simp
                   with_reducible rfl
                  rotate_left
                  ·
                   simp only [Act.put, List.setIfInBounds_toArray, List.set_cons_zero, List.set_cons_succ, i64_w, i32_w]; rfl
                  refine pure_ (i := 24) (N := some 91) (v := ?_) (a' := ?_) #[true, true, true, true, true, true, true, true, true, true, true, true, true, true, true, true, true, true, false, true, false, false, false, true, true, false, false, false, false, false, false, false, false] rfl rfl (any_of HT_.out (by kernel_rfl)) (fun _ _ _ h => h) (Or.inl ⟨by rfl, ?_⟩) ?_ ?_; rotate_left
                  ·
                   intro w'; go_simp
                   with_reducible rfl
                  rotate_left
                  ·
                   simp only [Act.put, List.setIfInBounds_toArray, List.set_cons_zero, List.set_cons_succ, i64_w, i32_w]; rfl
                  refine pure_ (i := 25) (N := some 92) (v := ?_) (a' := ?_) #[true, true, true, true, true, true, true, true, true, true, true, true, true, true, true, true, true, true, false, true, false, false, false, true, true, true, false, false, false, false, false, false, false] rfl rfl (any_of HT_.out (by kernel_rfl)) (fun _ _ _ h => h) (Or.inl ⟨by rfl, ?_⟩) ?_ ?_; rotate_left
                  ·
                   intro w'; go_simp
                   with_reducible rfl
                  rotate_left
                  ·
                   simp only [Act.put, List.setIfInBounds_toArray, List.set_cons_zero, List.set_cons_succ, i64_w, i32_w]; rfl
                  refine pure_ (i := 26) (N := some 93) (v := ?_) (a' := ?_) #[true, true, true, true, true, true, true, true, true, true, true, true, true, true, true, true, true, true, false, true, false, false, false, true, true, true, true, false, false, false, false, false, false] rfl rfl (any_of HT_.out (by kernel_rfl)) (fun _ _ _ h => h) (Or.inl ⟨by rfl, ?_⟩) ?_ ?_; rotate_left
                  ·
                   intro w'; go_simp
                   with_reducible rfl
                  rotate_left
                  ·
                   simp only [Act.put, List.setIfInBounds_toArray, List.set_cons_zero, List.set_cons_succ, i64_w, i32_w]; rfl
                  refine take_ (i := 18) (N := some 85) (v := ?_) (a' := ?_) #[true, true, true, true, true, true, true, true, true, true, true, true, true, true, true, true, true, true, true, true, false, false, false, true, true, true, true, false, false, false, false, false, false] rfl rfl (take_ofW HT_.out HW_.out (by kernel_rfl)) (fun _ _ _ h => h) (Or.inl ⟨by rfl, ?_⟩) hHeld ?_ ?_; rotate_left
                  ·
                   rintro w' ⟨s0, s1, s2, s3, s4, s5, s6, s7, s8, s9, s10, s11, s12, s13, s14, s15⟩; go_simp
                   with_reducible rfl
                  rotate_left
                  ·
                   simp only [Act.put, List.setIfInBounds_toArray, List.set_cons_zero, List.set_cons_succ, i64_w, i32_w]; rfl
                  refine pure_ (i := 20) (N := some 87) (v := ?_) (a' := ?_) #[true, true, true, true, true, true, true, true, true, true, true, true, true, true, true, true, true, true, true, true, true, false, false, true, true, true, true, false, false, false, false, false, false] rfl rfl (any_of HT_.out (by kernel_rfl)) (fun _ _ _ h => h) (Or.inl ⟨by rfl, ?_⟩) ?_ ?_; rotate_left
                  ·
                   intro w'; go_simp
                   with_reducible rfl
                  rotate_left
                  ·
                   simp only [Act.put, List.setIfInBounds_toArray, List.set_cons_zero, List.set_cons_succ, i64_w, i32_w]; rfl
                  refine pure_ (i := 21) (N := some 88) (v := ?_) (a' := ?_) #[true, true, true, true, true, true, true, true, true, true, true, true, true, true, true, true, true, true, true, true, true, true, false, true, true, true, true, false, false, false, false, false, false] rfl rfl (any_of HT_.out (by kernel_rfl)) (fun _ _ _ h => h) (Or.inl ⟨by rfl, ?_⟩) ?_ ?_; rotate_left
                  ·
                   intro w'; go_simp
                   with_reducible rfl
                  rotate_left
                  ·
                   simp only [Act.put, List.setIfInBounds_toArray, List.set_cons_zero, List.set_cons_succ, i64_w, i32_w]; rfl
                  refine take_ (i := 22) (N := some 89) (v := ?_) (a' := ?_) #[true, true, true, true, true, true, true, true, true, true, true, true, true, true, true, true, true, true, true, true, true, true, true, true, true, true, true, false, false, false, false, false, false] rfl rfl (take_ofW HT_.out HW_.out (by kernel_rfl)) (fun _ _ _ h => h) (Or.inl ⟨by rfl, ?_⟩) hHeld ?_ ?_; rotate_left
                  ·
                   rintro w' ⟨s0, s1, s2, s3, s4, s5, s6, s7, s8, s9, s10, s11, s12, s13, s14, s15⟩; go_simp
                   with_reducible rfl
                  rotate_left
                  ·
                   simp only [Act.put, List.setIfInBounds_toArray, List.set_cons_zero, List.set_cons_succ, i64_w, i32_w]; rfl
                  refine take_ (i := 27) (N := some 94) (v := ?_) (a' := ?_) #[true, true, true, true, true, true, true, true, true, true, true, true, true, true, true, true, true, true, true, true, true, true, true, true, true, true, true, true, false, false, false, false, false] rfl rfl (take_ofW HT_.out HW_.out (by kernel_rfl)) (fun _ _ _ h => h) (Or.inl ⟨by rfl, ?_⟩) hHeld ?_ ?_; rotate_left
                  ·
                   rintro w' ⟨s0, s1, s2, s3, s4, s5, s6, s7, s8, s9, s10, s11, s12, s13, s14, s15⟩; go_simp
                   with_reducible rfl
                  rotate_left
                  ·
                   simp only [Act.put, List.setIfInBounds_toArray, List.set_cons_zero, List.set_cons_succ, i64_w, i32_w]; rfl
                  refine one_ (i := 28) (N := some 95) #[true, true, true, true, true, true, true, true, true, true, true, true, true, true, true, true, true, true, true, true, true, true, true, true, true, true, true, true, true, false, false, false, false] rfl rfl (one_of HT_.out (by kernel_rfl)) (by decide) (fun K hK => ?_); refine goes_ Try.func25 (by kernel_rfl) rfl #[.agg #[.int .i64 ((rd_T54 t477 x51_2).f1.f0), .slice A487_2 ((rd_T54 t477 x51_2).f1.f1).length c487_2, .slice A487_3 ((rd_T54 t477 x51_2).f1.f2).length c487_3], .agg #[.int .i64 ((rd_T58 t473 x9_3).f2.f0), .slice A489_3 ((rd_T58 t473 x9_3).f2.f1).length c489_3, .slice A489_4 ((rd_T58 t473 x9_3).f2.f2).length c489_4]] (by rfl) rfl rfl (by (try simp only [List.map_toArray, List.map_cons, List.map_nil]); first | done | rfl | (simp only [List.length_drop, List.length_take]; rfl)) ?_
                  with_reducible refine (trustquorumref02_Same.calls k3 ((rd_T54 t477 x51_2).f1.f0) _ _ ((rd_T54 t477 x51_2).f1.f1) _ _ ((rd_T54 t477 x51_2).f1.f2) ((rd_T58 t473 x9_3).f2.f0) _ _ ((rd_T58 t473 x9_3).f2.f1) _ _ ((rd_T58 t473 x9_3).f2.f2) t490 _ ?side1 ?side2 ?side3 ?side4 ?side5 ?side6 ?side7 ?side8 A57.out).mono ?_
                  (case side1 => exact HR488_2.out)
                  (case side2 => exact HC488_2.out)
                  (case side3 => exact HR488_3.out)
                  (case side4 => exact HC488_3.out)
                  (case side5 => exact HR489_3.out)
                  (case side6 => exact HC489_3.out)
                  (case side7 => exact HR489_4.out)
                  (case side8 => exact HC489_4.out)
                  rintro e w59 ⟨rfl, hb⟩; have HS1_ := (hb.cell (World.block_lt_of_cell? _ _ (hHeld.2.1))).trans (hHeld.2.1); have HS2_ := (hb.cell (World.block_lt_of_cell? _ _ (hHeld.2.2.1))).trans (hHeld.2.2.1); have HS3_ := (hb.cell (World.block_lt_of_cell? _ _ (hHeld.2.2.2.1))).trans (hHeld.2.2.2.1); have HS4_ := (hb.cell (World.block_lt_of_cell? _ _ (hHeld.2.2.2.2.1))).trans (hHeld.2.2.2.2.1); have HS5_ := (hb.cell (World.block_lt_of_cell? _ _ (hHeld.2.2.2.2.2.1))).trans (hHeld.2.2.2.2.2.1); have HS6_ := (hb.cell (World.block_lt_of_cell? _ _ (hHeld.2.2.2.2.2.2.1))).trans (hHeld.2.2.2.2.2.2.1); have HS7_ := (hb.cell (World.block_lt_of_cell? _ _ (hHeld.2.2.2.2.2.2.2.1))).trans (hHeld.2.2.2.2.2.2.2.1); have HS8_ := (hb.cell (World.block_lt_of_cell? _ _ (hHeld.2.2.2.2.2.2.2.2.1))).trans (hHeld.2.2.2.2.2.2.2.2.1); have HS9_ := (hb.cell (World.block_lt_of_cell? _ _ (hHeld.2.2.2.2.2.2.2.2.2.1))).trans (hHeld.2.2.2.2.2.2.2.2.2.1); have HS10_ := (hb.cell (World.block_lt_of_cell? _ _ (hHeld.2.2.2.2.2.2.2.2.2.2.1))).trans (hHeld.2.2.2.2.2.2.2.2.2.2.1); have HS11_ := (hb.cell (World.block_lt_of_cell? _ _ (hHeld.2.2.2.2.2.2.2.2.2.2.2.1))).trans (hHeld.2.2.2.2.2.2.2.2.2.2.2.1); have HS12_ := (hb.cell (World.block_lt_of_cell? _ _ (hHeld.2.2.2.2.2.2.2.2.2.2.2.2.1))).trans (hHeld.2.2.2.2.2.2.2.2.2.2.2.2.1); have HS13_ := (hb.cell (World.block_lt_of_cell? _ _ (hHeld.2.2.2.2.2.2.2.2.2.2.2.2.2.1))).trans (hHeld.2.2.2.2.2.2.2.2.2.2.2.2.2.1); have HS14_ := (hb.cell (World.block_lt_of_cell? _ _ (hHeld.2.2.2.2.2.2.2.2.2.2.2.2.2.2.1))).trans (hHeld.2.2.2.2.2.2.2.2.2.2.2.2.2.2.1)
                  have HS15_ := (hb.cell (World.block_lt_of_cell? _ _ (hHeld.2.2.2.2.2.2.2.2.2.2.2.2.2.2.2))).trans (hHeld.2.2.2.2.2.2.2.2.2.2.2.2.2.2.2); refine ⟨_, rfl, ?_⟩; replace HO_6 := Aside0.mk (Kd.N_below HO_6.out hb); replace HO_481000 := Aside0.mk (Kd.N_below HO_481000.out hb); replace HL487_2 := Aside0.mk (Kd.V_below HL487_2.out hb); replace HL487_3 := Aside0.mk (Kd.V_below HL487_3.out hb); replace HL488_2 := Aside0.mk (Kd.V_below HL488_2.out hb); replace HL488_3 := Aside0.mk (Kd.V_below HL488_3.out hb); replace HL489_3 := Aside0.mk (Kd.V_below HL489_3.out hb); replace HL489_4 := Aside0.mk (Kd.V_below HL489_4.out hb); replace HL489_5 := Aside0.mk (Kd.V_below HL489_5.out hb); replace HL489_6 := Aside0.mk (Kd.V_below HL489_6.out hb); replace BK480 := Aside0.mk (blk_below BK480.out hb); replace HR487_2 := Aside0.mk (Kd.C_below HR487_2.out hb); replace HR487_3 := Aside0.mk (Kd.C_below HR487_3.out hb); replace HR488_2 := Aside0.mk (Kd.C_below HR488_2.out hb); replace HR488_3 := Aside0.mk (Kd.C_below HR488_3.out hb); replace HR489_3 := Aside0.mk (Kd.C_below HR489_3.out hb); replace HR489_4 := Aside0.mk (Kd.C_below HR489_4.out hb); replace HR489_5 := Aside0.mk (Kd.C_below HR489_5.out hb); replace HR489_6 := Aside0.mk (Kd.C_below HR489_6.out hb); replace HB := Aside0.mk (below_step HB.out hb)
                  (try clear hb); (try clear hb2); (try clear hk); (try clear hi); refine hK.out _ _ ⟨(blk_cell BK480.out 0).trans rfl, HS1_, HS2_, HS3_, HS4_, HS5_, HS6_, HS7_, HS8_, HS9_, HS10_, HS11_, HS12_, HS13_, HS14_, HS15_⟩ (fun hHeld => ?_); clear hK K; refine norm_ (a' := ?_) ?_ ?_; rotate_left
                  ·
                   show Act.put _ (some 95) _ = _
                   simp only [Act.put, List.setIfInBounds_toArray, List.set_cons_zero, List.set_cons_succ, i64_w, i32_w]; rfl
                  refine pure_ (i := 29) (N := some 96) (v := ?_) (a' := ?_) #[true, true, true, true, true, true, true, true, true, true, true, true, true, true, true, true, true, true, true, true, true, true, true, true, true, true, true, true, true, true, false, false, false] rfl rfl (any_of HT_.out (by kernel_rfl)) (fun _ _ _ h => h) (Or.inl ⟨by rfl, ?_⟩) ?_ ?_; rotate_left
                  ·
                   intro w'; go_simp
                   with_reducible rfl
                  rotate_left
                  ·
                   simp only [Act.put, List.setIfInBounds_toArray, List.set_cons_zero, List.set_cons_succ, i64_w, i32_w]; rfl
                  refine pure_ (i := 30) (N := some 97) (v := ?_) (a' := ?_) #[true, true, true, true, true, true, true, true, true, true, true, true, true, true, true, true, true, true, true, true, true, true, true, true, true, true, true, true, true, true, true, false, false] rfl rfl (any_of HT_.out (by kernel_rfl)) (fun _ _ _ h => h) (Or.inl ⟨by rfl, ?_⟩) ?_ ?_; rotate_left
                  ·
                   intro w'; go_simp
                   with_reducible rfl
                  rotate_left
                  ·
                   simp only [Act.put, List.setIfInBounds_toArray, List.set_cons_zero, List.set_cons_succ, i64_w, i32_w]; rfl
                  refine pure_ (i := 31) (N := some 98) (v := ?_) (a' := ?_) #[true, true, true, true, true, true, true, true, true, true, true, true, true, true, true, true, true, true, true, true, true, true, true, true, true, true, true, true, true, true, true, true, false] rfl rfl (any_of HT_.out (by kernel_rfl)) (fun _ _ _ h => h) (Or.inl ⟨by rfl, ?_⟩) ?_ ?_; rotate_left
                  ·
                   intro w'; go_simp
                   with_reducible rfl
                  rotate_left
                  ·
                   simp only [Act.put, List.setIfInBounds_toArray, List.set_cons_zero, List.set_cons_succ, i64_w, i32_w]; rfl
                  refine pure_ (i := 32) (N := some 99) (v := ?_) (a' := ?_) #[true, true, true, true, true, true, true, true, true, true, true, true, true, true, true, true, true, true, true, true, true, true, true, true, true, true, true, true, true, true, true, true, true] rfl rfl (any_of HT_.out (by kernel_rfl)) (fun _ _ _ h => h) (Or.inl ⟨by rfl, ?_⟩) ?_ ?_; rotate_left
                  ·
                   intro w'; go_simp
                   with_reducible rfl
                  rotate_left
                  ·
                   simp only [Act.put, List.setIfInBounds_toArray, List.set_cons_zero, List.set_cons_succ, i64_w, i32_w]; rfl
                  refine done_ (done_of HT_.out (by kernel_rfl)) ?_
                  try go_wp2
                  go_meet
                  case rel => exact ⟨_, (!t490), (by first | rfl | (simp; done) | (simp [*]; done) | (refine congrArg (Value.int .i64) ?_; unfold wrap64; omega)), H', ⟨by have := HJ6.out; have := HK2.out; have := HK3.out; first | omega | exact Nat.le_refl _⟩, ⟨by exact HO_6.out⟩, ⟨by exact HO_481000.out⟩, ⟨by exact BK480.out⟩, ⟨by exact HB.out⟩⟩
                 ·
                  rw [if_neg c56] at H; exact absurd H (by simp)
                ·
                 rw [if_neg c55] at H; exact absurd H (by simp)
               ·
                rw [if_neg c54] at H; have c54b0 : decide (0 ≤ x9_3) = false := decide_eq_false c54; (try (have c54z9 : ((rd_T54 t477 x51_2).f0) = false := by simpa [c54b0] using c53b3)); clear c54; have H' := Aside0.mk H; clear H
                try go_wp2
                replace HO_6 := Aside0.mk (Kd.N_drew HO_6.out); replace HO_481000 := Aside0.mk (Kd.N_drew HO_481000.out); replace BK480 := Aside0.mk (blk_drew BK480.out); replace HB := Aside0.mk (below_drew1 HB.out); have p487 : 0 ≤ (x51_2 : Int) := of_decide_eq_true (by first | (with_reducible assumption) | assumption); have q487 : x51_2 < (t477.length : Int) := of_decide_eq_true (by first | (with_reducible assumption) | assumption); obtain ⟨ad487, A487_2, c487_2, A487_3, c487_3, e487, hx487_0, hx487_1, hx487_2, hx487_3, hl487_2, hi487_2, hl487_3, hi487_3⟩ := at_T54 (Kd.N_reads' HO_481000.out).2.2 x51_2 p487 q487
                cases e487
                obtain ⟨ce487, hce487, hMe487, hcc487⟩ := Kd.N_get HO_481000.out z54 x51_2 p487 (by first | exact q487 | exact of_decide_eq_true (by first | (with_reducible assumption) | assumption) | (have e_ := (Kd.N_reads' HO_481000.out).1; omega)); obtain ⟨ua487_2, uc487_2, ua487_3, uc487_3, rfl, ul487_2, ge487_2, ul487_3, ge487_3⟩ := k54_openF hMe487; have hv487_2 := hcc487 2 _ rfl; rw [add_field _ _ 2 (by omega)] at hv487_2; replace hv487_2 := Option.some.inj (hv487_2.symm.trans hx487_2); injection hv487_2 with hva_ hvn_ hvc_
                rw [hva_] at ge487_2; rw [hvc_] at ul487_2; have HL487_2 := Aside0.mk (show Kd.V (Kd.int .i64) 3 _ w.heap.size _ _ ((rd_T54 t477 x51_2).f1.f1) from Kd.V_mk ul487_2 ge487_2); clear hva_ hvn_ hvc_ ge487_2 ul487_2; have hv487_3 := hcc487 3 _ rfl; rw [add_field _ _ 3 (by omega)] at hv487_3; replace hv487_3 := Option.some.inj (hv487_3.symm.trans hx487_3); injection hv487_3 with hva_ hvn_ hvc_
                rw [hva_] at ge487_3; rw [hvc_] at ul487_3; have HL487_3 := Aside0.mk (show Kd.V k48 48 _ w.heap.size _ _ ((rd_T54 t477 x51_2).f1.f2) from Kd.V_mk ul487_3 ge487_3); clear hva_ hvn_ hvc_ ge487_3 ul487_3; clear hcc487 hce487; have HR487_2 := Aside0.mk hi487_2; have HC487_2 := Aside0.mk hl487_2; clear hi487_2 hl487_2; have HR487_3 := Aside0.mk hi487_3; have HC487_3 := Aside0.mk hl487_3; clear hi487_3 hl487_3; replace p487 := eq_true p487; replace q487 := eq_true q487; refine start_ (n := 33) (S := fun w' => w'.cell? ⟨gb480, 0, none⟩ = some (.slice (some ad487) t477.length co21) ∧ w'.cell? (ad487.add ((x51_2).toNat * 4)) = some (.bool ((rd_T54 t477 x51_2).f0)) ∧ w'.cell? ⟨(ad487.add ((x51_2).toNat * 4)).block, (ad487.add ((x51_2).toNat * 4)).off + 1, none⟩ = some (.int .i64 ((rd_T54 t477 x51_2).f1.f0)) ∧ w'.cell? ⟨(ad487.add ((x51_2).toNat * 4)).block, (ad487.add ((x51_2).toNat * 4)).off + 2, none⟩ = some (.slice A487_2 ((rd_T54 t477 x51_2).f1.f1).length c487_2) ∧ w'.cell? ⟨(ad487.add ((x51_2).toNat * 4)).block, (ad487.add ((x51_2).toNat * 4)).off + 3, none⟩ = some (.slice A487_3 ((rd_T54 t477 x51_2).f1.f2).length c487_3)) (ds := []) #[false, false, false, false, false, false, false, false, false, false, false, false, false, false, false, false, false, false, false, false, false, false, false, false, false, false, false, false, false, false, false, false, false] (by kernel_rfl) rfl rfl ⟨(blk_cell BK480.out 0).trans rfl, hx487_0, hx487_1, hx487_2, hx487_3⟩ (fun hHeld => ?_); refine with_tabW trustquorumlaw18_FederatedView.tab17 trustquorumlaw18_FederatedView.bits17 (fun HT_ HW_ => ?_)
                generalize wr.drew = w60 at HO_6 HO_481000 BK480 HB HL487_2 HL487_3 HR487_2 HR487_3 hx487_0 hx487_1 hx487_2 hx487_3 hHeld ⊢; refine pure_ (i := 0) (N := some 67) (v := ?_) (a' := ?_) #[true, false, false, false, false, false, false, false, false, false, false, false, false, false, false, false, false, false, false, false, false, false, false, false, false, false, false, false, false, false, false, false, false] rfl rfl (any_of HT_.out (by kernel_rfl)) (fun _ _ _ h => h) (Or.inl ⟨by rfl, ?_⟩) ?_ ?_; rotate_left
                ·
                 intro w'; go_simp
                 with_reducible rfl
                rotate_left
                ·
                 simp only [Act.put, List.setIfInBounds_toArray, List.set_cons_zero, List.set_cons_succ, i64_w, i32_w]; rfl
                refine pure_ (i := 1) (N := some 68) (v := ?_) (a' := ?_) #[true, true, false, false, false, false, false, false, false, false, false, false, false, false, false, false, false, false, false, false, false, false, false, false, false, false, false, false, false, false, false, false, false] rfl rfl (any_of HT_.out (by kernel_rfl)) (fun _ _ _ h => h) (Or.inl ⟨by rfl, ?_⟩) ?_ ?_; rotate_left
                ·
                 intro w'; go_simp
                 with_reducible rfl
                rotate_left
                ·
                 simp only [Act.put, List.setIfInBounds_toArray, List.set_cons_zero, List.set_cons_succ, i64_w, i32_w]; rfl
                refine pure_ (i := 2) (N := some 69) (v := ?_) (a' := ?_) #[true, true, true, false, false, false, false, false, false, false, false, false, false, false, false, false, false, false, false, false, false, false, false, false, false, false, false, false, false, false, false, false, false] rfl rfl (any_of HT_.out (by kernel_rfl)) (fun _ _ _ h => h) (Or.inl ⟨by rfl, ?_⟩) ?_ ?_; rotate_left
                ·
                 intro w'; go_simp
                 with_reducible rfl
                rotate_left
                ·
                 simp only [Act.put, List.setIfInBounds_toArray, List.set_cons_zero, List.set_cons_succ, i64_w, i32_w]; rfl
                refine pure_ (i := 3) (N := some 70) (v := ?_) (a' := ?_) #[true, true, true, true, false, false, false, false, false, false, false, false, false, false, false, false, false, false, false, false, false, false, false, false, false, false, false, false, false, false, false, false, false] rfl rfl (any_of HT_.out (by kernel_rfl)) (fun _ _ _ h => h) (Or.inl ⟨by rfl, ?_⟩) ?_ ?_; rotate_left
                ·
                 intro w'; go_simp
                 with_reducible rfl
                rotate_left
                ·
                 simp only [Act.put, List.setIfInBounds_toArray, List.set_cons_zero, List.set_cons_succ, i64_w, i32_w]; rfl
                refine pure_ (i := 4) (N := some 71) (v := ?_) (a' := ?_) #[true, true, true, true, true, false, false, false, false, false, false, false, false, false, false, false, false, false, false, false, false, false, false, false, false, false, false, false, false, false, false, false, false] rfl rfl (any_of HT_.out (by kernel_rfl)) (fun _ _ _ h => h) (Or.inl ⟨by rfl, ?_⟩) ?_ ?_; rotate_left
                ·
                 intro w'; go_simp
                 with_reducible rfl
                rotate_left
                ·
                 simp only [Act.put, List.setIfInBounds_toArray, List.set_cons_zero, List.set_cons_succ, i64_w, i32_w]; rfl
                refine pure_ (i := 6) (N := some 73) (v := ?_) (a' := ?_) #[true, true, true, true, true, false, true, false, false, false, false, false, false, false, false, false, false, false, false, false, false, false, false, false, false, false, false, false, false, false, false, false, false] rfl rfl (any_of HT_.out (by kernel_rfl)) (fun _ _ _ h => h) (Or.inl ⟨by rfl, ?_⟩) ?_ ?_; rotate_left
                ·
                 intro w'; go_simp
                 with_reducible rfl
                rotate_left
                ·
                 simp only [Act.put, List.setIfInBounds_toArray, List.set_cons_zero, List.set_cons_succ, i64_w, i32_w]; rfl
                refine pure_ (i := 10) (N := some 77) (v := ?_) (a' := ?_) #[true, true, true, true, true, false, true, false, false, false, true, false, false, false, false, false, false, false, false, false, false, false, false, false, false, false, false, false, false, false, false, false, false] rfl rfl (any_of HT_.out (by kernel_rfl)) (fun _ _ _ h => h) (Or.inl ⟨by rfl, ?_⟩) ?_ ?_; rotate_left
                ·
                 intro w'; go_simp
                 with_reducible rfl
                rotate_left
                ·
                 simp only [Act.put, List.setIfInBounds_toArray, List.set_cons_zero, List.set_cons_succ, i64_w, i32_w]; rfl
                refine pure_ (i := 11) (N := some 78) (v := ?_) (a' := ?_) #[true, true, true, true, true, false, true, false, false, false, true, true, false, false, false, false, false, false, false, false, false, false, false, false, false, false, false, false, false, false, false, false, false] rfl rfl (any_of HT_.out (by kernel_rfl)) (fun _ _ _ h => h) (Or.inl ⟨by rfl, ?_⟩) ?_ ?_; rotate_left
                ·
                 intro w'; go_simp
                 with_reducible rfl
                rotate_left
                ·
                 simp only [Act.put, List.setIfInBounds_toArray, List.set_cons_zero, List.set_cons_succ, i64_w, i32_w]; rfl
                refine take_ (i := 5) (N := some 72) (v := ?_) (a' := ?_) #[true, true, true, true, true, true, true, false, false, false, true, true, false, false, false, false, false, false, false, false, false, false, false, false, false, false, false, false, false, false, false, false, false] rfl rfl (take_ofW HT_.out HW_.out (by kernel_rfl)) (fun _ _ _ h => h) (Or.inl ⟨by rfl, ?_⟩) hHeld ?_ ?_; rotate_left
                ·
                 rintro w' ⟨s0, s1, s2, s3, s4⟩; go_simp
                 with_reducible rfl
                rotate_left
                ·
                 simp only [Act.put, List.setIfInBounds_toArray, List.set_cons_zero, List.set_cons_succ, i64_w, i32_w]; rfl
                refine pure_ (i := 7) (N := some 74) (v := ?_) (a' := ?_) #[true, true, true, true, true, true, true, true, false, false, true, true, false, false, false, false, false, false, false, false, false, false, false, false, false, false, false, false, false, false, false, false, false] rfl rfl (any_of HT_.out (by kernel_rfl)) (fun _ _ _ h => h) (Or.inl ⟨by rfl, ?_⟩) ?_ ?_; rotate_left
                ·
                 intro w'; go_simp
                 with_reducible rfl
                rotate_left
                ·
                 simp only [Act.put, List.setIfInBounds_toArray, List.set_cons_zero, List.set_cons_succ, i64_w, i32_w]; rfl
                refine pure_ (i := 8) (N := some 75) (v := ?_) (a' := ?_) #[true, true, true, true, true, true, true, true, true, false, true, true, false, false, false, false, false, false, false, false, false, false, false, false, false, false, false, false, false, false, false, false, false] rfl rfl (any_of HT_.out (by kernel_rfl)) (fun _ _ _ h => h) (Or.inl ⟨by rfl, ?_⟩) ?_ ?_; rotate_left
                ·
                 intro w'; go_simp
                 with_reducible rfl
                rotate_left
                ·
                 simp only [Act.put, List.setIfInBounds_toArray, List.set_cons_zero, List.set_cons_succ, i64_w, i32_w]; rfl
                refine take_ (i := 9) (N := some 76) (v := ?_) (a' := ?_) #[true, true, true, true, true, true, true, true, true, true, true, true, false, false, false, false, false, false, false, false, false, false, false, false, false, false, false, false, false, false, false, false, false] rfl rfl (take_ofW HT_.out HW_.out (by kernel_rfl)) (fun _ _ _ h => h) (Or.inl ⟨by rfl, ?_⟩) hHeld ?_ ?_; rotate_left
                ·
                 rintro w' ⟨s0, s1, s2, s3, s4⟩; go_simp
                 with_reducible rfl
                rotate_left
                ·
                 simp only [Act.put, List.setIfInBounds_toArray, List.set_cons_zero, List.set_cons_succ, i64_w, i32_w]; rfl
                refine pure_ (i := 12) (N := some 79) (v := ?_) (a' := ?_) #[true, true, true, true, true, true, true, true, true, true, true, true, true, false, false, false, false, false, false, false, false, false, false, false, false, false, false, false, false, false, false, false, false] rfl rfl (any_of HT_.out (by kernel_rfl)) (fun _ _ _ h => h) (Or.inl ⟨by rfl, ?_⟩) ?_ ?_; rotate_left
                ·
                 intro w'; go_simp
                 with_reducible rfl
                rotate_left
                ·
                 simp only [Act.put, List.setIfInBounds_toArray, List.set_cons_zero, List.set_cons_succ, i64_w, i32_w]; rfl
                refine pure_ (i := 13) (N := some 80) (v := ?_) (a' := ?_) #[true, true, true, true, true, true, true, true, true, true, true, true, true, true, false, false, false, false, false, false, false, false, false, false, false, false, false, false, false, false, false, false, false] rfl rfl (any_of HT_.out (by kernel_rfl)) (fun _ _ _ h => h) (Or.inl ⟨by rfl, ?_⟩) ?_ ?_; rotate_left
                ·
                 intro w'; go_simp
                 with_reducible rfl
                rotate_left
                ·
                 simp only [Act.put, List.setIfInBounds_toArray, List.set_cons_zero, List.set_cons_succ, i64_w, i32_w]; rfl
                refine pure_ (i := 14) (N := some 81) (v := ?_) (a' := ?_) #[true, true, true, true, true, true, true, true, true, true, true, true, true, true, true, false, false, false, false, false, false, false, false, false, false, false, false, false, false, false, false, false, false] rfl rfl (any_of HT_.out (by kernel_rfl)) (fun _ _ _ h => h) (Or.inl ⟨by rfl, ?_⟩) ?_ ?_; rotate_left
                ·
                 intro w'; go_simp
                 with_reducible rfl
                rotate_left
                ·
                 simp only [Act.put, List.setIfInBounds_toArray, List.set_cons_zero, List.set_cons_succ, i64_w, i32_w]; rfl
                refine pure_ (i := 15) (N := some 82) (v := ?_) (a' := ?_) #[true, true, true, true, true, true, true, true, true, true, true, true, true, true, true, true, false, false, false, false, false, false, false, false, false, false, false, false, false, false, false, false, false] rfl rfl (any_of HT_.out (by kernel_rfl)) (fun _ _ _ h => h) (Or.inl ⟨by rfl, ?_⟩) ?_ ?_; rotate_left
                ·
                 intro w'; go_simp
                 with_reducible rfl
                rotate_left
                ·
                 simp only [Act.put, List.setIfInBounds_toArray, List.set_cons_zero, List.set_cons_succ, i64_w, i32_w]; rfl
                refine pure_ (i := 16) (N := some 83) (v := ?_) (a' := ?_) #[true, true, true, true, true, true, true, true, true, true, true, true, true, true, true, true, true, false, false, false, false, false, false, false, false, false, false, false, false, false, false, false, false] rfl rfl (any_of HT_.out (by kernel_rfl)) (fun _ _ _ h => h) (Or.inl ⟨by rfl, ?_⟩) ?_ ?_; rotate_left
                ·
                 intro w'; go_simp
                 with_reducible rfl
                rotate_left
                ·
                 simp only [Act.put, List.setIfInBounds_toArray, List.set_cons_zero, List.set_cons_succ, i64_w, i32_w]; rfl
                refine pure_ (i := 17) (N := some 84) (v := undef) (a' := ?_) #[true, true, true, true, true, true, true, true, true, true, true, true, true, true, true, true, true, true, false, false, false, false, false, false, false, false, false, false, false, false, false, false, false] rfl rfl (any_of HT_.out (by kernel_rfl)) (fun _ _ _ h => h) (Or.inr ⟨by rfl, rfl⟩) ?_ ?_; rotate_left
                ·
                 simp only [Act.put, List.setIfInBounds_toArray, List.set_cons_zero, List.set_cons_succ, i64_w, i32_w]; rfl
                refine pure_ (i := 18) (N := some 85) (v := undef) (a' := ?_) #[true, true, true, true, true, true, true, true, true, true, true, true, true, true, true, true, true, true, true, false, false, false, false, false, false, false, false, false, false, false, false, false, false] rfl rfl (any_of HT_.out (by kernel_rfl)) (fun _ _ _ h => h) (Or.inr ⟨by rfl, rfl⟩) ?_ ?_; rotate_left
                ·
                 simp only [Act.put, List.setIfInBounds_toArray, List.set_cons_zero, List.set_cons_succ, i64_w, i32_w]; rfl
                refine pure_ (i := 19) (N := some 86) (v := undef) (a' := ?_) #[true, true, true, true, true, true, true, true, true, true, true, true, true, true, true, true, true, true, true, true, false, false, false, false, false, false, false, false, false, false, false, false, false] rfl rfl (any_of HT_.out (by kernel_rfl)) (fun _ _ _ h => h) (Or.inr ⟨by rfl, rfl⟩) ?_ ?_; rotate_left
                ·
                 simp only [Act.put, List.setIfInBounds_toArray, List.set_cons_zero, List.set_cons_succ, i64_w, i32_w]; rfl
                refine pure_ (i := 20) (N := some 87) (v := undef) (a' := ?_) #[true, true, true, true, true, true, true, true, true, true, true, true, true, true, true, true, true, true, true, true, true, false, false, false, false, false, false, false, false, false, false, false, false] rfl rfl (any_of HT_.out (by kernel_rfl)) (fun _ _ _ h => h) (Or.inr ⟨by rfl, rfl⟩) ?_ ?_; rotate_left
                ·
                 simp only [Act.put, List.setIfInBounds_toArray, List.set_cons_zero, List.set_cons_succ, i64_w, i32_w]; rfl
                refine pure_ (i := 21) (N := some 88) (v := undef) (a' := ?_) #[true, true, true, true, true, true, true, true, true, true, true, true, true, true, true, true, true, true, true, true, true, true, false, false, false, false, false, false, false, false, false, false, false] rfl rfl (any_of HT_.out (by kernel_rfl)) (fun _ _ _ h => h) (Or.inr ⟨by rfl, rfl⟩) ?_ ?_; rotate_left
                ·
                 simp only [Act.put, List.setIfInBounds_toArray, List.set_cons_zero, List.set_cons_succ, i64_w, i32_w]; rfl
                refine pure_ (i := 22) (N := some 89) (v := undef) (a' := ?_) #[true, true, true, true, true, true, true, true, true, true, true, true, true, true, true, true, true, true, true, true, true, true, true, false, false, false, false, false, false, false, false, false, false] rfl rfl (any_of HT_.out (by kernel_rfl)) (fun _ _ _ h => h) (Or.inr ⟨by rfl, rfl⟩) ?_ ?_; rotate_left
                ·
                 simp only [Act.put, List.setIfInBounds_toArray, List.set_cons_zero, List.set_cons_succ, i64_w, i32_w]; rfl
                refine pure_ (i := 23) (N := some 90) (v := undef) (a' := ?_) #[true, true, true, true, true, true, true, true, true, true, true, true, true, true, true, true, true, true, true, true, true, true, true, true, false, false, false, false, false, false, false, false, false] rfl rfl (any_of HT_.out (by kernel_rfl)) (fun _ _ _ h => h) (Or.inr ⟨by rfl, rfl⟩) ?_ ?_; rotate_left
                ·
                 simp only [Act.put, List.setIfInBounds_toArray, List.set_cons_zero, List.set_cons_succ, i64_w, i32_w]; rfl
                refine pure_ (i := 24) (N := some 91) (v := undef) (a' := ?_) #[true, true, true, true, true, true, true, true, true, true, true, true, true, true, true, true, true, true, true, true, true, true, true, true, true, false, false, false, false, false, false, false, false] rfl rfl (any_of HT_.out (by kernel_rfl)) (fun _ _ _ h => h) (Or.inr ⟨by rfl, rfl⟩) ?_ ?_; rotate_left
                ·
                 simp only [Act.put, List.setIfInBounds_toArray, List.set_cons_zero, List.set_cons_succ, i64_w, i32_w]; rfl
                refine pure_ (i := 25) (N := some 92) (v := undef) (a' := ?_) #[true, true, true, true, true, true, true, true, true, true, true, true, true, true, true, true, true, true, true, true, true, true, true, true, true, true, false, false, false, false, false, false, false] rfl rfl (any_of HT_.out (by kernel_rfl)) (fun _ _ _ h => h) (Or.inr ⟨by rfl, rfl⟩) ?_ ?_; rotate_left
                ·
                 simp only [Act.put, List.setIfInBounds_toArray, List.set_cons_zero, List.set_cons_succ, i64_w, i32_w]; rfl
                refine pure_ (i := 26) (N := some 93) (v := undef) (a' := ?_) #[true, true, true, true, true, true, true, true, true, true, true, true, true, true, true, true, true, true, true, true, true, true, true, true, true, true, true, false, false, false, false, false, false] rfl rfl (any_of HT_.out (by kernel_rfl)) (fun _ _ _ h => h) (Or.inr ⟨by rfl, rfl⟩) ?_ ?_; rotate_left
                ·
                 simp only [Act.put, List.setIfInBounds_toArray, List.set_cons_zero, List.set_cons_succ, i64_w, i32_w]; rfl
                refine pure_ (i := 27) (N := some 94) (v := undef) (a' := ?_) #[true, true, true, true, true, true, true, true, true, true, true, true, true, true, true, true, true, true, true, true, true, true, true, true, true, true, true, true, false, false, false, false, false] rfl rfl (any_of HT_.out (by kernel_rfl)) (fun _ _ _ h => h) (Or.inr ⟨by rfl, rfl⟩) ?_ ?_; rotate_left
                ·
                 simp only [Act.put, List.setIfInBounds_toArray, List.set_cons_zero, List.set_cons_succ, i64_w, i32_w]; rfl
                refine pure_ (i := 28) (N := some 95) (v := undef) (a' := ?_) #[true, true, true, true, true, true, true, true, true, true, true, true, true, true, true, true, true, true, true, true, true, true, true, true, true, true, true, true, true, false, false, false, false] rfl rfl (any_of HT_.out (by kernel_rfl)) (fun _ _ _ h => h) (Or.inr ⟨by rfl, rfl⟩) ?_ ?_; rotate_left
                ·
                 simp only [Act.put, List.setIfInBounds_toArray, List.set_cons_zero, List.set_cons_succ, i64_w, i32_w]; rfl
                refine pure_ (i := 29) (N := some 96) (v := undef) (a' := ?_) #[true, true, true, true, true, true, true, true, true, true, true, true, true, true, true, true, true, true, true, true, true, true, true, true, true, true, true, true, true, true, false, false, false] rfl rfl (any_of HT_.out (by kernel_rfl)) (fun _ _ _ h => h) (Or.inr ⟨by rfl, rfl⟩) ?_ ?_; rotate_left
                ·
                 simp only [Act.put, List.setIfInBounds_toArray, List.set_cons_zero, List.set_cons_succ, i64_w, i32_w]; rfl
                refine pure_ (i := 30) (N := some 97) (v := ?_) (a' := ?_) #[true, true, true, true, true, true, true, true, true, true, true, true, true, true, true, true, true, true, true, true, true, true, true, true, true, true, true, true, true, true, true, false, false] rfl rfl (any_of HT_.out (by kernel_rfl)) (fun _ _ _ h => h) (Or.inl ⟨by rfl, ?_⟩) ?_ ?_; rotate_left
                ·
                 intro w'; go_simp
                 with_reducible rfl
                rotate_left
                ·
                 simp only [Act.put, List.setIfInBounds_toArray, List.set_cons_zero, List.set_cons_succ, i64_w, i32_w]; rfl
                refine pure_ (i := 31) (N := some 98) (v := ?_) (a' := ?_) #[true, true, true, true, true, true, true, true, true, true, true, true, true, true, true, true, true, true, true, true, true, true, true, true, true, true, true, true, true, true, true, true, false] rfl rfl (any_of HT_.out (by kernel_rfl)) (fun _ _ _ h => h) (Or.inl ⟨by rfl, ?_⟩) ?_ ?_; rotate_left
                ·
                 intro w'; go_simp
                 with_reducible rfl
                rotate_left
                ·
                 simp only [Act.put, List.setIfInBounds_toArray, List.set_cons_zero, List.set_cons_succ, i64_w, i32_w]; rfl
                refine pure_ (i := 32) (N := some 99) (v := ?_) (a' := ?_) #[true, true, true, true, true, true, true, true, true, true, true, true, true, true, true, true, true, true, true, true, true, true, true, true, true, true, true, true, true, true, true, true, true] rfl rfl (any_of HT_.out (by kernel_rfl)) (fun _ _ _ h => h) (Or.inl ⟨by rfl, ?_⟩) ?_ ?_; rotate_left
                ·
                 intro w'; go_simp
                 with_reducible rfl
                rotate_left
                ·
                 simp only [Act.put, List.setIfInBounds_toArray, List.set_cons_zero, List.set_cons_succ, i64_w, i32_w]; rfl
                refine done_ (done_of HT_.out (by kernel_rfl)) ?_
                try go_wp2
                go_meet
                case rel => exact ⟨_, (false), (by first | rfl | (simp; done) | (simp [*]; done) | (refine congrArg (Value.int .i64) ?_; unfold wrap64; omega)), H', ⟨by have := HJ6.out; have := HK2.out; have := HK3.out; first | omega | exact Nat.le_refl _⟩, ⟨by exact HO_6.out⟩, ⟨by exact HO_481000.out⟩, ⟨by exact BK480.out⟩, ⟨by exact HB.out⟩⟩
             ·
              rw [if_neg c52] at H; exact absurd H (by simp)
            ·
             rw [if_neg c51] at H; exact absurd H (by simp)
          case rest =>
           clear HC48; (try clear c2); (try clear p2); (try clear c4); (try clear p4); (try clear q4); (try clear hx4); (try clear c5); (try clear p6); (try clear c25); (try clear c48); (try clear p48); (try clear q48); (try clear hx48); (try clear c51); (try clear c52); (try clear c53); (try clear c54); (try clear c54b0); (try clear c55); (try clear c56); (try clear hx487_0); (try clear hx487_1); (try clear hx487_2); (try clear hx487_3); (try clear hx488_0); (try clear hx488_1); (try clear hx488_2); (try clear hx488_3); (try clear hx489_0); (try clear hx489_1); (try clear hx489_2); (try clear hx489_3); (try clear hx489_4); (try clear hx489_5); (try clear hx489_6); (try clear p487); (try clear p489); (try clear q487); (try clear q489); obtain ⟨kq, x99_47, rfl, HA, HJ47, HO_6, HO_481000, BK480, HB⟩ := hcut
           cases kq with
           | zero => exact absurd HA.out (by simp [trustquorumlaw18_FederatedView.j3])
           | succ kj47 =>
            have H := HA.out; clear HA; simp only [trustquorumlaw18_FederatedView.j3] at H
            by_cases c61 : x99_47 = true
            ·
             subst c61; have H1 : (some false) = some r := by rw [if_pos rfl] at H; exact H
             clear H; have H := H1; clear H1; exact absurd ((Option.some.inj H).trans HRT.out) (by decide)
            ·
             replace c61 := Bool.eq_false_iff.mpr c61; subst c61; have H1 : (trustquorumlaw18_FederatedView.l0 kj47 t462 t473 (t477.length : Int) (wrap64 (x51_2 + 1)) t477) = some r := by rw [if_neg (show ¬ (false = true) by decide)] at H; exact H
             clear H; have H := H1; clear H1; have H' := Aside0.mk H; clear H
             go_wp2
             go_roundg kj47
             case measure => have := HJ6.out; have := HK2.out; have := HK3.out; have := HJ47.out; omega
             case rel => exact ⟨(wrap64 (x51_2 + 1)), (by first | rfl | (simp; done) | (simp [*]; done) | (refine congrArg (Value.int .i64) ?_; unfold wrap64; omega)), H', ⟨by have := HJ6.out; have := HK2.out; have := HK3.out; have := HJ47.out; omega⟩, ⟨by exact HO_6.out⟩, ⟨by exact HO_481000.out⟩, ⟨by exact BK480.out⟩, ⟨by exact HB.out⟩⟩
      ·
       rw [if_neg c37] at H; have c37b0 : decide (x51_2 < (t477.length : Int)) = false := decide_eq_false c37; clear c37; replace H := Option.bind_eq_some_iff.mp H; obtain ⟨t484, A620, H⟩ := H; replace H : (some t484) = some r := H; have A62 := Aside0.mk A620; clear A620; obtain rfl := Option.some.inj H
       go_wp2_with (first | ((with_reducible refine gate_callee (f := 13) rfl ?_); refine goesL_ (some 101) rfl rfl Try.func13 (by kernel_rfl) rfl #[] rfl (by (try simp only [List.map_toArray, List.map_cons, List.map_nil]); first | done | rfl | (simp only [List.length_drop, List.length_take]; rfl)) ?_; (with_reducible refine (trustquorumlaw18_awake.calls k2  t484 _ HRT A62.out).mono ?_); rintro e w63 ⟨rfl, hb⟩; refine ⟨_, rfl, ?_⟩; replace HO_6 := Aside0.mk (Kd.N_below HO_6.out hb); replace HO_481000 := Aside0.mk (Kd.N_below HO_481000.out hb); replace BK480 := Aside0.mk (blk_below BK480.out hb); replace HB := Aside0.mk (below_step HB.out hb); (try clear hb); (try clear hb2); (try clear hk); (try clear hi); (try clear A62)))
       go_ret
       exact ⟨by first | rfl | (simp [errW_none, errW_some] <;> rfl) | (simp [*, errW_none, errW_some] <;> rfl), by exact HB.out⟩
/-- THE ONE PURE STATEMENT of trustquorumlaw18_FederatedView: yours. -/
def trustquorumlaw18_FederatedView.Pure : Prop := ∀ (l0 : List Int), l0.length ≤ maxLen → l0.length * 8 ≤ 140737488351232 → (∀ x ∈ l0, (Lit.int .i64 x).wf = true) → ∃ k, trustquorumlaw18_FederatedView.f k l0 = some true
theorem trustquorumlaw18_FederatedView.walk (P : trustquorumlaw18_FederatedView.Pure) (a0 : Option Addr) (len0 cap0 : Nat) (z0 : List Int) (w : World) (w0 : (a0 = none ∧ len0 = 0 ∧ cap0 = 0 ∧ z0 = []) ∨ ∃ x, a0 = some x ∧ len0 ≤ cap0 ∧ cap0 ≤ maxLen ∧ z0.length = cap0 ∧ (∀ i, i < z0.length → w.cell? (x.add i) = some (.int .i64 (z0.getD i 0))) ∧ ∀ n ∈ z0, (Lit.int .i64 n).wf = true) (y0 : len0 * 8 ≤ 140737488351232) :
    Calls Try.prog 6 #[.slice a0 len0 cap0] w fun e w' => e = .returned (.bool true) ∧ Below w.heap.size w w' := by
  obtain ⟨l0, rfl, hr0, hm0, hw0, hc0⟩ := ReadsInt.ofRowC w0
  obtain ⟨k, h⟩ := P l0 hm0 y0 hw0
  refine (trustquorumlaw18_FederatedView.calls k _ _ l0 true w (Kd.C_of_reads (d := (0 : Int)) (h1 := fun _ => rfl) hr0) hc0 ⟨rfl⟩ h).mono ?_
  rintro e w' ⟨rfl, hd⟩
  exact ⟨rfl, hd⟩

end Go.Proofs.Ytmeamdklonmahaa.QFederatedView
