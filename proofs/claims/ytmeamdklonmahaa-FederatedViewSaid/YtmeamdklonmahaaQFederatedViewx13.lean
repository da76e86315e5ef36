/- Lean functions that answer as the Go functions do which the law reaches, and proofs that the Go code comes to exactly these answers. Conditions: those that each theorem names. -/
import Derived.Test.YtmeamdklonmahaaQFederatedViewx0
namespace Go.Proofs.Ytmeamdklonmahaa.QFederatedView
open Go.RowKit Go.Proofs.YtmeamdklonmahaaW.PrintWords Go.Proofs.YtmeamdklonmahaaW.PrintLast Go.Proofs.YtmeamdklonmahaaW.PrintMore
attribute [local go_sem] max2_int min2_int max_two min_two max_three min_three max_four min_four   -- for this text's walks alone
set_option linter.unusedVariables false
set_option linter.unusedSimpArgs false

/-! ### trustquorumref01_Same: function 67 -/
def trustquorumref01_Same.l0 : Nat → List Int → List Int → Int → Int → Option (Bool)
  | 0, _, _, _, _ => none
  | k + 1, x0, x1, x12, x13 => if x13 < x12 then (if 0 ≤ x13 then (if x13 < (x0.length : Int) then (if x13 < (x1.length : Int) then (if (rd x0 x13) = (rd x1 x13) then (trustquorumref01_Same.l0 k x0 x1 x12 (wrap64 (x13 + 1))) else (some false)) else (none)) else (none)) else (none)) else (some true)
def trustquorumref01_Same.f (k : Nat) (l0 : List Int) (l1 : List Int) : Option (Bool) := if (l0.length : Int) = (l1.length : Int) then (trustquorumref01_Same.l0 k l0 l1 (l0.length : Int) 0) else (some false)
theorem trustquorumref01_Same.mono_l : ∀ k, (∀ y0 y1 y2 y3, LeO (trustquorumref01_Same.l0 k y0 y1 y2 y3) (trustquorumref01_Same.l0 (k + 1) y0 y1 y2 y3))
  | 0 => fun _ _ _ _ r h => by simp [trustquorumref01_Same.l0] at h
  | k + 1 => by
    have ih0 := trustquorumref01_Same.mono_l k
    · intro y0 y1 y2 y3
      unfold trustquorumref01_Same.l0
      repeat' first
      | (with_reducible exact ih0 _ _ _ _)
      | (with_reducible exact LeO.refl _)
      | (with_reducible exact LeO.none _)
      | (with_reducible refine LeO.ite ?_ ?_)
      | (with_reducible refine LeO.bind ?_ (fun _ => ?_))
      | exact ih0 _ _ _ _
      | exact LeO.none _
      | refine LeO.ite ?_ ?_
      | refine LeO.bind ?_ (fun _ => ?_)
theorem trustquorumref01_Same.mono : ∀ a0 a1 k, LeO (trustquorumref01_Same.f k a0 a1) (trustquorumref01_Same.f (k + 1) a0 a1) := by
  intro a0 a1 k
  have ih0 := trustquorumref01_Same.mono_l k
  unfold trustquorumref01_Same.f
  repeat' first
      | (with_reducible exact ih0 _ _ _ _)
      | (with_reducible exact LeO.refl _)
      | (with_reducible exact LeO.none _)
      | (with_reducible refine LeO.ite ?_ ?_)
      | (with_reducible refine LeO.bind ?_ (fun _ => ?_))
      | exact ih0 _ _ _ _
      | exact LeO.none _
      | refine LeO.ite ?_ ?_
      | refine LeO.bind ?_ (fun _ => ?_)
set_option maxHeartbeats 8000000 in
set_option maxRecDepth 100000 in
theorem trustquorumref01_Same.calls (k : Nat) (A0 : Option Addr) (c0 : Nat) (l0 : List Int) (A1 : Option Addr) (c1 : Nat) (l1 : List Int) (r : Bool) (w : World) (hr0 : Kd.C (Kd.int .i64) w A0 l0.length l0) (hc0 : l0.length ≤ c0) (hr1 : Kd.C (Kd.int .i64) w A1 l1.length l1) (hc1 : l1.length ≤ c1) (h : trustquorumref01_Same.f k l0 l1 = some r) :
    Calls Try.prog 67 #[.slice A0 l0.length c0, .slice A1 l1.length c1] w fun e w' => e = .returned (.bool r) ∧ Drawn0 w w' := by
 have HR0 := Aside0.mk hr0; have HC0 := Aside0.mk hc0; clear hr0 hc0; have HR1 := Aside0.mk hr1; have HC1 := Aside0.mk hc1; clear hr1 hc1; have H : (if (l0.length : Int) = (l1.length : Int) then (trustquorumref01_Same.l0 k l0 l1 (l0.length : Int) 0) else (some false)) = some r := h; clear h
 by_cases c3 : (l0.length : Int) = (l1.length : Int)
 ·
  rw [if_pos c3] at H; have c3b0 : ((l0.length : Int) == (l1.length : Int)) = true := beq_iff_eq.mpr c3; have c3b1 : ((l0.length : Int) != (l1.length : Int)) = false := bne_eq_false_iff_eq.mpr c3; have c3b2 : (l0.length == l1.length) = true := by first | simpa using c3 | (simp at c3 ⊢; omega)
  clear c3; have H' := Aside0.mk H; clear H
  go_enter Try.func67, Try.ntmps67
  go_wp2
  repeat (go_quiet (fail); try go_wp2)
  go_loopg [13] k (fun kq v13 w' => ∃ (x13_1 : Int), v13 = .int .i64 x13_1 ∧ Aside0 (trustquorumref01_Same.l0 kq l0 l1 (l0.length : Int) x13_1 = some r) ∧ Aside0 (kq ≤ k) ∧ Drawn0 w w')
  case atStart => exact ⟨(0), (by first | rfl | (simp; done) | (simp [*]; done) | (refine congrArg (Value.int .i64) ?_; unfold wrap64; omega)), H', ⟨Nat.le_refl _⟩, by repeat (first | exact Drawn0.refl _ | apply Drawn0.step)⟩
  case round =>
   clear H'; (try clear c1); (try clear p2); (try clear c3); (try clear c3b0); (try clear c3b1); (try clear c3b2); obtain ⟨x13_1, rfl, HA, HK1, ⟨m1, rfl⟩⟩ := hrel
   cases gk with
   | zero => exact absurd HA.out (by simp [trustquorumref01_Same.l0])
   | succ k1 =>
    have H := HA.out; clear HA; simp only [trustquorumref01_Same.l0] at H
    by_cases c4 : x13_1 < (l0.length : Int)
    ·
     rw [if_pos c4] at H; have c4b0 : decide (x13_1 < (l0.length : Int)) = true := decide_eq_true c4; clear c4
     by_cases c5 : 0 ≤ x13_1
     ·
      rw [if_pos c5] at H; have c5b0 : decide (0 ≤ x13_1) = true := decide_eq_true c5; clear c5
      by_cases c6 : x13_1 < (l0.length : Int)
      ·
       rw [if_pos c6] at H; have c6b0 : decide (x13_1 < (l0.length : Int)) = true := decide_eq_true c6; clear c6
       by_cases c7 : x13_1 < (l1.length : Int)
       ·
        rw [if_pos c7] at H; have c7b0 : decide (x13_1 < (l1.length : Int)) = true := decide_eq_true c7; clear c7
        by_cases c8 : (rd l0 x13_1) = (rd l1 x13_1)
        ·
         rw [if_pos c8] at H; have c8b0 : ((rd l0 x13_1) == (rd l1 x13_1)) = true := beq_iff_eq.mpr c8; have c8b1 : ((rd l0 x13_1) != (rd l1 x13_1)) = false := bne_eq_false_iff_eq.mpr c8; clear c8; have H' := Aside0.mk H; clear H; have p451 : 0 ≤ (x13_1 : Int) := of_decide_eq_true (by first | (with_reducible assumption) | assumption); have q451 : x13_1 < (l0.length : Int) := of_decide_eq_true (by first | (with_reducible assumption) | assumption); obtain ⟨ad451, e451, hx451_0⟩ := Kd.at_int HR0.out x13_1 p451 q451
         cases e451
         replace p451 := eq_true p451; replace q451 := eq_true q451; have p452 : 0 ≤ (x13_1 : Int) := of_decide_eq_true (by first | (with_reducible assumption) | assumption); have q452 : x13_1 < (l1.length : Int) := of_decide_eq_true (by first | (with_reducible assumption) | assumption); obtain ⟨ad452, e452, hx452_0⟩ := Kd.at_int HR1.out x13_1 p452 q452
         cases e452
         replace p452 := eq_true p452; replace q452 := eq_true q452
         go_wp2
         repeat (go_quiet (fail); try go_wp2)
         go_roundg k1
         case measure => have := HK1.out; omega
         case rel => exact ⟨(wrap64 (x13_1 + 1)), (by first | rfl | (simp; done) | (simp [*]; done) | (refine congrArg (Value.int .i64) ?_; unfold wrap64; omega)), H', ⟨by have := HK1.out; omega⟩, by repeat (first | exact Drawn0.refl _ | apply Drawn0.step)⟩
        ·
         rw [if_neg c8] at H; have c8b0 : ((rd l0 x13_1) == (rd l1 x13_1)) = false := beq_eq_false_iff_ne.mpr c8; have c8b1 : ((rd l0 x13_1) != (rd l1 x13_1)) = true := bne_iff_ne.mpr c8; obtain rfl := Option.some.inj H; have p451 : 0 ≤ (x13_1 : Int) := of_decide_eq_true (by first | (with_reducible assumption) | assumption); have q451 : x13_1 < (l0.length : Int) := of_decide_eq_true (by first | (with_reducible assumption) | assumption); obtain ⟨ad451, e451, hx451_0⟩ := Kd.at_int HR0.out x13_1 p451 q451
         cases e451
         replace p451 := eq_true p451; replace q451 := eq_true q451; have p452 : 0 ≤ (x13_1 : Int) := of_decide_eq_true (by first | (with_reducible assumption) | assumption); have q452 : x13_1 < (l1.length : Int) := of_decide_eq_true (by first | (with_reducible assumption) | assumption); obtain ⟨ad452, e452, hx452_0⟩ := Kd.at_int HR1.out x13_1 p452 q452
         cases e452
         replace p452 := eq_true p452; replace q452 := eq_true q452
         go_wp2
         repeat (go_quiet (fail); try go_wp2)
         go_ret
         exact ⟨by first | rfl | (simp; done) | (simp [*]; done) | (refine congrArg (Value.int .i64) ?_; unfold wrap64; omega), by repeat (first | exact Drawn0.refl _ | apply Drawn0.step)⟩
       ·
        rw [if_neg c7] at H; exact absurd H (by simp)
      ·
       rw [if_neg c6] at H; exact absurd H (by simp)
     ·
      rw [if_neg c5] at H; exact absurd H (by simp)
    ·
     rw [if_neg c4] at H; have c4b0 : decide (x13_1 < (l0.length : Int)) = false := decide_eq_false c4; clear c4; obtain rfl := Option.some.inj H
     go_wp2
     repeat (go_quiet (fail); try go_wp2)
     go_ret
     exact ⟨by first | rfl | (simp; done) | (simp [*]; done) | (refine congrArg (Value.int .i64) ?_; unfold wrap64; omega), by repeat (first | exact Drawn0.refl _ | apply Drawn0.step)⟩
 ·
  rw [if_neg c3] at H; have c3b0 : ((l0.length : Int) == (l1.length : Int)) = false := beq_eq_false_iff_ne.mpr c3; have c3b1 : ((l0.length : Int) != (l1.length : Int)) = true := bne_iff_ne.mpr c3; have c3b2 : (l0.length == l1.length) = false := by first | simpa using c3 | (simp at c3 ⊢; omega)
  obtain rfl := Option.some.inj H
  go_enter Try.func67, Try.ntmps67
  go_wp2
  repeat (go_quiet (fail); try go_wp2)
  go_ret
  exact ⟨by first | rfl | (simp; done) | (simp [*]; done) | (refine congrArg (Value.int .i64) ?_; unfold wrap64; omega), by repeat (first | exact Drawn0.refl _ | apply Drawn0.step)⟩
/-! ### trustquorumref02_Same: function 25 -/
mutual
def trustquorumref02_Same.j0 : Nat → Bool → Int → List Int → List (S48) → Int → List Int → List (S48) → Option (Bool)
  | 0, _, _, _, _, _, _, _ => none
  | k + 1, x27, x454000, x454001, x454002, x455000, x455001, x455002 => if x27 = true then (some false) else (trustquorumref02_Same.l0 k (x454002.length : Int) 0 x454000 x454001 x454002 x455000 x455001 x455002)
def trustquorumref02_Same.l0 : Nat → Int → Int → Int → List Int → List (S48) → Int → List Int → List (S48) → Option (Bool)
  | 0, _, _, _, _, _, _, _, _ => none
  | k + 1, x30, x31, x454000, x454001, x454002, x455000, x455001, x455002 => if x31 < x30 then (if 0 ≤ x31 then (if x31 < (x454002.length : Int) then (if x31 < (x455002.length : Int) then ((trustquorumref02_Same.f k ((rd_T48 x454002 x31).f0) ((rd_T48 x454002 x31).f1) ((rd_T48 x454002 x31).f2) ((rd_T48 x455002 x31).f0) ((rd_T48 x455002 x31).f1) ((rd_T48 x455002 x31).f2)).bind fun t458 => (if t458 = true then (trustquorumref02_Same.l0 k x30 (wrap64 (x31 + 1)) x454000 x454001 x454002 x455000 x455001 x455002) else (some false))) else (none)) else (none)) else (none)) else (some true)
def trustquorumref02_Same.f : Nat → Int → List Int → List (S48) → Int → List Int → List (S48) → Option (Bool)
  | 0, _, _, _, _, _, _ => none
  | k + 1, a0_0, l0_1, l0_2, a1_0, l1_1, l1_2 => if a0_0 = a1_0 then ((trustquorumref01_Same.f k l0_1 l1_1).bind fun t455 => (if t455 = true then (trustquorumref02_Same.j0 k ((l0_2.length : Int) != (l1_2.length : Int)) a0_0 l0_1 l0_2 a1_0 l1_1 l1_2) else (trustquorumref02_Same.j0 k true a0_0 l0_1 l0_2 a1_0 l1_1 l1_2))) else (trustquorumref02_Same.j0 k true a0_0 l0_1 l0_2 a1_0 l1_1 l1_2)
end
theorem trustquorumref02_Same.mono_l : ∀ k, (∀ y0 y1 y2 y3 y4 y5, LeO (trustquorumref02_Same.f k y0 y1 y2 y3 y4 y5) (trustquorumref02_Same.f (k + 1) y0 y1 y2 y3 y4 y5)) ∧ (∀ y0 y1 y2 y3 y4 y5 y6, LeO (trustquorumref02_Same.j0 k y0 y1 y2 y3 y4 y5 y6) (trustquorumref02_Same.j0 (k + 1) y0 y1 y2 y3 y4 y5 y6)) ∧ (∀ y0 y1 y2 y3 y4 y5 y6 y7, LeO (trustquorumref02_Same.l0 k y0 y1 y2 y3 y4 y5 y6 y7) (trustquorumref02_Same.l0 (k + 1) y0 y1 y2 y3 y4 y5 y6 y7))
  | 0 => ⟨fun _ _ _ _ _ _ r h => by simp [trustquorumref02_Same.f] at h, fun _ _ _ _ _ _ _ r h => by simp [trustquorumref02_Same.j0] at h, fun _ _ _ _ _ _ _ _ r h => by simp [trustquorumref02_Same.l0] at h⟩
  | k + 1 => by
    obtain ⟨ih0, ih1, ih2⟩ := trustquorumref02_Same.mono_l k
    refine ⟨?_, ?_, ?_⟩
    · intro y0 y1 y2 y3 y4 y5
      unfold trustquorumref02_Same.f
      repeat' first
      | (with_reducible exact ih0 _ _ _ _ _ _)
      | (with_reducible exact ih1 _ _ _ _ _ _ _)
      | (with_reducible exact ih2 _ _ _ _ _ _ _ _)
      | (with_reducible exact trustquorumref01_Same.mono _ _ _)
      | (with_reducible exact LeO.refl _)
      | (with_reducible exact LeO.none _)
      | (with_reducible refine LeO.ite ?_ ?_)
      | (with_reducible refine LeO.bind ?_ (fun _ => ?_))
      | exact ih0 _ _ _ _ _ _
      | exact ih1 _ _ _ _ _ _ _
      | exact ih2 _ _ _ _ _ _ _ _
      | exact trustquorumref01_Same.mono _ _ _
      | exact LeO.none _
      | refine LeO.ite ?_ ?_
      | refine LeO.bind ?_ (fun _ => ?_)
    · intro y0 y1 y2 y3 y4 y5 y6
      unfold trustquorumref02_Same.j0
      repeat' first
      | (with_reducible exact ih0 _ _ _ _ _ _)
      | (with_reducible exact ih1 _ _ _ _ _ _ _)
      | (with_reducible exact ih2 _ _ _ _ _ _ _ _)
      | (with_reducible exact trustquorumref01_Same.mono _ _ _)
      | (with_reducible exact LeO.refl _)
      | (with_reducible exact LeO.none _)
      | (with_reducible refine LeO.ite ?_ ?_)
      | (with_reducible refine LeO.bind ?_ (fun _ => ?_))
      | exact ih0 _ _ _ _ _ _
      | exact ih1 _ _ _ _ _ _ _
      | exact ih2 _ _ _ _ _ _ _ _
      | exact trustquorumref01_Same.mono _ _ _
      | exact LeO.none _
      | refine LeO.ite ?_ ?_
      | refine LeO.bind ?_ (fun _ => ?_)
    · intro y0 y1 y2 y3 y4 y5 y6 y7
      unfold trustquorumref02_Same.l0
      repeat' first
      | (with_reducible exact ih0 _ _ _ _ _ _)
      | (with_reducible exact ih1 _ _ _ _ _ _ _)
      | (with_reducible exact ih2 _ _ _ _ _ _ _ _)
      | (with_reducible exact trustquorumref01_Same.mono _ _ _)
      | (with_reducible exact LeO.refl _)
      | (with_reducible exact LeO.none _)
      | (with_reducible refine LeO.ite ?_ ?_)
      | (with_reducible refine LeO.bind ?_ (fun _ => ?_))
      | exact ih0 _ _ _ _ _ _
      | exact ih1 _ _ _ _ _ _ _
      | exact ih2 _ _ _ _ _ _ _ _
      | exact trustquorumref01_Same.mono _ _ _
      | exact LeO.none _
      | refine LeO.ite ?_ ?_
      | refine LeO.bind ?_ (fun _ => ?_)
theorem trustquorumref02_Same.mono : ∀ a0 a1 a2 a3 a4 a5 k, LeO (trustquorumref02_Same.f k a0 a1 a2 a3 a4 a5) (trustquorumref02_Same.f (k + 1) a0 a1 a2 a3 a4 a5) := by
  intro a0 a1 a2 a3 a4 a5 k
  obtain ⟨ih0, ih1, ih2⟩ := trustquorumref02_Same.mono_l k
  exact ih0 a0 a1 a2 a3 a4 a5
def trustquorumref02_Same.T6 : Bool × List (List Nat × List Nat) := (true, [([], []), ([0], [0]), ([], []), ([1, 2], [1, 2]), ([3], [3]), ([], []), ([5], [5]), ([], []), ([6, 7], [6, 7]), ([8], [8]), ([4, 9], [4, 9]), ([10], [10])])
def trustquorumref02_Same.B6 : List Nat := [0, 1, 0, 7, 15, 0, 32, 0, 224, 480, 1023, 2047]
theorem trustquorumref02_Same.tab6 : rtab .any (opsOf Try.f25 6) = trustquorumref02_Same.T6 := by kernel_rfl
theorem trustquorumref02_Same.bits6 : waitsOk trustquorumref02_Same.T6.2 trustquorumref02_Same.B6 = true := by kernel_rfl
set_option maxHeartbeats 8000000 in
set_option maxRecDepth 100000 in
theorem trustquorumref02_Same.calls (k : Nat) : ∀ (a0_0 : Int) (A0_1 : Option Addr) (c0_1 : Nat) (l0_1 : List Int) (A0_2 : Option Addr) (c0_2 : Nat) (l0_2 : List (S48)) (a1_0 : Int) (A1_1 : Option Addr) (c1_1 : Nat) (l1_1 : List Int) (A1_2 : Option Addr) (c1_2 : Nat) (l1_2 : List (S48)) (r : Bool) (w : World) (hr0_1 : Kd.C (Kd.int .i64) w A0_1 l0_1.length l0_1) (hc0_1 : l0_1.length ≤ c0_1) (hr0_2 : Kd.C k48 w A0_2 l0_2.length l0_2) (hc0_2 : l0_2.length ≤ c0_2) (hr1_1 : Kd.C (Kd.int .i64) w A1_1 l1_1.length l1_1) (hc1_1 : l1_1.length ≤ c1_1) (hr1_2 : Kd.C k48 w A1_2 l1_2.length l1_2) (hc1_2 : l1_2.length ≤ c1_2) (h : trustquorumref02_Same.f k a0_0 l0_1 l0_2 a1_0 l1_1 l1_2 = some r),
    Calls Try.prog 25 #[.agg #[.int .i64 a0_0, .slice A0_1 l0_1.length c0_1, .slice A0_2 l0_2.length c0_2], .agg #[.int .i64 a1_0, .slice A1_1 l1_1.length c1_1, .slice A1_2 l1_2.length c1_2]] w fun e w' => e = .returned (.bool r) ∧ Below w.heap.size w w' := by
 induction k using Nat.strongRecOn with
 | _ k ih =>
 intro a0_0 A0_1 c0_1 l0_1 A0_2 c0_2 l0_2 a1_0 A1_1 c1_1 l1_1 A1_2 c1_2 l1_2 r w hr0_1 hc0_1 hr0_2 hc0_2 hr1_1 hc1_1 hr1_2 hc1_2 h
 cases k with
 | zero => exact absurd h (by simp [trustquorumref02_Same.f])
 | succ k =>
 simp only [trustquorumref02_Same.f] at h; have hu48 := Try.underlying48; have HR0_1 := Aside0.mk hr0_1; have HC0_1 := Aside0.mk hc0_1; clear hr0_1 hc0_1; have HR0_2 := Aside0.mk hr0_2; have HC0_2 := Aside0.mk hc0_2; clear hr0_2 hc0_2; have HR1_1 := Aside0.mk hr1_1; have HC1_1 := Aside0.mk hc1_1; clear hr1_1 hc1_1; have HR1_2 := Aside0.mk hr1_2; have HC1_2 := Aside0.mk hc1_2; clear hr1_2 hc1_2; have HB := Aside0.mk (Below.refl w.heap.size w); have H : (if a0_0 = a1_0 then ((trustquorumref01_Same.f k l0_1 l1_1).bind fun t455 => (if t455 = true then (trustquorumref02_Same.j0 k ((l0_2.length : Int) != (l1_2.length : Int)) a0_0 l0_1 l0_2 a1_0 l1_1 l1_2) else (trustquorumref02_Same.j0 k true a0_0 l0_1 l0_2 a1_0 l1_1 l1_2))) else (trustquorumref02_Same.j0 k true a0_0 l0_1 l0_2 a1_0 l1_1 l1_2)) = some r := h; clear h; have HC3 := Aside0.mk H; clear H
 go_enter Try.func25, Try.ntmps25
 go_upto_region 1 with (first | ((with_reducible refine gate_dst (N := 2) rfl ?_); (try (refine gate_guard (by rfl) ?_; dsimp only)); refine box_event ?hg (N := 2) ?hd (cs := #[.int .i64 a0_0, .slice A0_1 l0_1.length c0_1, .slice A0_2 l0_2.length c0_2]) (t := 48) ?hr ?_; (case hd => rfl); (case hg => rfl); (case hr => first | (go_simp; done) | (go_simp; rfl)); intro gb453 hg w4 hbox hb; have BK453 := Aside0.mk (hbox); have GW453 := Aside0.mk ((by rw [hg]; exact (below_size HB.out) : w.heap.size ≤ gb453)); have GE453 := Aside0.mk ((by rw [hg]; exact (below_size HB.out) : w.heap.size ≤ gb453)); replace HB := Aside0.mk (below_step HB.out hb); clear hb hbox hg) | ((with_reducible refine gate_dst (N := 3) rfl ?_); (try (refine gate_guard (by rfl) ?_; dsimp only)); refine box_event ?hg (N := 3) ?hd (cs := #[.int .i64 a1_0, .slice A1_1 l1_1.length c1_1, .slice A1_2 l1_2.length c1_2]) (t := 48) ?hr ?_; (case hd => rfl); (case hg => rfl); (case hr => first | (go_simp; done) | (go_simp; rfl)); intro gb454 hg w5 hbox hb; have BK454 := Aside0.mk (hbox); have GW454 := Aside0.mk ((by rw [hg]; exact (below_size HB.out) : w.heap.size ≤ gb454)); have GE454 := Aside0.mk ((by rw [hg]; exact (below_size HB.out) : w.heap.size ≤ gb454)); replace HB := Aside0.mk (below_step HB.out hb); have NB453_454 := Aside0.mk ((by rw [hg]; exact Nat.ne_of_lt (blk_lt BK453.out) : gb453 ≠ gb454)); have NB454_453 := Aside0.mk ((by rw [hg]; exact Nat.ne_of_gt (blk_lt BK453.out) : gb454 ≠ gb453)); replace BK453 := Aside0.mk (blk_below BK453.out hb); clear hb hbox hg))
 (try simp only [Act.put, List.setIfInBounds_toArray, List.set_cons_zero, List.set_cons_succ])
 go_cut [27] (fun v27 wc => ∃ (kq : Nat) (x27_2 : Bool), v27 = .bool x27_2 ∧ Aside0 (trustquorumref02_Same.j0 kq x27_2 a0_0 l0_1 l0_2 a1_0 l1_1 l1_2 = some r) ∧ Aside0 (kq ≤ k) ∧ Aside0 (wc.heap[gb453]? = some (.cells #[.int .i64 a0_0, (.slice A0_1 l0_1.length c0_1), (.slice A0_2 l0_2.length c0_2)] 48 (0, 0))) ∧ Aside0 (wc.heap[gb454]? = some (.cells #[.int .i64 a1_0, (.slice A1_1 l1_1.length c1_1), (.slice A1_2 l1_2.length c1_2)] 48 (0, 0))) ∧ Aside0 (Below w.heap.size w wc))
 case first =>
  have H := HC3.out; clear HC3
  by_cases c6 : a0_0 = a1_0
  ·
   rw [if_pos c6] at H; have c6b0 : (a0_0 == a1_0) = true := beq_iff_eq.mpr c6; have c6b1 : (a0_0 != a1_0) = false := bne_eq_false_iff_eq.mpr c6; clear c6; (first | rw [c6b0] | (simp only [i64_w, i32_w]; rw [c6b0]) | skip); replace H := Option.bind_eq_some_iff.mp H; obtain ⟨t455, A70, H⟩ := H; replace H : (if t455 = true then (trustquorumref02_Same.j0 k ((l0_2.length : Int) != (l1_2.length : Int)) a0_0 l0_1 l0_2 a1_0 l1_1 l1_2) else (trustquorumref02_Same.j0 k true a0_0 l0_1 l0_2 a1_0 l1_1 l1_2)) = some r := H; have A7 := Aside0.mk A70; clear A70
   by_cases c8 : t455 = true
   ·
    subst c8; have H1 : (trustquorumref02_Same.j0 k ((l0_2.length : Int) != (l1_2.length : Int)) a0_0 l0_1 l0_2 a1_0 l1_1 l1_2) = some r := by rw [if_pos rfl] at H; exact H
    clear H; have H := H1; clear H1; have H' := Aside0.mk H; clear H; have hnb9 := NB453_454.out; have hnc9 := NB454_453.out; obtain ⟨hcz10_0, hcz10_1, hcz10_2, hfz10_0, hfz10_1, hfz10_2⟩ := blkC3 BK453.out; obtain ⟨hcz11_0, hcz11_1, hcz11_2, hfz11_0, hfz11_1, hfz11_2⟩ := blkC3 BK454.out
    go_wp2_with (first | (go_at_call 67; (with_reducible refine (trustquorumref01_Same.calls k _ _ l0_1 _ _ l1_1 true _ ?side1 ?side2 ?side3 ?side4 A7.out).mono ?_); (case side1 => exact (Kd.C_below HR0_1.out HB.out)); (case side2 => exact HC0_1.out); (case side3 => exact (Kd.C_below HR1_1.out HB.out)); (case side4 => exact HC1_1.out); rintro e w' ⟨rfl, ⟨nd, rfl⟩⟩))
    go_meet
    case rel => exact ⟨_, (((l0_2.length : Int) != (l1_2.length : Int))), (by first | rfl | (simp; done) | (simp [*]; done) | (refine congrArg (Value.int .i64) ?_; unfold wrap64; omega)), H', ⟨by first | omega | exact Nat.le_refl _⟩, ⟨by (with_reducible repeat (first | refine blk_drewN ?_ _ | refine blk_drew ?_ | refine blk_alloc ?_ _)); exact BK453.out⟩, ⟨by (with_reducible repeat (first | refine blk_drewN ?_ _ | refine blk_drew ?_ | refine blk_alloc ?_ _)); exact BK454.out⟩, ⟨by repeat (first | (with_reducible first | exact HB.out | apply below_alloc | apply pw_below_drewN | apply below_drew1 | refine below_set ?_ GE453.out | refine below_set ?_ GE454.out) | exact HB.out)⟩⟩
   ·
    replace c8 := Bool.eq_false_iff.mpr c8; subst c8; have H1 : (trustquorumref02_Same.j0 k true a0_0 l0_1 l0_2 a1_0 l1_1 l1_2) = some r := by rw [if_neg (show ¬ (false = true) by decide)] at H; exact H
    clear H; have H := H1; clear H1; have H' := Aside0.mk H; clear H; have hnb12 := NB453_454.out; have hnc12 := NB454_453.out; obtain ⟨hcz13_0, hcz13_1, hcz13_2, hfz13_0, hfz13_1, hfz13_2⟩ := blkC3 BK453.out; obtain ⟨hcz14_0, hcz14_1, hcz14_2, hfz14_0, hfz14_1, hfz14_2⟩ := blkC3 BK454.out
    go_wp2_with (first | (go_at_call 67; (with_reducible refine (trustquorumref01_Same.calls k _ _ l0_1 _ _ l1_1 false _ ?side1 ?side2 ?side3 ?side4 A7.out).mono ?_); (case side1 => exact (Kd.C_below HR0_1.out HB.out)); (case side2 => exact HC0_1.out); (case side3 => exact (Kd.C_below HR1_1.out HB.out)); (case side4 => exact HC1_1.out); rintro e w' ⟨rfl, ⟨nd, rfl⟩⟩))
    go_meet
    case rel => exact ⟨_, (true), (by first | rfl | (simp; done) | (simp [*]; done) | (refine congrArg (Value.int .i64) ?_; unfold wrap64; omega)), H', ⟨by first | omega | exact Nat.le_refl _⟩, ⟨by (with_reducible repeat (first | refine blk_drewN ?_ _ | refine blk_drew ?_ | refine blk_alloc ?_ _)); exact BK453.out⟩, ⟨by (with_reducible repeat (first | refine blk_drewN ?_ _ | refine blk_drew ?_ | refine blk_alloc ?_ _)); exact BK454.out⟩, ⟨by repeat (first | (with_reducible first | exact HB.out | apply below_alloc | apply pw_below_drewN | apply below_drew1 | refine below_set ?_ GE453.out | refine below_set ?_ GE454.out) | exact HB.out)⟩⟩
  ·
   rw [if_neg c6] at H; have c6b0 : (a0_0 == a1_0) = false := beq_eq_false_iff_ne.mpr c6; have c6b1 : (a0_0 != a1_0) = true := bne_iff_ne.mpr c6; (first | rw [c6b0] | (simp only [i64_w, i32_w]; rw [c6b0]) | skip); have H' := Aside0.mk H; clear H; have hnb15 := NB453_454.out; have hnc15 := NB454_453.out; obtain ⟨hcz16_0, hcz16_1, hcz16_2, hfz16_0, hfz16_1, hfz16_2⟩ := blkC3 BK453.out; obtain ⟨hcz17_0, hcz17_1, hcz17_2, hfz17_0, hfz17_1, hfz17_2⟩ := blkC3 BK454.out
   go_wp2
   go_meet
   case rel => exact ⟨_, (true), (by first | rfl | (simp; done) | (simp [*]; done) | (refine congrArg (Value.int .i64) ?_; unfold wrap64; omega)), H', ⟨by first | omega | exact Nat.le_refl _⟩, ⟨by exact BK453.out⟩, ⟨by exact BK454.out⟩, ⟨by exact HB.out⟩⟩
 case rest =>
  clear HC3; (try clear c1); (try clear c2); (try clear p2); (try clear c6); (try clear c6b0); (try clear c6b1); (try clear p6); (try clear c8); (try clear c9); (try clear c12); (try clear c15); (try clear hcz10_0); (try clear hcz10_1); (try clear hcz10_2); (try clear hcz11_0); (try clear hcz11_1); (try clear hcz11_2); (try clear hcz13_0); (try clear hcz13_1); (try clear hcz13_2); (try clear hcz14_0); (try clear hcz14_1); (try clear hcz14_2); (try clear hcz16_0); (try clear hcz16_1); (try clear hcz16_2); (try clear hcz17_0); (try clear hcz17_1); (try clear hcz17_2); (try clear hfz10_0); (try clear hfz10_1); (try clear hfz10_2); (try clear hfz11_0); (try clear hfz11_1); (try clear hfz11_2); (try clear hfz13_0); (try clear hfz13_1); (try clear hfz13_2); (try clear hfz14_0); (try clear hfz14_1); (try clear hfz14_2); (try clear hfz16_0); (try clear hfz16_1); (try clear hfz16_2); (try clear hfz17_0); (try clear hfz17_1); (try clear hfz17_2); obtain ⟨kq, x27_2, rfl, HA, HJ2, BK453, BK454, HB⟩ := hcut
  cases kq with
  | zero => exact absurd HA.out (by simp [trustquorumref02_Same.j0])
  | succ kj2 =>
   have H := HA.out; clear HA; simp only [trustquorumref02_Same.j0] at H
   by_cases c18 : x27_2 = true
   ·
    subst c18; have H1 : (some false) = some r := by rw [if_pos rfl] at H; exact H
    clear H; have H := H1; clear H1; obtain rfl := Option.some.inj H
    go_wp2
    go_ret
    exact ⟨by first | rfl | (simp [errW_none, errW_some] <;> rfl) | (simp [*, errW_none, errW_some] <;> rfl), by exact HB.out⟩
   ·
    replace c18 := Bool.eq_false_iff.mpr c18; subst c18; have H1 : (trustquorumref02_Same.l0 kj2 (l0_2.length : Int) 0 a0_0 l0_1 l0_2 a1_0 l1_1 l1_2) = some r := by rw [if_neg (show ¬ (false = true) by decide)] at H; exact H
    clear H; have H := H1; clear H1; have H' := Aside0.mk H; clear H; have hnb19 := NB453_454.out; have hnc19 := NB454_453.out; obtain ⟨hcz20_0, hcz20_1, hcz20_2, hfz20_0, hfz20_1, hfz20_2⟩ := blkC3 BK453.out
    go_wp2
    go_loopg [31] kj2 (fun kq v31 w' => ∃ (x31_2 : Int), v31 = .int .i64 x31_2 ∧ Aside0 (trustquorumref02_Same.l0 kq (l0_2.length : Int) x31_2 a0_0 l0_1 l0_2 a1_0 l1_1 l1_2 = some r) ∧ Aside0 (kq ≤ kj2) ∧ Aside0 (w'.heap[gb453]? = some (.cells #[.int .i64 a0_0, (.slice A0_1 l0_1.length c0_1), (.slice A0_2 l0_2.length c0_2)] 48 (0, 0))) ∧ Aside0 (w'.heap[gb454]? = some (.cells #[.int .i64 a1_0, (.slice A1_1 l1_1.length c1_1), (.slice A1_2 l1_2.length c1_2)] 48 (0, 0))) ∧ Aside0 (Below w.heap.size w w'))
    case atStart => exact ⟨(0), (by first | rfl | (simp; done) | (simp [*]; done) | (refine congrArg (Value.int .i64) ?_; unfold wrap64; omega)), H', ⟨Nat.le_refl _⟩, ⟨by exact BK453.out⟩, ⟨by exact BK454.out⟩, ⟨by exact HB.out⟩⟩
    case round =>
     clear H'; (try clear c1); (try clear c2); (try clear p2); (try clear c6); (try clear c6b0); (try clear c6b1); (try clear p6); (try clear c8); (try clear c9); (try clear c12); (try clear c15); (try clear c18); (try clear c19); (try clear hcz10_0); (try clear hcz10_1); (try clear hcz10_2); (try clear hcz11_0); (try clear hcz11_1); (try clear hcz11_2); (try clear hcz13_0); (try clear hcz13_1); (try clear hcz13_2); (try clear hcz14_0); (try clear hcz14_1); (try clear hcz14_2); (try clear hcz16_0); (try clear hcz16_1); (try clear hcz16_2); (try clear hcz17_0); (try clear hcz17_1); (try clear hcz17_2); (try clear hcz20_0); (try clear hcz20_1); (try clear hcz20_2); (try clear hfz10_0); (try clear hfz10_1); (try clear hfz10_2); (try clear hfz11_0); (try clear hfz11_1); (try clear hfz11_2); (try clear hfz13_0); (try clear hfz13_1); (try clear hfz13_2); (try clear hfz14_0); (try clear hfz14_1); (try clear hfz14_2); (try clear hfz16_0); (try clear hfz16_1); (try clear hfz16_2); (try clear hfz17_0); (try clear hfz17_1); (try clear hfz17_2); (try clear hfz20_0); (try clear hfz20_1); (try clear hfz20_2); (try clear p2); (try clear p6); obtain ⟨x31_2, rfl, HA, HK2, BK453, BK454, HB⟩ := hrel
     cases gk with
     | zero => exact absurd HA.out (by simp [trustquorumref02_Same.l0])
     | succ k2 =>
      have H := HA.out; clear HA; simp only [trustquorumref02_Same.l0] at H
      by_cases c21 : x31_2 < (l0_2.length : Int)
      ·
       rw [if_pos c21] at H; have c21b0 : decide (x31_2 < (l0_2.length : Int)) = true := decide_eq_true c21; clear c21
       by_cases c22 : 0 ≤ x31_2
       ·
        rw [if_pos c22] at H; have c22b0 : decide (0 ≤ x31_2) = true := decide_eq_true c22; clear c22
        by_cases c23 : x31_2 < (l0_2.length : Int)
        ·
         rw [if_pos c23] at H; have c23b0 : decide (x31_2 < (l0_2.length : Int)) = true := decide_eq_true c23; clear c23
         by_cases c24 : x31_2 < (l1_2.length : Int)
         ·
          rw [if_pos c24] at H; have c24b0 : decide (x31_2 < (l1_2.length : Int)) = true := decide_eq_true c24; clear c24; replace H := Option.bind_eq_some_iff.mp H; obtain ⟨t458, A250, H⟩ := H; replace H : (if t458 = true then (trustquorumref02_Same.l0 k2 (l0_2.length : Int) (wrap64 (x31_2 + 1)) a0_0 l0_1 l0_2 a1_0 l1_1 l1_2) else (some false)) = some r := H; have A25 := Aside0.mk A250; clear A250
          by_cases c26 : t458 = true
          ·
           subst c26; have H1 : (trustquorumref02_Same.l0 k2 (l0_2.length : Int) (wrap64 (x31_2 + 1)) a0_0 l0_1 l0_2 a1_0 l1_1 l1_2) = some r := by rw [if_pos rfl] at H; exact H
           clear H; have H := H1; clear H1; have H' := Aside0.mk H; clear H
           try go_wp2
           replace BK453 := Aside0.mk (blk_drew BK453.out); replace BK454 := Aside0.mk (blk_drew BK454.out); replace HB := Aside0.mk (below_drew1 HB.out); have p456 : 0 ≤ (x31_2 : Int) := of_decide_eq_true (by first | (with_reducible assumption) | assumption); have q456 : x31_2 < (l0_2.length : Int) := of_decide_eq_true (by first | (with_reducible assumption) | assumption); obtain ⟨ad456, A456_1, c456_1, A456_2, c456_2, e456, hx456_0, hx456_1, hx456_2, hl456_1, hi456_1, hl456_2, hi456_2⟩ := at_T48 HR0_2.out x31_2 p456 q456; have hw456_2 := hx456_2; have hw456_1 := hx456_1; have hw456_0 := hx456_0
           cases e456
           replace hx456_0 := (HB.out.cell (World.block_lt_of_cell? w _ hx456_0)).trans hx456_0; replace hx456_1 := (HB.out.cell (World.block_lt_of_cell? w _ hx456_1)).trans hx456_1; replace hx456_2 := (HB.out.cell (World.block_lt_of_cell? w _ hx456_2)).trans hx456_2; have HR456_1 := Aside0.mk hi456_1; have HC456_1 := Aside0.mk hl456_1; clear hi456_1 hl456_1; have HR456_2 := Aside0.mk hi456_2; have HC456_2 := Aside0.mk hl456_2; clear hi456_2 hl456_2; replace p456 := eq_true p456; replace q456 := eq_true q456; have p457 : 0 ≤ (x31_2 : Int) := of_decide_eq_true (by first | (with_reducible assumption) | assumption); have q457 : x31_2 < (l1_2.length : Int) := of_decide_eq_true (by first | (with_reducible assumption) | assumption); obtain ⟨ad457, A457_1, c457_1, A457_2, c457_2, e457, hx457_0, hx457_1, hx457_2, hl457_1, hi457_1, hl457_2, hi457_2⟩ := at_T48 HR1_2.out x31_2 p457 q457; have hw457_2 := hx457_2; have hw457_1 := hx457_1; have hw457_0 := hx457_0
           cases e457
           replace hx457_0 := (HB.out.cell (World.block_lt_of_cell? w _ hx457_0)).trans hx457_0; replace hx457_1 := (HB.out.cell (World.block_lt_of_cell? w _ hx457_1)).trans hx457_1; replace hx457_2 := (HB.out.cell (World.block_lt_of_cell? w _ hx457_2)).trans hx457_2; have HR457_1 := Aside0.mk hi457_1; have HC457_1 := Aside0.mk hl457_1; clear hi457_1 hl457_1; have HR457_2 := Aside0.mk hi457_2; have HC457_2 := Aside0.mk hl457_2; clear hi457_2 hl457_2; replace p457 := eq_true p457; replace q457 := eq_true q457; refine start_ (n := 12) (S := fun w' => w'.cell? ⟨gb453, 0, none⟩ = some (.int .i64 a0_0) ∧ w'.cell? ⟨gb453, 1, none⟩ = some (.slice A0_1 l0_1.length c0_1) ∧ w'.cell? ⟨gb453, 2, none⟩ = some (.slice (some ad456) l0_2.length c0_2) ∧ w'.cell? ⟨gb454, 0, none⟩ = some (.int .i64 a1_0) ∧ w'.cell? ⟨gb454, 1, none⟩ = some (.slice A1_1 l1_1.length c1_1) ∧ w'.cell? ⟨gb454, 2, none⟩ = some (.slice (some ad457) l1_2.length c1_2) ∧ w'.cell? (ad456.add ((x31_2).toNat * 3)) = some (.int .i64 ((rd_T48 l0_2 x31_2).f0)) ∧ w'.cell? ⟨(ad456.add ((x31_2).toNat * 3)).block, (ad456.add ((x31_2).toNat * 3)).off + 1, none⟩ = some (.slice A456_1 ((rd_T48 l0_2 x31_2).f1).length c456_1) ∧ w'.cell? ⟨(ad456.add ((x31_2).toNat * 3)).block, (ad456.add ((x31_2).toNat * 3)).off + 2, none⟩ = some (.slice A456_2 ((rd_T48 l0_2 x31_2).f2).length c456_2) ∧ w'.cell? (ad457.add ((x31_2).toNat * 3)) = some (.int .i64 ((rd_T48 l1_2 x31_2).f0)) ∧ w'.cell? ⟨(ad457.add ((x31_2).toNat * 3)).block, (ad457.add ((x31_2).toNat * 3)).off + 1, none⟩ = some (.slice A457_1 ((rd_T48 l1_2 x31_2).f1).length c457_1) ∧ w'.cell? ⟨(ad457.add ((x31_2).toNat * 3)).block, (ad457.add ((x31_2).toNat * 3)).off + 2, none⟩ = some (.slice A457_2 ((rd_T48 l1_2 x31_2).f2).length c457_2)) (ds := []) #[false, false, false, false, false, false, false, false, false, false, false, false] (by kernel_rfl) rfl rfl ⟨(blk_cell BK453.out 0).trans rfl, (blk_cell BK453.out 1).trans rfl, (blk_cell BK453.out 2).trans rfl, (blk_cell BK454.out 0).trans rfl, (blk_cell BK454.out 1).trans rfl, (blk_cell BK454.out 2).trans rfl, ((HB.out.cell (World.block_lt_of_cell? w _ hw456_0)).trans hw456_0), ((HB.out.cell (World.block_lt_of_cell? w _ hw456_1)).trans hw456_1), ((HB.out.cell (World.block_lt_of_cell? w _ hw456_2)).trans hw456_2), ((HB.out.cell (World.block_lt_of_cell? w _ hw457_0)).trans hw457_0), ((HB.out.cell (World.block_lt_of_cell? w _ hw457_1)).trans hw457_1), ((HB.out.cell (World.block_lt_of_cell? w _ hw457_2)).trans hw457_2)⟩ (fun hHeld => ?_); refine with_tabW trustquorumref02_Same.tab6 trustquorumref02_Same.bits6 (fun HT_ HW_ => ?_)
           generalize wr.drew = w27 at BK453 BK454 HB HR456_1 HR456_2 HR457_1 HR457_2 hx456_0 hx456_1 hx456_2 hx457_0 hx457_1 hx457_2 hHeld ⊢; refine pure_ (i := 0) (N := some 34) (v := ?_) (a' := ?_) #[true, false, false, false, false, false, false, false, false, false, false, false] rfl rfl (any_of HT_.out (by kernel_rfl)) (fun _ _ _ h => h) (Or.inl ⟨by rfl, ?_⟩) ?_ ?_; rotate_left
           ·
            intro w'; go_simp
            with_reducible rfl
           rotate_left
           ·
            simp only [Act.put, List.setIfInBounds_toArray, List.set_cons_zero, List.set_cons_succ, i64_w, i32_w]; rfl
           refine pure_ (i := 2) (N := some 36) (v := ?_) (a' := ?_) #[true, false, true, false, false, false, false, false, false, false, false, false] rfl rfl (any_of HT_.out (by kernel_rfl)) (fun _ _ _ h => h) (Or.inl ⟨by rfl, ?_⟩) ?_ ?_; rotate_left
           ·
            intro w'; go_simp
            with_reducible rfl
           rotate_left
           ·
            simp only [Act.put, List.setIfInBounds_toArray, List.set_cons_zero, List.set_cons_succ, i64_w, i32_w]; rfl
           refine pure_ (i := 5) (N := some 39) (v := ?_) (a' := ?_) #[true, false, true, false, false, true, false, false, false, false, false, false] rfl rfl (any_of HT_.out (by kernel_rfl)) (fun _ _ _ h => h) (Or.inl ⟨by rfl, ?_⟩) ?_ ?_; rotate_left
           ·
            intro w'; go_simp
            with_reducible rfl
           rotate_left
           ·
            simp only [Act.put, List.setIfInBounds_toArray, List.set_cons_zero, List.set_cons_succ, i64_w, i32_w]; rfl
           refine pure_ (i := 7) (N := some 41) (v := ?_) (a' := ?_) #[true, false, true, false, false, true, false, true, false, false, false, false] rfl rfl (any_of HT_.out (by kernel_rfl)) (fun _ _ _ h => h) (Or.inl ⟨by rfl, ?_⟩) ?_ ?_; rotate_left
           ·
            intro w'; go_simp
            with_reducible rfl
           rotate_left
           ·
            simp only [Act.put, List.setIfInBounds_toArray, List.set_cons_zero, List.set_cons_succ, i64_w, i32_w]; rfl
           refine take_ (i := 1) (N := some 35) (v := ?_) (a' := ?_) #[true, true, true, false, false, true, false, true, false, false, false, false] rfl rfl (take_ofW HT_.out HW_.out (by kernel_rfl)) (fun _ _ _ h => h) (Or.inl ⟨by rfl, ?_⟩) hHeld ?_ ?_; rotate_left
           ·
            rintro w' ⟨s0, s1, s2, s3, s4, s5, s6, s7, s8, s9, s10, s11⟩; go_simp
            with_reducible rfl
           rotate_left
           ·
            simp only [Act.put, List.setIfInBounds_toArray, List.set_cons_zero, List.set_cons_succ, i64_w, i32_w]; rfl
           refine pure_ (i := 3) (N := some 37) (v := ?_) (a' := ?_) #[true, true, true, true, false, true, false, true, false, false, false, false] rfl rfl (any_of HT_.out (by kernel_rfl)) (fun _ _ _ h => h) (Or.inl ⟨by rfl, ?_⟩) ?_ ?_; rotate_left
           ·
            intro w'; go_simp
            with_reducible rfl
           rotate_left
           ·
            simp only [Act.put, List.setIfInBounds_toArray, List.set_cons_zero, List.set_cons_succ, i64_w, i32_w]; rfl
           refine take_ (i := 4) (N := some 38) (v := ?_) (a' := ?_) #[true, true, true, true, true, true, false, true, false, false, false, false] rfl rfl (take_ofW HT_.out HW_.out (by kernel_rfl)) (fun _ _ _ h => h) (Or.inl ⟨by rfl, ?_⟩) hHeld ?_ ?_; rotate_left
           ·
            rintro w' ⟨s0, s1, s2, s3, s4, s5, s6, s7, s8, s9, s10, s11⟩; go_simp
            with_reducible rfl
           rotate_left
           ·
            simp only [Act.put, List.setIfInBounds_toArray, List.set_cons_zero, List.set_cons_succ, i64_w, i32_w]; rfl
           refine take_ (i := 6) (N := some 40) (v := ?_) (a' := ?_) #[true, true, true, true, true, true, true, true, false, false, false, false] rfl rfl (take_ofW HT_.out HW_.out (by kernel_rfl)) (fun _ _ _ h => h) (Or.inl ⟨by rfl, ?_⟩) hHeld ?_ ?_; rotate_left
           ·
            rintro w' ⟨s0, s1, s2, s3, s4, s5, s6, s7, s8, s9, s10, s11⟩; go_simp
            with_reducible rfl
           rotate_left
           ·
            simp only [Act.put, List.setIfInBounds_toArray, List.set_cons_zero, List.set_cons_succ, i64_w, i32_w]; rfl
           refine pure_ (i := 8) (N := some 42) (v := ?_) (a' := ?_) #[true, true, true, true, true, true, true, true, true, false, false, false] rfl rfl (any_of HT_.out (by kernel_rfl)) (fun _ _ _ h => h) (Or.inl ⟨by rfl, ?_⟩) ?_ ?_; rotate_left
           ·
            intro w'; go_simp
            with_reducible rfl
           rotate_left
           ·
            simp only [Act.put, List.setIfInBounds_toArray, List.set_cons_zero, List.set_cons_succ, i64_w, i32_w]; rfl
           refine take_ (i := 9) (N := some 43) (v := ?_) (a' := ?_) #[true, true, true, true, true, true, true, true, true, true, false, false] rfl rfl (take_ofW HT_.out HW_.out (by kernel_rfl)) (fun _ _ _ h => h) (Or.inl ⟨by rfl, ?_⟩) hHeld ?_ ?_; rotate_left
           ·
            rintro w' ⟨s0, s1, s2, s3, s4, s5, s6, s7, s8, s9, s10, s11⟩; go_simp
            with_reducible rfl
           rotate_left
           ·
            simp only [Act.put, List.setIfInBounds_toArray, List.set_cons_zero, List.set_cons_succ, i64_w, i32_w]; rfl
           refine one_ (i := 10) (N := some 44) #[true, true, true, true, true, true, true, true, true, true, true, false] rfl rfl (one_of HT_.out (by kernel_rfl)) (by decide) (fun K hK => ?_); refine goes_ Try.func25 (by kernel_rfl) rfl #[.agg #[.int .i64 ((rd_T48 l0_2 x31_2).f0), .slice A456_1 ((rd_T48 l0_2 x31_2).f1).length c456_1, .slice A456_2 ((rd_T48 l0_2 x31_2).f2).length c456_2], .agg #[.int .i64 ((rd_T48 l1_2 x31_2).f0), .slice A457_1 ((rd_T48 l1_2 x31_2).f1).length c457_1, .slice A457_2 ((rd_T48 l1_2 x31_2).f2).length c457_2]] (by rfl) rfl rfl (by (try simp only [List.map_toArray, List.map_cons, List.map_nil]); first | done | rfl | (simp only [List.length_drop, List.length_take]; rfl)) ?_
           with_reducible refine (ih k2 (by have := HJ2.out; have := HK2.out; omega) ((rd_T48 l0_2 x31_2).f0) _ _ ((rd_T48 l0_2 x31_2).f1) _ _ ((rd_T48 l0_2 x31_2).f2) ((rd_T48 l1_2 x31_2).f0) _ _ ((rd_T48 l1_2 x31_2).f1) _ _ ((rd_T48 l1_2 x31_2).f2) true _ ?side1 ?side2 ?side3 ?side4 ?side5 ?side6 ?side7 ?side8 A25.out).mono ?_
           (case side1 => exact (Kd.C_below HR456_1.out HB.out))
           (case side2 => exact HC456_1.out)
           (case side3 => exact (Kd.C_below HR456_2.out HB.out))
           (case side4 => exact HC456_2.out)
           (case side5 => exact (Kd.C_below HR457_1.out HB.out))
           (case side6 => exact HC457_1.out)
           (case side7 => exact (Kd.C_below HR457_2.out HB.out))
           (case side8 => exact HC457_2.out)
           rintro e w28 ⟨rfl, hb⟩; refine ⟨_, rfl, ?_⟩; replace BK453 := Aside0.mk (blk_below BK453.out hb); replace BK454 := Aside0.mk (blk_below BK454.out hb); replace HB := Aside0.mk (below_step HB.out hb); (try clear hb); (try clear hb2); (try clear hk); (try clear hi); refine hK.out _ _ ⟨(blk_cell BK453.out 0).trans rfl, (blk_cell BK453.out 1).trans rfl, (blk_cell BK453.out 2).trans rfl, (blk_cell BK454.out 0).trans rfl, (blk_cell BK454.out 1).trans rfl, (blk_cell BK454.out 2).trans rfl, ((HB.out.cell (World.block_lt_of_cell? w _ hw456_0)).trans hw456_0), ((HB.out.cell (World.block_lt_of_cell? w _ hw456_1)).trans hw456_1), ((HB.out.cell (World.block_lt_of_cell? w _ hw456_2)).trans hw456_2), ((HB.out.cell (World.block_lt_of_cell? w _ hw457_0)).trans hw457_0), ((HB.out.cell (World.block_lt_of_cell? w _ hw457_1)).trans hw457_1), ((HB.out.cell (World.block_lt_of_cell? w _ hw457_2)).trans hw457_2)⟩ (fun hHeld => ?_); clear hK K; refine norm_ (a' := ?_) ?_ ?_; rotate_left
           ·
            show Act.put _ (some 44) _ = _
            simp only [Act.put, List.setIfInBounds_toArray, List.set_cons_zero, List.set_cons_succ, i64_w, i32_w]; rfl
           refine pure_ (i := 11) (N := some 45) (v := ?_) (a' := ?_) #[true, true, true, true, true, true, true, true, true, true, true, true] rfl rfl (any_of HT_.out (by kernel_rfl)) (fun _ _ _ h => h) (Or.inl ⟨by rfl, ?_⟩) ?_ ?_; rotate_left
           ·
            intro w'; go_simp
            with_reducible rfl
           rotate_left
           ·
            simp only [Act.put, List.setIfInBounds_toArray, List.set_cons_zero, List.set_cons_succ, i64_w, i32_w]; rfl
           refine done_ (done_of HT_.out (by kernel_rfl)) ?_
           try go_wp2
           go_roundg k2
           case measure => have := HJ2.out; have := HK2.out; omega
           case rel => exact ⟨(wrap64 (x31_2 + 1)), (by first | rfl | (simp; done) | (simp [*]; done) | (refine congrArg (Value.int .i64) ?_; unfold wrap64; omega)), H', ⟨by have := HJ2.out; have := HK2.out; omega⟩, ⟨by exact BK453.out⟩, ⟨by exact BK454.out⟩, ⟨by exact HB.out⟩⟩
          ·
           replace c26 := Bool.eq_false_iff.mpr c26; subst c26; have H1 : (some false) = some r := by rw [if_neg (show ¬ (false = true) by decide)] at H; exact H
           clear H; have H := H1; clear H1; obtain rfl := Option.some.inj H
           try go_wp2
           replace BK453 := Aside0.mk (blk_drew BK453.out); replace BK454 := Aside0.mk (blk_drew BK454.out); replace HB := Aside0.mk (below_drew1 HB.out); have p456 : 0 ≤ (x31_2 : Int) := of_decide_eq_true (by first | (with_reducible assumption) | assumption); have q456 : x31_2 < (l0_2.length : Int) := of_decide_eq_true (by first | (with_reducible assumption) | assumption); obtain ⟨ad456, A456_1, c456_1, A456_2, c456_2, e456, hx456_0, hx456_1, hx456_2, hl456_1, hi456_1, hl456_2, hi456_2⟩ := at_T48 HR0_2.out x31_2 p456 q456; have hw456_2 := hx456_2; have hw456_1 := hx456_1; have hw456_0 := hx456_0
           cases e456
           replace hx456_0 := (HB.out.cell (World.block_lt_of_cell? w _ hx456_0)).trans hx456_0; replace hx456_1 := (HB.out.cell (World.block_lt_of_cell? w _ hx456_1)).trans hx456_1; replace hx456_2 := (HB.out.cell (World.block_lt_of_cell? w _ hx456_2)).trans hx456_2; have HR456_1 := Aside0.mk hi456_1; have HC456_1 := Aside0.mk hl456_1; clear hi456_1 hl456_1; have HR456_2 := Aside0.mk hi456_2; have HC456_2 := Aside0.mk hl456_2; clear hi456_2 hl456_2; replace p456 := eq_true p456; replace q456 := eq_true q456; have p457 : 0 ≤ (x31_2 : Int) := of_decide_eq_true (by first | (with_reducible assumption) | assumption); have q457 : x31_2 < (l1_2.length : Int) := of_decide_eq_true (by first | (with_reducible assumption) | assumption); obtain ⟨ad457, A457_1, c457_1, A457_2, c457_2, e457, hx457_0, hx457_1, hx457_2, hl457_1, hi457_1, hl457_2, hi457_2⟩ := at_T48 HR1_2.out x31_2 p457 q457; have hw457_2 := hx457_2; have hw457_1 := hx457_1; have hw457_0 := hx457_0
           cases e457
           replace hx457_0 := (HB.out.cell (World.block_lt_of_cell? w _ hx457_0)).trans hx457_0; replace hx457_1 := (HB.out.cell (World.block_lt_of_cell? w _ hx457_1)).trans hx457_1; replace hx457_2 := (HB.out.cell (World.block_lt_of_cell? w _ hx457_2)).trans hx457_2; have HR457_1 := Aside0.mk hi457_1; have HC457_1 := Aside0.mk hl457_1; clear hi457_1 hl457_1; have HR457_2 := Aside0.mk hi457_2; have HC457_2 := Aside0.mk hl457_2; clear hi457_2 hl457_2; replace p457 := eq_true p457; replace q457 := eq_true q457; refine start_ (n := 12) (S := fun w' => w'.cell? ⟨gb453, 0, none⟩ = some (.int .i64 a0_0) ∧ w'.cell? ⟨gb453, 1, none⟩ = some (.slice A0_1 l0_1.length c0_1) ∧ w'.cell? ⟨gb453, 2, none⟩ = some (.slice (some ad456) l0_2.length c0_2) ∧ w'.cell? ⟨gb454, 0, none⟩ = some (.int .i64 a1_0) ∧ w'.cell? ⟨gb454, 1, none⟩ = some (.slice A1_1 l1_1.length c1_1) ∧ w'.cell? ⟨gb454, 2, none⟩ = some (.slice (some ad457) l1_2.length c1_2) ∧ w'.cell? (ad456.add ((x31_2).toNat * 3)) = some (.int .i64 ((rd_T48 l0_2 x31_2).f0)) ∧ w'.cell? ⟨(ad456.add ((x31_2).toNat * 3)).block, (ad456.add ((x31_2).toNat * 3)).off + 1, none⟩ = some (.slice A456_1 ((rd_T48 l0_2 x31_2).f1).length c456_1) ∧ w'.cell? ⟨(ad456.add ((x31_2).toNat * 3)).block, (ad456.add ((x31_2).toNat * 3)).off + 2, none⟩ = some (.slice A456_2 ((rd_T48 l0_2 x31_2).f2).length c456_2) ∧ w'.cell? (ad457.add ((x31_2).toNat * 3)) = some (.int .i64 ((rd_T48 l1_2 x31_2).f0)) ∧ w'.cell? ⟨(ad457.add ((x31_2).toNat * 3)).block, (ad457.add ((x31_2).toNat * 3)).off + 1, none⟩ = some (.slice A457_1 ((rd_T48 l1_2 x31_2).f1).length c457_1) ∧ w'.cell? ⟨(ad457.add ((x31_2).toNat * 3)).block, (ad457.add ((x31_2).toNat * 3)).off + 2, none⟩ = some (.slice A457_2 ((rd_T48 l1_2 x31_2).f2).length c457_2)) (ds := []) #[false, false, false, false, false, false, false, false, false, false, false, false] (by kernel_rfl) rfl rfl ⟨(blk_cell BK453.out 0).trans rfl, (blk_cell BK453.out 1).trans rfl, (blk_cell BK453.out 2).trans rfl, (blk_cell BK454.out 0).trans rfl, (blk_cell BK454.out 1).trans rfl, (blk_cell BK454.out 2).trans rfl, ((HB.out.cell (World.block_lt_of_cell? w _ hw456_0)).trans hw456_0), ((HB.out.cell (World.block_lt_of_cell? w _ hw456_1)).trans hw456_1), ((HB.out.cell (World.block_lt_of_cell? w _ hw456_2)).trans hw456_2), ((HB.out.cell (World.block_lt_of_cell? w _ hw457_0)).trans hw457_0), ((HB.out.cell (World.block_lt_of_cell? w _ hw457_1)).trans hw457_1), ((HB.out.cell (World.block_lt_of_cell? w _ hw457_2)).trans hw457_2)⟩ (fun hHeld => ?_); refine with_tabW trustquorumref02_Same.tab6 trustquorumref02_Same.bits6 (fun HT_ HW_ => ?_)
           generalize wr.drew = w29 at BK453 BK454 HB HR456_1 HR456_2 HR457_1 HR457_2 hx456_0 hx456_1 hx456_2 hx457_0 hx457_1 hx457_2 hHeld ⊢; refine pure_ (i := 0) (N := some 34) (v := ?_) (a' := ?_) #[true, false, false, false, false, false, false, false, false, false, false, false] rfl rfl (any_of HT_.out (by kernel_rfl)) (fun _ _ _ h => h) (Or.inl ⟨by rfl, ?_⟩) ?_ ?_; rotate_left
           ·
            intro w'; go_simp
            with_reducible rfl
           rotate_left
           ·
            simp only [Act.put, List.setIfInBounds_toArray, List.set_cons_zero, List.set_cons_succ, i64_w, i32_w]; rfl
           refine pure_ (i := 2) (N := some 36) (v := ?_) (a' := ?_) #[true, false, true, false, false, false, false, false, false, false, false, false] rfl rfl (any_of HT_.out (by kernel_rfl)) (fun _ _ _ h => h) (Or.inl ⟨by rfl, ?_⟩) ?_ ?_; rotate_left
           ·
            intro w'; go_simp
            with_reducible rfl
           rotate_left
           ·
            simp only [Act.put, List.setIfInBounds_toArray, List.set_cons_zero, List.set_cons_succ, i64_w, i32_w]; rfl
           refine pure_ (i := 5) (N := some 39) (v := ?_) (a' := ?_) #[true, false, true, false, false, true, false, false, false, false, false, false] rfl rfl (any_of HT_.out (by kernel_rfl)) (fun _ _ _ h => h) (Or.inl ⟨by rfl, ?_⟩) ?_ ?_; rotate_left
           ·
            intro w'; go_simp
            with_reducible rfl
           rotate_left
           ·
            simp only [Act.put, List.setIfInBounds_toArray, List.set_cons_zero, List.set_cons_succ, i64_w, i32_w]; rfl
           refine pure_ (i := 7) (N := some 41) (v := ?_) (a' := ?_) #[true, false, true, false, false, true, false, true, false, false, false, false] rfl rfl (any_of HT_.out (by kernel_rfl)) (fun _ _ _ h => h) (Or.inl ⟨by rfl, ?_⟩) ?_ ?_; rotate_left
           ·
            intro w'; go_simp
            with_reducible rfl
           rotate_left
           ·
            simp only [Act.put, List.setIfInBounds_toArray, List.set_cons_zero, List.set_cons_succ, i64_w, i32_w]; rfl
           refine take_ (i := 1) (N := some 35) (v := ?_) (a' := ?_) #[true, true, true, false, false, true, false, true, false, false, false, false] rfl rfl (take_ofW HT_.out HW_.out (by kernel_rfl)) (fun _ _ _ h => h) (Or.inl ⟨by rfl, ?_⟩) hHeld ?_ ?_; rotate_left
           ·
            rintro w' ⟨s0, s1, s2, s3, s4, s5, s6, s7, s8, s9, s10, s11⟩; go_simp
            with_reducible rfl
           rotate_left
           ·
            simp only [Act.put, List.setIfInBounds_toArray, List.set_cons_zero, List.set_cons_succ, i64_w, i32_w]; rfl
           refine pure_ (i := 3) (N := some 37) (v := ?_) (a' := ?_) #[true, true, true, true, false, true, false, true, false, false, false, false] rfl rfl (any_of HT_.out (by kernel_rfl)) (fun _ _ _ h => h) (Or.inl ⟨by rfl, ?_⟩) ?_ ?_; rotate_left
           ·
            intro w'; go_simp
            with_reducible rfl
           rotate_left
           ·
            simp only [Act.put, List.setIfInBounds_toArray, List.set_cons_zero, List.set_cons_succ, i64_w, i32_w]; rfl
           refine take_ (i := 4) (N := some 38) (v := ?_) (a' := ?_) #[true, true, true, true, true, true, false, true, false, false, false, false] rfl rfl (take_ofW HT_.out HW_.out (by kernel_rfl)) (fun _ _ _ h => h) (Or.inl ⟨by rfl, ?_⟩) hHeld ?_ ?_; rotate_left
           ·
            rintro w' ⟨s0, s1, s2, s3, s4, s5, s6, s7, s8, s9, s10, s11⟩; go_simp
            with_reducible rfl
           rotate_left
           ·
            simp only [Act.put, List.setIfInBounds_toArray, List.set_cons_zero, List.set_cons_succ, i64_w, i32_w]; rfl
           refine take_ (i := 6) (N := some 40) (v := ?_) (a' := ?_) #[true, true, true, true, true, true, true, true, false, false, false, false] rfl rfl (take_ofW HT_.out HW_.out (by kernel_rfl)) (fun _ _ _ h => h) (Or.inl ⟨by rfl, ?_⟩) hHeld ?_ ?_; rotate_left
           ·
            rintro w' ⟨s0, s1, s2, s3, s4, s5, s6, s7, s8, s9, s10, s11⟩; go_simp
            with_reducible rfl
           rotate_left
           ·
            simp only [Act.put, List.setIfInBounds_toArray, List.set_cons_zero, List.set_cons_succ, i64_w, i32_w]; rfl
           refine pure_ (i := 8) (N := some 42) (v := ?_) (a' := ?_) #[true, true, true, true, true, true, true, true, true, false, false, false] rfl rfl (any_of HT_.out (by kernel_rfl)) (fun _ _ _ h => h) (Or.inl ⟨by rfl, ?_⟩) ?_ ?_; rotate_left
           ·
            intro w'; go_simp
            with_reducible rfl
           rotate_left
           ·
            simp only [Act.put, List.setIfInBounds_toArray, List.set_cons_zero, List.set_cons_succ, i64_w, i32_w]; rfl
           refine take_ (i := 9) (N := some 43) (v := ?_) (a' := ?_) #[true, true, true, true, true, true, true, true, true, true, false, false] rfl rfl (take_ofW HT_.out HW_.out (by kernel_rfl)) (fun _ _ _ h => h) (Or.inl ⟨by rfl, ?_⟩) hHeld ?_ ?_; rotate_left
           ·
            rintro w' ⟨s0, s1, s2, s3, s4, s5, s6, s7, s8, s9, s10, s11⟩; go_simp
            with_reducible rfl
           rotate_left
           ·
            simp only [Act.put, List.setIfInBounds_toArray, List.set_cons_zero, List.set_cons_succ, i64_w, i32_w]; rfl
           refine one_ (i := 10) (N := some 44) #[true, true, true, true, true, true, true, true, true, true, true, false] rfl rfl (one_of HT_.out (by kernel_rfl)) (by decide) (fun K hK => ?_); refine goes_ Try.func25 (by kernel_rfl) rfl #[.agg #[.int .i64 ((rd_T48 l0_2 x31_2).f0), .slice A456_1 ((rd_T48 l0_2 x31_2).f1).length c456_1, .slice A456_2 ((rd_T48 l0_2 x31_2).f2).length c456_2], .agg #[.int .i64 ((rd_T48 l1_2 x31_2).f0), .slice A457_1 ((rd_T48 l1_2 x31_2).f1).length c457_1, .slice A457_2 ((rd_T48 l1_2 x31_2).f2).length c457_2]] (by rfl) rfl rfl (by (try simp only [List.map_toArray, List.map_cons, List.map_nil]); first | done | rfl | (simp only [List.length_drop, List.length_take]; rfl)) ?_
           with_reducible refine (ih k2 (by have := HJ2.out; have := HK2.out; omega) ((rd_T48 l0_2 x31_2).f0) _ _ ((rd_T48 l0_2 x31_2).f1) _ _ ((rd_T48 l0_2 x31_2).f2) ((rd_T48 l1_2 x31_2).f0) _ _ ((rd_T48 l1_2 x31_2).f1) _ _ ((rd_T48 l1_2 x31_2).f2) false _ ?side1 ?side2 ?side3 ?side4 ?side5 ?side6 ?side7 ?side8 A25.out).mono ?_
           (case side1 => exact (Kd.C_below HR456_1.out HB.out))
           (case side2 => exact HC456_1.out)
           (case side3 => exact (Kd.C_below HR456_2.out HB.out))
           (case side4 => exact HC456_2.out)
           (case side5 => exact (Kd.C_below HR457_1.out HB.out))
           (case side6 => exact HC457_1.out)
           (case side7 => exact (Kd.C_below HR457_2.out HB.out))
           (case side8 => exact HC457_2.out)
           rintro e w30 ⟨rfl, hb⟩; refine ⟨_, rfl, ?_⟩; replace BK453 := Aside0.mk (blk_below BK453.out hb); replace BK454 := Aside0.mk (blk_below BK454.out hb); replace HB := Aside0.mk (below_step HB.out hb); (try clear hb); (try clear hb2); (try clear hk); (try clear hi); refine hK.out _ _ ⟨(blk_cell BK453.out 0).trans rfl, (blk_cell BK453.out 1).trans rfl, (blk_cell BK453.out 2).trans rfl, (blk_cell BK454.out 0).trans rfl, (blk_cell BK454.out 1).trans rfl, (blk_cell BK454.out 2).trans rfl, ((HB.out.cell (World.block_lt_of_cell? w _ hw456_0)).trans hw456_0), ((HB.out.cell (World.block_lt_of_cell? w _ hw456_1)).trans hw456_1), ((HB.out.cell (World.block_lt_of_cell? w _ hw456_2)).trans hw456_2), ((HB.out.cell (World.block_lt_of_cell? w _ hw457_0)).trans hw457_0), ((HB.out.cell (World.block_lt_of_cell? w _ hw457_1)).trans hw457_1), ((HB.out.cell (World.block_lt_of_cell? w _ hw457_2)).trans hw457_2)⟩ (fun hHeld => ?_); clear hK K; refine norm_ (a' := ?_) ?_ ?_; rotate_left
           ·
            show Act.put _ (some 44) _ = _
            simp only [Act.put, List.setIfInBounds_toArray, List.set_cons_zero, List.set_cons_succ, i64_w, i32_w]; rfl
           refine pure_ (i := 11) (N := some 45) (v := ?_) (a' := ?_) #[true, true, true, true, true, true, true, true, true, true, true, true] rfl rfl (any_of HT_.out (by kernel_rfl)) (fun _ _ _ h => h) (Or.inl ⟨by rfl, ?_⟩) ?_ ?_; rotate_left
           ·
            intro w'; go_simp
            with_reducible rfl
           rotate_left
           ·
            simp only [Act.put, List.setIfInBounds_toArray, List.set_cons_zero, List.set_cons_succ, i64_w, i32_w]; rfl
           refine done_ (done_of HT_.out (by kernel_rfl)) ?_
           try go_wp2
           go_ret
           exact ⟨by first | rfl | (simp [errW_none, errW_some] <;> rfl) | (simp [*, errW_none, errW_some] <;> rfl), by exact HB.out⟩
         ·
          rw [if_neg c24] at H; exact absurd H (by simp)
        ·
         rw [if_neg c23] at H; exact absurd H (by simp)
       ·
        rw [if_neg c22] at H; exact absurd H (by simp)
      ·
       rw [if_neg c21] at H; have c21b0 : decide (x31_2 < (l0_2.length : Int)) = false := decide_eq_false c21; clear c21; obtain rfl := Option.some.inj H
       go_wp2
       go_ret
       exact ⟨by first | rfl | (simp [errW_none, errW_some] <;> rfl) | (simp [*, errW_none, errW_some] <;> rfl), by exact HB.out⟩
end Go.Proofs.Ytmeamdklonmahaa.QFederatedView
