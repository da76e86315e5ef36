/- Lean functions that answer as the Go functions do which the law reaches, and proofs that the Go code comes to exactly these answers. Conditions: those that each theorem names. -/
import Derived.Test.YtmeamdklonmahaaQFederatedSafex0
import Derived.Test.YtmeamdklonmahaaQFederatedSafex2
import Derived.Test.YtmeamdklonmahaaQFederatedSafex7
import Derived.Test.YtmeamdklonmahaaQFederatedSafex10
import Derived.Test.YtmeamdklonmahaaQFederatedSafex11
namespace Go.Proofs.Ytmeamdklonmahaa.QFederatedSafe
open Go.RowKit Go.Proofs.YtmeamdklonmahaaW.PrintWords Go.Proofs.YtmeamdklonmahaaW.PrintLast Go.Proofs.YtmeamdklonmahaaW.PrintMore
attribute [local go_sem] max2_int min2_int max_two min_two max_three min_three max_four min_four   -- for this text's walks alone
set_option linter.unusedVariables false
set_option linter.unusedSimpArgs false

/-! ### trustquorumref01_Size: function 109 -/
def trustquorumref01_Size.l0 : Nat → Int → Int → Int → Option (Int)
  | 0, _, _, _ => none
  | k + 1, x0, x3, x4 => if x4 < 10 then ((trustquorumref01_Valid.f x0).bind fun t431 => (if t431 = true then (if 0 ≤ x4 then (trustquorumref01_Size.l0 k x0 (wrap64 (x3 + (Go.bits .and .i64 (shr .i64 x0 x4) 1))) (wrap64 (x4 + 1))) else (none)) else (some x3))) else (some x3)
def trustquorumref01_Size.f (k : Nat) (a0 : Int) : Option (Int) := trustquorumref01_Size.l0 k a0 0 0
theorem trustquorumref01_Size.mono_l : ∀ k, (∀ y0 y1 y2, LeO (trustquorumref01_Size.l0 k y0 y1 y2) (trustquorumref01_Size.l0 (k + 1) y0 y1 y2))
  | 0 => fun _ _ _ r h => by simp [trustquorumref01_Size.l0] at h
  | k + 1 => by
    have ih0 := trustquorumref01_Size.mono_l k
    · intro y0 y1 y2
      unfold trustquorumref01_Size.l0
      repeat' first
      | (with_reducible exact ih0 _ _ _)
      | (with_reducible exact LeO.refl _)
      | (with_reducible exact LeO.none _)
      | (with_reducible refine LeO.ite ?_ ?_)
      | (with_reducible refine LeO.bind ?_ (fun _ => ?_))
      | exact ih0 _ _ _
      | exact LeO.none _
      | refine LeO.ite ?_ ?_
      | refine LeO.bind ?_ (fun _ => ?_)
theorem trustquorumref01_Size.mono : ∀ a0 k, LeO (trustquorumref01_Size.f k a0) (trustquorumref01_Size.f (k + 1) a0) := by
  intro a0 k
  have ih0 := trustquorumref01_Size.mono_l k
  unfold trustquorumref01_Size.f
  repeat' first
      | (with_reducible exact ih0 _ _ _)
      | (with_reducible exact LeO.refl _)
      | (with_reducible exact LeO.none _)
      | (with_reducible refine LeO.ite ?_ ?_)
      | (with_reducible refine LeO.bind ?_ (fun _ => ?_))
      | exact ih0 _ _ _
      | exact LeO.none _
      | refine LeO.ite ?_ ?_
      | refine LeO.bind ?_ (fun _ => ?_)
set_option maxHeartbeats 8000000 in
set_option maxRecDepth 100000 in
theorem trustquorumref01_Size.calls (k : Nat) (a0 : Int) (r : Int) (w : World) (h : trustquorumref01_Size.f k a0 = some r) :
    Calls Try.prog 109 #[.int .i64 a0] w fun e w' => e = .returned (.int .i64 r) ∧ Drawn0 w w' := by
 have H : (trustquorumref01_Size.l0 k a0 0 0) = some r := h; clear h; have H' := am H; clear H
 go_enter Try.func109, Try.ntmps109
 go_wp2
 go_loopg [3, 4] k (fun kq v3 v4 w' => ∃ (x3_1 : Int) (x4_1 : Int), v3 = .int .i64 x3_1 ∧ v4 = .int .i64 x4_1 ∧ Aside0 (trustquorumref01_Size.l0 kq a0 x3_1 x4_1 = some r) ∧ Aside0 (kq ≤ k) ∧ Drawn0 w w')
 case atStart => exact ⟨(0), (0), ar, ar, H', ⟨Nat.le_refl _⟩, by repeat (first | exact Drawn0.refl _ | apply Drawn0.step)⟩
 case round =>
  clear H'; (try clear c1); obtain ⟨x3_1, x4_1, rfl, rfl, HA, HK1, ⟨m1, rfl⟩⟩ := hrel
  cases gk with
  | zero => exact absurd HA.out (by simp [trustquorumref01_Size.l0])
  | succ k1 =>
   have H := HA.out; clear HA; simp only [trustquorumref01_Size.l0] at H
   by_cases c2 : x4_1 < 10
   ·
    rw [if_pos c2] at H; have c2b0 : decide (x4_1 < 10) = true := decide_eq_true c2; clear c2; replace H := Option.bind_eq_some_iff.mp H; obtain ⟨t431, A30, H⟩ := H; replace H : (if t431 = true then (if 0 ≤ x4_1 then (trustquorumref01_Size.l0 k1 a0 (wrap64 (x3_1 + (Go.bits .and .i64 (shr .i64 a0 x4_1) 1))) (wrap64 (x4_1 + 1))) else (none)) else (some x3_1)) = some r := H; have A3 := am A30; clear A30
    by_cases c4 : t431 = true
    ·
     subst c4; have H1 : (if 0 ≤ x4_1 then (trustquorumref01_Size.l0 k1 a0 (wrap64 (x3_1 + (Go.bits .and .i64 (shr .i64 a0 x4_1) 1))) (wrap64 (x4_1 + 1))) else (none)) = some r := by rw [if_pos rfl] at H; exact H
     clear H; have H := H1; clear H1
     by_cases c5 : 0 ≤ x4_1
     ·
      rw [if_pos c5] at H; have c5b0 := eq_true c5; have c5b1 : decide (0 ≤ x4_1) = true := decide_eq_true c5; clear c5; obtain ⟨ji6, hji6⟩ : ∃ j_ : Int, (shr .i64 a0 x4_1) = j_ := ⟨_, rfl⟩; replace H : (trustquorumref01_Size.l0 k1 a0 (wrap64 (x3_1 + (Go.bits .and .i64 (ji6) 1))) (wrap64 (x4_1 + 1))) = some r := by first | (rw [hji6] at H; exact H) | (simp only [hji6] at H ⊢; exact H)
      (try rw [hji6] at A3); have hji6_ : (a0 / 2 ^ min x4_1.toNat 64) = ji6 := hji6; have hji6z : x4_1 ≤ 64 → (a0 / 2 ^ x4_1.toNat) = ji6 := shr_small hji6; have H' := am H; clear H
      go_wp2_with (first | (go_at_call 55; (with_reducible refine (trustquorumref01_Valid.calls a0 true _ A3.out).mono ?_); rintro e w' ⟨rfl, ⟨nd, rfl⟩⟩))
      go_roundg k1
      case measure => have := HK1.out; omega
      case rel => exact ⟨(wrap64 (x3_1 + (Go.bits .and .i64 (ji6) 1))), (wrap64 (x4_1 + 1)), (by first | rfl | (simp; done) | (simp only [← hji6] <;> (first | rfl | simp)) | (simp [*]; done)), ar, H', ⟨by have := HK1.out; omega⟩, by repeat (first | exact Drawn0.refl _ | apply Drawn0.step)⟩
     ·
      rw [if_neg c5] at H; exact absurd H (by simp)
    ·
     replace c4 := Bool.eq_false_iff.mpr c4; subst c4; have H1 : (some x3_1) = some r := by rw [if_neg (show ¬ (false = true) by decide)] at H; exact H
     clear H; have H := H1; clear H1; obtain rfl := Option.some.inj H
     go_wp2_with (first | (go_at_call 55; (with_reducible refine (trustquorumref01_Valid.calls a0 false _ A3.out).mono ?_); rintro e w' ⟨rfl, ⟨nd, rfl⟩⟩))
     go_ret
     exact ⟨by first | rfl | (simp; done) | (simp [*]; done) | (refine congrArg (Value.int .i64) ?_; unfold wrap64; omega), by repeat (first | exact Drawn0.refl _ | apply Drawn0.step)⟩
   ·
    rw [if_neg c2] at H; have c2b0 : decide (x4_1 < 10) = false := decide_eq_false c2; clear c2; obtain rfl := Option.some.inj H
    go_wp2
    go_ret
    exact ⟨by first | rfl | (simp; done) | (simp [*]; done) | (refine congrArg (Value.int .i64) ?_; unfold wrap64; omega), by repeat (first | exact Drawn0.refl _ | apply Drawn0.step)⟩
/-! ### trustquorumref01_Subsets: function 86 -/
mutual
def trustquorumref01_Subsets.l0 : Nat → Int → List Int → Int → Option (List Int)
  | 0, _, _, _ => none
  | k + 1, x0, x3, x4 => (trustquorumref01_Size.f k x0).bind fun t432 => (if x4 ≤ t432 then ((trustquorumref01_Valid.f x0).bind fun t433 => (trustquorumref01_Subsets.j1 k x0 x3 x4 t433)) else (trustquorumref01_Subsets.j1 k x0 x3 x4 false))
def trustquorumref01_Subsets.j1 : Nat → Int → List Int → Int → Bool → Option (List Int)
  | 0, _, _, _, _ => none
  | k + 1, x0, x3, x4, x13 => if x13 = true then (trustquorumref01_Subsets.l1 k x0 x3 x4 0) else (some x3)
def trustquorumref01_Subsets.l1 : Nat → Int → List Int → Int → Int → Option (List Int)
  | 0, _, _, _, _ => none
  | k + 1, x0, x3, x4, x5 => if x5 ≤ x0 then (if (Go.bits .and .i64 x5 x0) = x5 then ((trustquorumref01_Size.f k x5).bind fun t434 => (if t434 = x4 then (if x3.length < 17592186044416 then (trustquorumref01_Subsets.l1 k x0 (x3 ++ [x5]) x4 (wrap64 (x5 + 1))) else (none)) else (trustquorumref01_Subsets.l1 k x0 x3 x4 (wrap64 (x5 + 1))))) else (trustquorumref01_Subsets.l1 k x0 x3 x4 (wrap64 (x5 + 1)))) else (trustquorumref01_Subsets.l0 k x0 x3 (wrap64 (x4 + 1)))
end
def trustquorumref01_Subsets.f (k : Nat) (a0 : Int) : Option (List Int) := trustquorumref01_Subsets.l0 k a0 ([] : List Int) 0
theorem trustquorumref01_Subsets.mono_l : ∀ k, (∀ y0 y1 y2, LeO (trustquorumref01_Subsets.l0 k y0 y1 y2) (trustquorumref01_Subsets.l0 (k + 1) y0 y1 y2)) ∧ (∀ y0 y1 y2 y3, LeO (trustquorumref01_Subsets.j1 k y0 y1 y2 y3) (trustquorumref01_Subsets.j1 (k + 1) y0 y1 y2 y3)) ∧ (∀ y0 y1 y2 y3, LeO (trustquorumref01_Subsets.l1 k y0 y1 y2 y3) (trustquorumref01_Subsets.l1 (k + 1) y0 y1 y2 y3))
  | 0 => ⟨fun _ _ _ r h => by simp [trustquorumref01_Subsets.l0] at h, fun _ _ _ _ r h => by simp [trustquorumref01_Subsets.j1] at h, fun _ _ _ _ r h => by simp [trustquorumref01_Subsets.l1] at h⟩
  | k + 1 => by
    obtain ⟨ih0, ih1, ih2⟩ := trustquorumref01_Subsets.mono_l k
    refine ⟨?_, ?_, ?_⟩
    · intro y0 y1 y2
      unfold trustquorumref01_Subsets.l0
      repeat' first
      | (with_reducible exact ih0 _ _ _)
      | (with_reducible exact ih1 _ _ _ _)
      | (with_reducible exact ih2 _ _ _ _)
      | (with_reducible exact trustquorumref01_Size.mono _ _)
      | (with_reducible exact LeO.refl _)
      | (with_reducible exact LeO.none _)
      | (with_reducible refine LeO.ite ?_ ?_)
      | (with_reducible refine LeO.bind ?_ (fun _ => ?_))
      | exact ih0 _ _ _
      | exact ih1 _ _ _ _
      | exact ih2 _ _ _ _
      | exact trustquorumref01_Size.mono _ _
      | exact LeO.none _
      | refine LeO.ite ?_ ?_
      | refine LeO.bind ?_ (fun _ => ?_)
    · intro y0 y1 y2 y3
      unfold trustquorumref01_Subsets.j1
      repeat' first
      | (with_reducible exact ih0 _ _ _)
      | (with_reducible exact ih1 _ _ _ _)
      | (with_reducible exact ih2 _ _ _ _)
      | (with_reducible exact trustquorumref01_Size.mono _ _)
      | (with_reducible exact LeO.refl _)
      | (with_reducible exact LeO.none _)
      | (with_reducible refine LeO.ite ?_ ?_)
      | (with_reducible refine LeO.bind ?_ (fun _ => ?_))
      | exact ih0 _ _ _
      | exact ih1 _ _ _ _
      | exact ih2 _ _ _ _
      | exact trustquorumref01_Size.mono _ _
      | exact LeO.none _
      | refine LeO.ite ?_ ?_
      | refine LeO.bind ?_ (fun _ => ?_)
    · intro y0 y1 y2 y3
      unfold trustquorumref01_Subsets.l1
      repeat' first
      | (with_reducible exact ih0 _ _ _)
      | (with_reducible exact ih1 _ _ _ _)
      | (with_reducible exact ih2 _ _ _ _)
      | (with_reducible exact trustquorumref01_Size.mono _ _)
      | (with_reducible exact LeO.refl _)
      | (with_reducible exact LeO.none _)
      | (with_reducible refine LeO.ite ?_ ?_)
      | (with_reducible refine LeO.bind ?_ (fun _ => ?_))
      | exact ih0 _ _ _
      | exact ih1 _ _ _ _
      | exact ih2 _ _ _ _
      | exact trustquorumref01_Size.mono _ _
      | exact LeO.none _
      | refine LeO.ite ?_ ?_
      | refine LeO.bind ?_ (fun _ => ?_)
theorem trustquorumref01_Subsets.mono : ∀ a0 k, LeO (trustquorumref01_Subsets.f k a0) (trustquorumref01_Subsets.f (k + 1) a0) := by
  intro a0 k
  obtain ⟨ih0, ih1, ih2⟩ := trustquorumref01_Subsets.mono_l k
  unfold trustquorumref01_Subsets.f
  repeat' first
      | (with_reducible exact ih0 _ _ _)
      | (with_reducible exact ih1 _ _ _ _)
      | (with_reducible exact ih2 _ _ _ _)
      | (with_reducible exact trustquorumref01_Size.mono _ _)
      | (with_reducible exact LeO.refl _)
      | (with_reducible exact LeO.none _)
      | (with_reducible refine LeO.ite ?_ ?_)
      | (with_reducible refine LeO.bind ?_ (fun _ => ?_))
      | exact ih0 _ _ _
      | exact ih1 _ _ _ _
      | exact ih2 _ _ _ _
      | exact trustquorumref01_Size.mono _ _
      | exact LeO.none _
      | refine LeO.ite ?_ ?_
      | refine LeO.bind ?_ (fun _ => ?_)
set_option maxHeartbeats 8000000 in
set_option maxRecDepth 100000 in
theorem trustquorumref01_Subsets.calls (k : Nat) (a0 : Int) (r : List Int) (w : World) (h : trustquorumref01_Subsets.f k a0 = some r) :
    Calls Try.prog 86 #[.int .i64 a0] w fun e w' => ∃ v0_ : Value, e = .returned (v0_) ∧ Kd.R (Kd.int .i64) 3 w' w.heap.size (fun _ => True) v0_ r ∧ Below w.heap.size w w' := by
 have HB := am (Below.refl w.heap.size w); have H : (trustquorumref01_Subsets.l0 k a0 ([] : List Int) 0) = some r := h; clear h; have H' := am H; clear H
 go_enter Try.func86, Try.ntmps86
 go_wp2
 go_loopg [3, 4] k (fun kq v3 v4 w' => ∃ (x3_1 : List Int) (x4_1 : Int), v4 = .int .i64 x4_1 ∧ Aside0 (trustquorumref01_Subsets.l0 kq a0 x3_1 x4_1 = some r) ∧ Aside0 (kq ≤ k) ∧ Aside0 (Kd.R (Kd.int .i64) 3 w' w.heap.size (fun _ => True) v3 x3_1) ∧ Aside0 (Below w.heap.size w w'))
 case atStart => exact ⟨(([] : List Int)), (0), ar, H', ⟨Nat.le_refl _⟩, ⟨by first | exact Kd.R_nil _ _ _ _ _ | exact Kd.N_nil _ _ _ _ _ | exact Kd.V_nil _ _ _ _ _ | exact Kd.Q_nil _ _ _ _ _ | exact Kd.S_nil _ _ _ _ _⟩, ⟨by exact HB.out⟩⟩
 case round =>
  clear H'; obtain ⟨x3_1, x4_1, rfl, HA, HK1, HO_3, HB⟩ := hrel
  cases gk with
  | zero => exact absurd HA.out (by simp [trustquorumref01_Subsets.l0])
  | succ k1 =>
   have H := HA.out; clear HA; simp only [trustquorumref01_Subsets.l0] at H; have HC2 := am H; clear H
   go_upto_region 3 with (fail)
   go_cut [13] (fun v13 wc => ∃ (kq : Nat) (x13_1 : Bool), v13 = .bool x13_1 ∧ Aside0 (trustquorumref01_Subsets.j1 kq a0 x3_1 x4_1 x13_1 = some r) ∧ Aside0 (kq ≤ k1) ∧ Aside0 (Kd.R (Kd.int .i64) 3 wc w.heap.size (fun _ => True) u3 x3_1) ∧ Aside0 (Below w.heap.size w wc))
   case first =>
    have H := HC2.out; clear HC2; replace H := Option.bind_eq_some_iff.mp H; obtain ⟨t432, A30, H⟩ := H; replace H : (if x4_1 ≤ t432 then ((trustquorumref01_Valid.f a0).bind fun t433 => (trustquorumref01_Subsets.j1 k1 a0 x3_1 x4_1 t433)) else (trustquorumref01_Subsets.j1 k1 a0 x3_1 x4_1 false)) = some r := H; have A3 := am A30; clear A30
    by_cases c4 : x4_1 ≤ t432
    ·
     rw [if_pos c4] at H; have c4b0 : decide (x4_1 ≤ t432) = true := decide_eq_true c4; clear c4; (first | rw [c4b0] | (simp only [i64_w, i32_w]; rw [c4b0]) | skip); replace H := Option.bind_eq_some_iff.mp H; obtain ⟨t433, A50, H⟩ := H; replace H : (trustquorumref01_Subsets.j1 k1 a0 x3_1 x4_1 t433) = some r := H; have A5 := am A50; clear A50; have H' := am H; clear H
     go_wp2_with (first | (refine gA (some 8) Try.func109 #[.int .i64 a0] ?_; (with_reducible refine (trustquorumref01_Size.calls k1 a0 t432 _ A3.out).mono ?_); rintro e w' ⟨rfl, ⟨nd, rfl⟩⟩; refine ⟨_, rfl, ?_⟩) | (go_at_call 55; (with_reducible refine (trustquorumref01_Valid.calls a0 t433 _ A5.out).mono ?_); rintro e w' ⟨rfl, ⟨nd, rfl⟩⟩))
     go_meet
     case rel => exact ⟨_, (t433), ar, H', ⟨by have := HK1.out; first | omega | exact Nat.le_refl _⟩, ⟨by exact HO_3.out⟩, ⟨cl4⟩⟩
    ·
     rw [if_neg c4] at H; have c4b0 : decide (x4_1 ≤ t432) = false := decide_eq_false c4; clear c4; (first | rw [c4b0] | (simp only [i64_w, i32_w]; rw [c4b0]) | skip); have H' := am H; clear H
     go_wp2_with (first | (refine gA (some 8) Try.func109 #[.int .i64 a0] ?_; (with_reducible refine (trustquorumref01_Size.calls k1 a0 t432 _ A3.out).mono ?_); rintro e w' ⟨rfl, ⟨nd, rfl⟩⟩; refine ⟨_, rfl, ?_⟩))
     go_meet
     case rel => exact ⟨_, (false), ar, H', ⟨by have := HK1.out; first | omega | exact Nat.le_refl _⟩, ⟨by exact HO_3.out⟩, ⟨cl4⟩⟩
   case rest =>
    clear HC2; (try clear c1); (try clear p2); (try clear c4); (try clear c4b0); obtain ⟨kq, x13_1, rfl, HA, HJ1, HO_3, HB⟩ := hcut
    cases kq with
    | zero => exact absurd HA.out (by simp [trustquorumref01_Subsets.j1])
    | succ kj1 =>
     have H := HA.out; clear HA; simp only [trustquorumref01_Subsets.j1] at H
     by_cases c6 : x13_1 = true
     ·
      subst c6; have H1 : (trustquorumref01_Subsets.l1 kj1 a0 x3_1 x4_1 0) = some r := by rw [if_pos rfl] at H; exact H
      clear H; have H := H1; clear H1; have H' := am H; clear H
      go_wp2
      go_loopg [3, 5] kj1 (fun kq v3 v5 w' => ∃ (x3_3 : List Int) (x5_3 : Int), v5 = .int .i64 x5_3 ∧ Aside0 (trustquorumref01_Subsets.l1 kq a0 x3_3 x4_1 x5_3 = some r) ∧ Aside0 (kq ≤ kj1) ∧ Aside0 (Kd.R (Kd.int .i64) 3 w' w.heap.size (fun _ => True) v3 x3_3) ∧ Aside0 (Below w.heap.size w w'))
      case atStart => exact ⟨(x3_1), (0), ar, H', ⟨Nat.le_refl _⟩, ⟨by exact HO_3.out⟩, ⟨by exact HB.out⟩⟩
      case round =>
       clear H'; (try clear c1); (try clear p2); (try clear c4); (try clear c4b0); (try clear c6); (try clear p6); (try clear p2); obtain ⟨x3_3, x5_3, rfl, HA, HK3, HO_3, HB⟩ := hrel
       cases gk with
       | zero => exact absurd HA.out (by simp [trustquorumref01_Subsets.l1])
       | succ k3 =>
        have H := HA.out; clear HA; simp only [trustquorumref01_Subsets.l1] at H
        by_cases c7 : x5_3 ≤ a0
        ·
         rw [if_pos c7] at H; have c7b0 : decide (x5_3 ≤ a0) = true := decide_eq_true c7; clear c7
         by_cases c8 : (Go.bits .and .i64 x5_3 a0) = x5_3
         ·
          rw [if_pos c8] at H; have c8b0 : ((Go.bits .and .i64 x5_3 a0) == x5_3) = true := beq_iff_eq.mpr c8; have c8b1 : ((Go.bits .and .i64 x5_3 a0) != x5_3) = false := bne_eq_false_iff_eq.mpr c8; clear c8; replace H := Option.bind_eq_some_iff.mp H; obtain ⟨t434, A90, H⟩ := H; replace H : (if t434 = x4_1 then (if x3_3.length < 17592186044416 then (trustquorumref01_Subsets.l1 k3 a0 (x3_3 ++ [x5_3]) x4_1 (wrap64 (x5_3 + 1))) else (none)) else (trustquorumref01_Subsets.l1 k3 a0 x3_3 x4_1 (wrap64 (x5_3 + 1)))) = some r := H; have A9 := am A90; clear A90
          by_cases c10 : t434 = x4_1
          ·
           rw [if_pos c10] at H; have c10b0 : (t434 == x4_1) = true := beq_iff_eq.mpr c10; have c10b1 : (t434 != x4_1) = false := bne_eq_false_iff_eq.mpr c10; clear c10
           by_cases c11 : x3_3.length < 17592186044416
           ·
            rw [if_pos c11] at H; have LMc11 := am c11; clear c11; obtain ⟨y435, hy435⟩ : ∃ y_ : List Int, y_ = (x3_3 ++ [x5_3]) := ⟨_, rfl⟩; replace H : (trustquorumref01_Subsets.l1 k3 a0 y435 x4_1 (wrap64 (x5_3 + 1))) = some r := by first | (rw [hy435]; with_reducible exact H) | (have H2_ := (Option.bind_some _ _).symm.trans H; rw [hy435]; with_reducible exact H2_) | (have H2_ := (Option.bind_some _ _).symm.trans H; with_reducible exact H2_) | with_reducible exact H | (rw [hy435]; exact H) | exact H
            have Ny435 := am hy435; clear hy435; have H' := am H; clear H
            go_wp2_with (first | (go_at_call 109; (with_reducible refine (trustquorumref01_Size.calls k3 x5_3 t434 _ A9.out).mono ?_); rintro e w' ⟨rfl, ⟨nd, rfl⟩⟩) | ((with_reducible refine gate_builtin (b := .append) (xs := #[.tmp 32, .tmp 34]) rfl ?_); at_builtin; refine Kd.R_append (Kd.int .i64) (w0 := w) w.heap.size rfl (.tmp 32) (.tmp 34) 22 3 (.int .i64 0) 8 rfl Try.underlying22 info3 rfl (by decide) (by omega) u3 x3_3 x5_3 [.int .i64 x5_3] (fun _ => True) (fun _ => False) rfl rfl ?aP (fun _ hk => hk.elim) ?aF ?aO ?aB ?aS ?aL ?_; (case aP => exact rfl); (case aB => exact cl4); (case aF => exact (fun _ _ => trivial)); (case aO => exact (pR HO_3)); (case aS => exact (below_size cl4)); (case aL => have := LMc11.out; omega); intro v436 w12 ho hb hg hat; rw [← Ny435.out] at ho; replace HB := am (hb); have HO437 := am (ho); clear HO_3; clear ho hb hg hat))
            go_roundg k3
            case measure => have := HK1.out; have := HJ1.out; have := HK3.out; omega
            case rel => exact ⟨(y435), (wrap64 (x5_3 + 1)), ar, H', ⟨by have := HK1.out; have := HJ1.out; have := HK3.out; omega⟩, ⟨by exact HO437.out⟩, ⟨by exact HB.out⟩⟩
           ·
            rw [if_neg c11] at H; exact absurd H (by simp)
          ·
           rw [if_neg c10] at H; have c10b0 : (t434 == x4_1) = false := beq_eq_false_iff_ne.mpr c10; have c10b1 : (t434 != x4_1) = true := bne_iff_ne.mpr c10; have H' := am H; clear H
           go_wp2_with (first | (go_at_call 109; (with_reducible refine (trustquorumref01_Size.calls k3 x5_3 t434 _ A9.out).mono ?_); rintro e w' ⟨rfl, ⟨nd, rfl⟩⟩))
           go_roundg k3
           case measure => have := HK1.out; have := HJ1.out; have := HK3.out; omega
           case rel => exact ⟨(x3_3), (wrap64 (x5_3 + 1)), ar, H', ⟨by have := HK1.out; have := HJ1.out; have := HK3.out; omega⟩, ⟨by exact HO_3.out⟩, ⟨cl4⟩⟩
         ·
          rw [if_neg c8] at H; have c8b0 : ((Go.bits .and .i64 x5_3 a0) == x5_3) = false := beq_eq_false_iff_ne.mpr c8; have c8b1 : ((Go.bits .and .i64 x5_3 a0) != x5_3) = true := bne_iff_ne.mpr c8; have H' := am H; clear H
          go_wp2
          go_roundg k3
          case measure => have := HK1.out; have := HJ1.out; have := HK3.out; omega
          case rel => exact ⟨(x3_3), (wrap64 (x5_3 + 1)), ar, H', ⟨by have := HK1.out; have := HJ1.out; have := HK3.out; omega⟩, ⟨by exact HO_3.out⟩, ⟨by exact HB.out⟩⟩
        ·
         rw [if_neg c7] at H; have c7b0 : decide (x5_3 ≤ a0) = false := decide_eq_false c7; clear c7; have H' := am H; clear H
         go_wp2
         go_roundg k3
         case measure => have := HK1.out; have := HJ1.out; have := HK3.out; omega
         case rel => exact ⟨(x3_3), (wrap64 (x4_1 + 1)), ar, H', ⟨by have := HK1.out; have := HJ1.out; have := HK3.out; omega⟩, ⟨by exact HO_3.out⟩, ⟨by exact HB.out⟩⟩
     ·
      replace c6 := Bool.eq_false_iff.mpr c6; subst c6; have H1 : (some x3_1) = some r := by rw [if_neg (show ¬ (false = true) by decide)] at H; exact H
      clear H; have H := H1; clear H1; obtain rfl := Option.some.inj H
      go_wp2
      go_ret
      exact ⟨_, by first | rfl | (simp [errW_none, errW_some] <;> rfl) | (simp [*, errW_none, errW_some] <;> rfl), by exact HO_3.out, by exact HB.out⟩
/-! ### trustquorumref12_members: function 87 -/
def trustquorumref12_members.f (l0_0 : List (S54)) : Option (Int) := some (wrap64 ((shl .i64 1 (l0_0.length : Int)) - 1))
set_option maxHeartbeats 8000000 in
set_option maxRecDepth 100000 in
theorem trustquorumref12_members.calls (A0_0 : Option Addr) (c0_0 : Nat) (l0_0 : List (S54)) (r : Int) (w : World) (hr0_0 : Kd.C k54 w A0_0 l0_0.length l0_0) (hc0_0 : l0_0.length ≤ c0_0) (h : trustquorumref12_members.f l0_0 = some r) :
    Calls Try.prog 87 #[.agg #[.slice A0_0 l0_0.length c0_0]] w fun e w' => e = .returned (.int .i64 r) ∧ Below w.heap.size w w' := by
 have hu27 := Try.underlying27; have HR0_0 := am hr0_0; have HC0_0 := am hc0_0; clear hr0_0 hc0_0; have HB := am (Below.refl w.heap.size w); have H : (some (wrap64 ((shl .i64 1 (l0_0.length : Int)) - 1))) = some r := h; clear h; obtain ⟨ji2, hji2⟩ : ∃ j_ : Int, (shl .i64 1 (l0_0.length : Int)) = j_ := ⟨_, rfl⟩; replace H : (some (wrap64 ((ji2) - 1))) = some r := by first | (rw [hji2] at H; exact H) | (simp only [hji2] at H ⊢; exact H)
 have hji2_ : (IntKind.i64.wrap (1 * 2 ^ min (l0_0.length : Int).toNat 64)) = ji2 := hji2; have hji2z : (l0_0.length : Int) ≤ 64 → (IntKind.i64.wrap (1 * 2 ^ (l0_0.length : Int).toNat)) = ji2 := shl_small hji2; have hji2p : (IntKind.i64.wrap (1 * 2 ^ min l0_0.length 64)) = ji2 := hji2_; have hji2q : (l0_0.length : Int) ≤ 64 → (IntKind.i64.wrap (1 * 2 ^ l0_0.length)) = ji2 := hji2z; have hji2r : (IntKind.i64.wrap (2 ^ min l0_0.length 64)) = ji2 := by have h_ := hji2p; rw [Int.one_mul] at h_; exact h_
 have hji2s : (l0_0.length : Int) ≤ 64 → (IntKind.i64.wrap (2 ^ l0_0.length)) = ji2 := fun hle_ => by have h_ := hji2q hle_; rw [Int.one_mul] at h_; exact h_
 have hji2u : (IntKind.i64.wrap (2 ^ min (l0_0.length : Int).toNat 64)) = ji2 := by have h_ := hji2_; rw [Int.one_mul] at h_; exact h_
 have hji2v : (l0_0.length : Int) ≤ 64 → (IntKind.i64.wrap (2 ^ (l0_0.length : Int).toNat)) = ji2 := fun hle_ => by have h_ := hji2z hle_; rw [Int.one_mul] at h_; exact h_
 have hji2y : (wrap64 (1 * 2 ^ min (l0_0.length : Int).toNat 64)) = ji2 := (i64_w _).symm.trans hji2_; have hji2x : (l0_0.length : Int) ≤ 64 → (wrap64 (1 * 2 ^ (l0_0.length : Int).toNat)) = ji2 := fun h_ => (i64_w _).symm.trans (hji2z h_); obtain rfl := Option.some.inj H
 go_enter Try.func87, Try.ntmps87
 go_wp2_with (first | (refine bx 1 #[.slice A0_0 l0_0.length c0_0] 27 HB.out ?_; intro gb438 hg w3 BK438 GE438 hb; replace HB := bs HB hb; clear hb hg; obtain ⟨hcz4_0, hfz4_0⟩ := blkC1 BK438.out))
 go_ret
 exact ⟨by first | rfl | (simp [errW_none, errW_some] <;> rfl) | (simp only [← hji2]; first | rfl | (simp [errW_none, errW_some] <;> rfl)) | (simp [*, errW_none, errW_some] <;> rfl), by exact HB.out⟩
/-! ### trustquorumref09_Quorum: function 88 -/
mutual
def trustquorumref09_Quorum.j0 : Nat → Int → Bool → List (S54) → Option (Bool)
  | 0, _, _, _ => none
  | k + 1, x1, x21, x440000 => if x21 = true then (some false) else ((trustquorumref01_Nodes.f k x1).bind fun t442 => (trustquorumref09_Quorum.l0 k x1 t442 (t442.length : Int) 0 x440000))
def trustquorumref09_Quorum.l0 : Nat → Int → List Int → Int → Int → List (S54) → Option (Bool)
  | 0, _, _, _, _, _ => none
  | k + 1, x1, x23, x24, x25, x440000 => if x25 < x24 then (if 0 ≤ x25 then (if x25 < (x23.length : Int) then (if 0 ≤ (rd x23 x25) then (if (rd x23 x25) < (x440000.length : Int) then ((trustquorumref02_Satisfied.f k ((rd_T54 x440000 (rd x23 x25)).f1.f0) ((rd_T54 x440000 (rd x23 x25)).f1.f1) ((rd_T54 x440000 (rd x23 x25)).f1.f2) x1).bind fun t447 => (if t447 = true then (trustquorumref09_Quorum.l0 k x1 x23 x24 (wrap64 (x25 + 1)) x440000) else (some false))) else (none)) else (none)) else (none)) else (none)) else (some true)
end
def trustquorumref09_Quorum.f (k : Nat) (l0_0 : List (S54)) (a1 : Int) : Option (Bool) := (trustquorumref01_Valid.f a1).bind fun t440 => (if t440 = true then (if a1 = 0 then (trustquorumref09_Quorum.j0 k a1 true l0_0) else ((trustquorumref06_Declared.f k l0_0).bind fun t441 => (trustquorumref09_Quorum.j0 k a1 ((Go.bits .and .i64 a1 t441) != a1) l0_0))) else (trustquorumref09_Quorum.j0 k a1 true l0_0))
set_option maxHeartbeats 8000000 in
set_option maxRecDepth 100000 in
theorem trustquorumref09_Quorum.calls (k : Nat) (A0_0 : Option Addr) (c0_0 : Nat) (l0_0 : List (S54)) (a1 : Int) (r : Bool) (w : World) (hr0_0 : Kd.C k54 w A0_0 l0_0.length l0_0) (hc0_0 : l0_0.length ≤ c0_0) (h : trustquorumref09_Quorum.f k l0_0 a1 = some r) :
    Calls Try.prog 88 #[.agg #[.slice A0_0 l0_0.length c0_0], .int .i64 a1] w fun e w' => e = .returned (.bool r) ∧ Below w.heap.size w w' := by
 have hu27 := Try.underlying27; have hu48 := Try.underlying48; have HR0_0 := am hr0_0; have HC0_0 := am hc0_0; clear hr0_0 hc0_0; have HB := am (Below.refl w.heap.size w); have H : ((trustquorumref01_Valid.f a1).bind fun t440 => (if t440 = true then (if a1 = 0 then (trustquorumref09_Quorum.j0 k a1 true l0_0) else ((trustquorumref06_Declared.f k l0_0).bind fun t441 => (trustquorumref09_Quorum.j0 k a1 ((Go.bits .and .i64 a1 t441) != a1) l0_0))) else (trustquorumref09_Quorum.j0 k a1 true l0_0))) = some r := h; clear h; have HC3 := am H; clear H
 go_enter Try.func88, Try.ntmps88
 go_upto_region 1 with (first | (refine bx 2 #[.slice A0_0 l0_0.length c0_0] 27 HB.out ?_; intro gb439 hg w4 BK439 GE439 hb; replace HB := bs HB hb; clear hb hg))
 (try simp only [Act.put, List.setIfInBounds_toArray, List.set_cons_zero, List.set_cons_succ])
 go_cut [21] (fun v21 wc => ∃ (kq : Nat) (x21_2 : Bool), v21 = .bool x21_2 ∧ Aside0 (trustquorumref09_Quorum.j0 kq a1 x21_2 l0_0 = some r) ∧ Aside0 (kq ≤ k) ∧ Aside0 (wc.heap[gb439]? = some (.cells #[(.slice A0_0 l0_0.length c0_0)] 27 (0, 0))) ∧ Aside0 (Below w.heap.size w wc))
 case first =>
  have H := HC3.out; clear HC3; replace H := Option.bind_eq_some_iff.mp H; obtain ⟨t440, A50, H⟩ := H; replace H : (if t440 = true then (if a1 = 0 then (trustquorumref09_Quorum.j0 k a1 true l0_0) else ((trustquorumref06_Declared.f k l0_0).bind fun t441 => (trustquorumref09_Quorum.j0 k a1 ((Go.bits .and .i64 a1 t441) != a1) l0_0))) else (trustquorumref09_Quorum.j0 k a1 true l0_0)) = some r := H; have A5 := am A50; clear A50
  by_cases c6 : t440 = true
  ·
   subst c6; have H1 : (if a1 = 0 then (trustquorumref09_Quorum.j0 k a1 true l0_0) else ((trustquorumref06_Declared.f k l0_0).bind fun t441 => (trustquorumref09_Quorum.j0 k a1 ((Go.bits .and .i64 a1 t441) != a1) l0_0))) = some r := by rw [if_pos rfl] at H; exact H
   clear H; have H := H1; clear H1
   by_cases c7 : a1 = 0
   ·
    rw [if_pos c7] at H; have c7b0 : (a1 == 0) = true := beq_iff_eq.mpr c7; have c7b1 : (a1 != 0) = false := bne_eq_false_iff_eq.mpr c7; clear c7; (first | rw [c7b0] | (simp only [i64_w, i32_w]; rw [c7b0]) | skip); have H' := am H; clear H
    go_wp2_with (first | (refine gA (some 8) Try.func55 #[.int .i64 a1] ?_; (with_reducible refine (trustquorumref01_Valid.calls a1 true _ A5.out).mono ?_); rintro e w' ⟨rfl, ⟨nd, rfl⟩⟩; refine ⟨_, rfl, ?_⟩))
    go_meet
    case rel => exact ⟨_, (true), ar, H', ⟨by first | omega | exact Nat.le_refl _⟩, ⟨by exact BK439.out⟩, ⟨cl0⟩⟩
   ·
    rw [if_neg c7] at H; have c7b0 : (a1 == 0) = false := beq_eq_false_iff_ne.mpr c7; have c7b1 : (a1 != 0) = true := bne_iff_ne.mpr c7; (first | rw [c7b0] | (simp only [i64_w, i32_w]; rw [c7b0]) | skip); replace H := Option.bind_eq_some_iff.mp H; obtain ⟨t441, A80, H⟩ := H; replace H : (trustquorumref09_Quorum.j0 k a1 ((Go.bits .and .i64 a1 t441) != a1) l0_0) = some r := H; have A8 := am A80; clear A80; have H' := am H; clear H
    go_wp2_with (first | (refine gA (some 8) Try.func55 #[.int .i64 a1] ?_; (with_reducible refine (trustquorumref01_Valid.calls a1 true _ A5.out).mono ?_); rintro e w' ⟨rfl, ⟨nd, rfl⟩⟩; refine ⟨_, rfl, ?_⟩; have hcz9_0 : w4.cell? ⟨gb439, 0, none⟩ = some (.slice A0_0 l0_0.length c0_0) := (blk_cell BK439.out 0).trans rfl; have hfz9_0 := blk_frozen BK439.out 0) | (go_at_call 52; (with_reducible refine (trustquorumref06_Declared.calls k _ _ l0_0 t441 _ ?side1 ?side2 A8.out).mono ?_); (case side1 => repeat (first | exact (Kd.C_below HR0_0.out cl0) | (with_reducible refine Kd.C_alloc ?_ _) | (with_reducible refine Kd.C_drewN ?_ _) | (with_reducible refine Kd.C_drew ?_))); (case side2 => exact HC0_0.out); rintro e w10 ⟨rfl, hb⟩; replace BK439 := bw BK439 hb; replace HB := am (below_step (kw HB cl0) hb); (try clear hb); (try clear hi)))
    go_meet
    case rel => exact ⟨_, (((Go.bits .and .i64 a1 t441) != a1)), ar, H', ⟨by first | omega | exact Nat.le_refl _⟩, ⟨by exact BK439.out⟩, ⟨by exact HB.out⟩⟩
  ·
   replace c6 := Bool.eq_false_iff.mpr c6; subst c6; have H1 : (trustquorumref09_Quorum.j0 k a1 true l0_0) = some r := by rw [if_neg (show ¬ (false = true) by decide)] at H; exact H
   clear H; have H := H1; clear H1; have H' := am H; clear H
   go_wp2_with (first | (refine gA (some 8) Try.func55 #[.int .i64 a1] ?_; (with_reducible refine (trustquorumref01_Valid.calls a1 false _ A5.out).mono ?_); rintro e w' ⟨rfl, ⟨nd, rfl⟩⟩; refine ⟨_, rfl, ?_⟩))
   go_meet
   case rel => exact ⟨_, (true), ar, H', ⟨by first | omega | exact Nat.le_refl _⟩, ⟨by exact BK439.out⟩, ⟨cl0⟩⟩
 case rest =>
  clear HC3; (try clear p2); (try clear c5); (try clear c6); (try clear p6); (try clear c7); (try clear c7b0); (try clear c7b1); (try clear c8); (try clear hcz9_0 hfz9_0); obtain ⟨kq, x21_2, rfl, HA, HJ2, BK439, HB⟩ := hcut
  cases kq with
  | zero => exact absurd HA.out (by simp [trustquorumref09_Quorum.j0])
  | succ kj2 =>
   have H := HA.out; clear HA; simp only [trustquorumref09_Quorum.j0] at H
   by_cases c11 : x21_2 = true
   ·
    subst c11; have H1 : (some false) = some r := by rw [if_pos rfl] at H; exact H
    clear H; have H := H1; clear H1; obtain rfl := Option.some.inj H
    go_wp2
    go_ret
    exact ⟨er, by exact HB.out⟩
   ·
    replace c11 := Bool.eq_false_iff.mpr c11; subst c11; have H1 : ((trustquorumref01_Nodes.f kj2 a1).bind fun t442 => (trustquorumref09_Quorum.l0 kj2 a1 t442 (t442.length : Int) 0 l0_0)) = some r := by rw [if_neg (show ¬ (false = true) by decide)] at H; exact H
    clear H; have H := H1; clear H1; replace H := Option.bind_eq_some_iff.mp H; obtain ⟨t442, A120, H⟩ := H; replace H : (trustquorumref09_Quorum.l0 kj2 a1 t442 (t442.length : Int) 0 l0_0) = some r := H; have A12 := am A120; clear A120; have H' := am H; clear H
    go_wp2_with (first | (refine gA (some 23) Try.func21 #[.int .i64 a1] ?_; (with_reducible refine (trustquorumref01_Nodes.calls kj2 a1 t442 _ A12.out).mono ?_); rintro e w13 ⟨v443, rfl, ho0, hb⟩; refine ⟨_, rfl, ?_⟩; have HO444 := am (Kd.R_lower ho0 (below_size HB.out)); replace BK439 := bb BK439 hb; replace HB := bs HB hb; (try clear hb); (try clear ho0); obtain ⟨Ao14, co14, eo14⟩ := Kd.R_slice HO444.out; subst eo14))
    go_loopg [25] kj2 (fun kq v25 w' => ∃ (x25_2 : Int), v25 = .int .i64 x25_2 ∧ Aside0 (trustquorumref09_Quorum.l0 kq a1 t442 (t442.length : Int) x25_2 l0_0 = some r) ∧ Aside0 (kq ≤ kj2) ∧ Aside0 (Kd.R (Kd.int .i64) 3 w' w.heap.size (fun _ => True) (.slice Ao14 t442.length co14) t442) ∧ Aside0 (w'.heap[gb439]? = some (.cells #[(.slice A0_0 l0_0.length c0_0)] 27 (0, 0))) ∧ Aside0 (Below w.heap.size w w'))
    case atStart => exact ⟨(0), ar, H', ⟨Nat.le_refl _⟩, ⟨by exact HO444.out⟩, ⟨by exact BK439.out⟩, ⟨by exact HB.out⟩⟩
    case round =>
     clear H'; (try clear c1); (try clear c2); (try clear p2); (try clear c5); (try clear c6); (try clear p6); (try clear c7); (try clear c7b0); (try clear c7b1); (try clear c8); (try clear c11); (try clear hcz9_0 hfz9_0); (try clear p2); (try clear p6); obtain ⟨x25_2, rfl, HA, HK2, HO_23, BK439, HB⟩ := hrel
     cases gk with
     | zero => exact absurd HA.out (by simp [trustquorumref09_Quorum.l0])
     | succ k2 =>
      have H := HA.out; clear HA; simp only [trustquorumref09_Quorum.l0] at H
      by_cases c15 : x25_2 < (t442.length : Int)
      ·
       rw [if_pos c15] at H; have c15b0 : decide (x25_2 < (t442.length : Int)) = true := decide_eq_true c15; clear c15
       by_cases c16 : 0 ≤ x25_2
       ·
        rw [if_pos c16] at H; have c16b0 : decide (0 ≤ x25_2) = true := decide_eq_true c16; clear c16
        by_cases c17 : x25_2 < (t442.length : Int)
        ·
         rw [if_pos c17] at H; have c17b0 : decide (x25_2 < (t442.length : Int)) = true := decide_eq_true c17; clear c17
         by_cases c18 : 0 ≤ (rd t442 x25_2)
         ·
          rw [if_pos c18] at H; have c18b0 : decide (0 ≤ (rd t442 x25_2)) = true := decide_eq_true c18; clear c18
          by_cases c19 : (rd t442 x25_2) < (l0_0.length : Int)
          ·
           rw [if_pos c19] at H; have c19b0 : decide ((rd t442 x25_2) < (l0_0.length : Int)) = true := decide_eq_true c19; clear c19; replace H := Option.bind_eq_some_iff.mp H; obtain ⟨t447, A200, H⟩ := H; replace H : (if t447 = true then (trustquorumref09_Quorum.l0 k2 a1 t442 (t442.length : Int) (wrap64 (x25_2 + 1)) l0_0) else (some false)) = some r := H; have A20 := am A200; clear A200
           by_cases c21 : t447 = true
           ·
            subst c21; have H1 : (trustquorumref09_Quorum.l0 k2 a1 t442 (t442.length : Int) (wrap64 (x25_2 + 1)) l0_0) = some r := by rw [if_pos rfl] at H; exact H
            clear H; have H := H1; clear H1; have H' := am H; clear H; have p445 : 0 ≤ (x25_2 : Int) := od; have q445 : x25_2 < (t442.length : Int) := od; obtain ⟨ad445, e445, hx445_0⟩ := Kd.at_int (Kd.R_reads' HO_23.out).2.2 x25_2 p445 q445
            cases e445
            replace p445 := eq_true p445; replace q445 := eq_true q445; obtain ⟨hcz22_0, hfz22_0⟩ := blkC1 BK439.out; have p446 : 0 ≤ ((rd t442 x25_2) : Int) := od; have q446 : (rd t442 x25_2) < (l0_0.length : Int) := od; obtain ⟨ad446, A446_2, c446_2, A446_3, c446_3, e446, hx446_0, hx446_1, hx446_2, hx446_3, hl446_2, hi446_2, hl446_3, hi446_3⟩ := at_T54 HR0_0.out (rd t442 x25_2) p446 q446
            cases e446
            replace hx446_0 := (HB.out.cell (World.block_lt_of_cell? w _ hx446_0)).trans hx446_0; replace hx446_1 := (HB.out.cell (World.block_lt_of_cell? w _ hx446_1)).trans hx446_1; replace hx446_2 := (HB.out.cell (World.block_lt_of_cell? w _ hx446_2)).trans hx446_2; replace hx446_3 := (HB.out.cell (World.block_lt_of_cell? w _ hx446_3)).trans hx446_3; have HR446_2 := am hi446_2; have HC446_2 := am hl446_2; clear hi446_2 hl446_2; have HR446_3 := am hi446_3; have HC446_3 := am hl446_3; clear hi446_3 hl446_3; replace p446 := eq_true p446; replace q446 := eq_true q446
            go_wp2_with (first | (refine gA (some 36) Try.func101 #[.agg #[.int .i64 ((rd_T54 l0_0 (rd t442 x25_2)).f1.f0), .slice A446_2 ((rd_T54 l0_0 (rd t442 x25_2)).f1.f1).length c446_2, .slice A446_3 ((rd_T54 l0_0 (rd t442 x25_2)).f1.f2).length c446_3], .int .i64 a1] ?_; (with_reducible refine (trustquorumref02_Satisfied.calls k2 ((rd_T54 l0_0 (rd t442 x25_2)).f1.f0) _ _ ((rd_T54 l0_0 (rd t442 x25_2)).f1.f1) _ _ ((rd_T54 l0_0 (rd t442 x25_2)).f1.f2) a1 true _ (Kd.C_below HR446_2.out HB.out) HC446_2.out (Kd.C_below HR446_3.out HB.out) HC446_3.out A20.out).mono ?_); rintro e w23 ⟨rfl, hb⟩; refine ⟨_, rfl, ?_⟩; replace HO_23 := am (Kd.R_below HO_23.out hb); replace BK439 := bb BK439 hb; replace HB := bs HB hb; (try clear hb); (try clear hi)))
            go_roundg k2
            case measure => have := HJ2.out; have := HK2.out; omega
            case rel => exact ⟨(wrap64 (x25_2 + 1)), ar, H', ⟨by have := HJ2.out; have := HK2.out; omega⟩, ⟨by exact HO_23.out⟩, ⟨by exact BK439.out⟩, ⟨by exact HB.out⟩⟩
           ·
            replace c21 := Bool.eq_false_iff.mpr c21; subst c21; have H1 : (some false) = some r := by rw [if_neg (show ¬ (false = true) by decide)] at H; exact H
            clear H; have H := H1; clear H1; obtain rfl := Option.some.inj H; have p445 : 0 ≤ (x25_2 : Int) := od; have q445 : x25_2 < (t442.length : Int) := od; obtain ⟨ad445, e445, hx445_0⟩ := Kd.at_int (Kd.R_reads' HO_23.out).2.2 x25_2 p445 q445
            cases e445
            replace p445 := eq_true p445; replace q445 := eq_true q445; obtain ⟨hcz24_0, hfz24_0⟩ := blkC1 BK439.out; have p446 : 0 ≤ ((rd t442 x25_2) : Int) := od; have q446 : (rd t442 x25_2) < (l0_0.length : Int) := od; obtain ⟨ad446, A446_2, c446_2, A446_3, c446_3, e446, hx446_0, hx446_1, hx446_2, hx446_3, hl446_2, hi446_2, hl446_3, hi446_3⟩ := at_T54 HR0_0.out (rd t442 x25_2) p446 q446
            cases e446
            replace hx446_0 := (HB.out.cell (World.block_lt_of_cell? w _ hx446_0)).trans hx446_0; replace hx446_1 := (HB.out.cell (World.block_lt_of_cell? w _ hx446_1)).trans hx446_1; replace hx446_2 := (HB.out.cell (World.block_lt_of_cell? w _ hx446_2)).trans hx446_2; replace hx446_3 := (HB.out.cell (World.block_lt_of_cell? w _ hx446_3)).trans hx446_3; have HR446_2 := am hi446_2; have HC446_2 := am hl446_2; clear hi446_2 hl446_2; have HR446_3 := am hi446_3; have HC446_3 := am hl446_3; clear hi446_3 hl446_3; replace p446 := eq_true p446; replace q446 := eq_true q446
            go_wp2_with (first | (refine gA (some 36) Try.func101 #[.agg #[.int .i64 ((rd_T54 l0_0 (rd t442 x25_2)).f1.f0), .slice A446_2 ((rd_T54 l0_0 (rd t442 x25_2)).f1.f1).length c446_2, .slice A446_3 ((rd_T54 l0_0 (rd t442 x25_2)).f1.f2).length c446_3], .int .i64 a1] ?_; (with_reducible refine (trustquorumref02_Satisfied.calls k2 ((rd_T54 l0_0 (rd t442 x25_2)).f1.f0) _ _ ((rd_T54 l0_0 (rd t442 x25_2)).f1.f1) _ _ ((rd_T54 l0_0 (rd t442 x25_2)).f1.f2) a1 false _ (Kd.C_below HR446_2.out HB.out) HC446_2.out (Kd.C_below HR446_3.out HB.out) HC446_3.out A20.out).mono ?_); rintro e w25 ⟨rfl, hb⟩; refine ⟨_, rfl, ?_⟩; replace HO_23 := am (Kd.R_below HO_23.out hb); replace BK439 := bb BK439 hb; replace HB := bs HB hb; (try clear hb); (try clear hi)))
            go_ret
            exact ⟨er, by exact HB.out⟩
          ·
           rw [if_neg c19] at H; exact absurd H (by simp)
         ·
          rw [if_neg c18] at H; exact absurd H (by simp)
        ·
         rw [if_neg c17] at H; exact absurd H (by simp)
       ·
        rw [if_neg c16] at H; exact absurd H (by simp)
      ·
       rw [if_neg c15] at H; have c15b0 : decide (x25_2 < (t442.length : Int)) = false := decide_eq_false c15; clear c15; obtain rfl := Option.some.inj H
       go_wp2
       go_ret
       exact ⟨er, by exact HB.out⟩
end Go.Proofs.Ytmeamdklonmahaa.QFederatedSafe
