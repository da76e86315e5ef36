/- Lean functions that answer as the Go functions do which the law reaches, and proofs that the Go code comes to exactly these answers. Conditions: those that each theorem names. -/
import Derived.Test.YtmeamdklonmahaaQFederatedSafex0
import Derived.Test.YtmeamdklonmahaaQFederatedSafex2
namespace Go.Proofs.Ytmeamdklonmahaa.QFederatedSafe
open Go.RowKit Go.Proofs.YtmeamdklonmahaaW.PrintWords Go.Proofs.YtmeamdklonmahaaW.PrintLast Go.Proofs.YtmeamdklonmahaaW.PrintMore
attribute [local go_sem] max2_int min2_int max_two min_two max_three min_three max_four min_four   -- for this text's walks alone
set_option linter.unusedVariables false
set_option linter.unusedSimpArgs false

/-! ### trustquorumref01_Has: function 18 -/
def trustquorumref01_Has.f (a0 : Int) (a1 : Int) : Option (Bool) := (trustquorumref01_Valid.f a0).bind fun t167 => (if t167 = true then (if a1 ≥ 0 then (if a1 < 10 then (if 0 ≤ a1 then (some ((Go.bits .and .i64 (shr .i64 a0 a1) 1) == 1)) else (none)) else (some false)) else (some false)) else (some false))
set_option maxHeartbeats 8000000 in
set_option maxRecDepth 100000 in
theorem trustquorumref01_Has.calls (a0 : Int) (a1 : Int) (r : Bool) (w : World) (h : trustquorumref01_Has.f a0 a1 = some r) :
    Calls Try.prog 18 #[.int .i64 a0, .int .i64 a1] w fun e w' => e = .returned (.bool r) ∧ Drawn0 w w' := by
 have H : ((trustquorumref01_Valid.f a0).bind fun t167 => (if t167 = true then (if a1 ≥ 0 then (if a1 < 10 then (if 0 ≤ a1 then (some ((Go.bits .and .i64 (shr .i64 a0 a1) 1) == 1)) else (none)) else (some false)) else (some false)) else (some false))) = some r := h; clear h; replace H := Option.bind_eq_some_iff.mp H; obtain ⟨t167, A30, H⟩ := H; replace H : (if t167 = true then (if a1 ≥ 0 then (if a1 < 10 then (if 0 ≤ a1 then (some ((Go.bits .and .i64 (shr .i64 a0 a1) 1) == 1)) else (none)) else (some false)) else (some false)) else (some false)) = some r := H; have A3 := am A30; clear A30
 by_cases c4 : t167 = true
 ·
  subst c4; have H1 : (if a1 ≥ 0 then (if a1 < 10 then (if 0 ≤ a1 then (some ((Go.bits .and .i64 (shr .i64 a0 a1) 1) == 1)) else (none)) else (some false)) else (some false)) = some r := by rw [if_pos rfl] at H; exact H
  clear H; have H := H1; clear H1
  by_cases c5 : a1 ≥ 0
  ·
   rw [if_pos c5] at H; have c5b0 : decide (0 ≤ a1) = true := decide_eq_true c5; clear c5
   by_cases c6 : a1 < 10
   ·
    rw [if_pos c6] at H; have c6b0 : decide (a1 < 10) = true := decide_eq_true c6; clear c6
    by_cases c7 : 0 ≤ a1
    ·
     rw [if_pos c7] at H; have c7b0 := eq_true c7; have c7b1 : decide (0 ≤ a1) = true := decide_eq_true c7; clear c7; obtain ⟨ji8, hji8⟩ : ∃ j_ : Int, (shr .i64 a0 a1) = j_ := ⟨_, rfl⟩; replace H : (some ((Go.bits .and .i64 (ji8) 1) == 1)) = some r := by first | (rw [hji8] at H; exact H) | (simp only [hji8] at H ⊢; exact H)
     (try rw [hji8] at A3); have hji8_ : (a0 / 2 ^ min a1.toNat 64) = ji8 := hji8; have hji8z : a1 ≤ 64 → (a0 / 2 ^ a1.toNat) = ji8 := shr_small hji8; obtain rfl := Option.some.inj H
     go_enter Try.func18, Try.ntmps18
     go_wp2_with (first | (refine gA (some 6) Try.func55 #[.int .i64 a0] ?_; (with_reducible refine (trustquorumref01_Valid.calls a0 true _ A3.out).mono ?_); rintro e w' ⟨rfl, ⟨nd, rfl⟩⟩; refine ⟨_, rfl, ?_⟩))
     go_ret
     exact ⟨by first | rfl | (simp; done) | (simp only [← hji8] <;> (first | rfl | simp)) | (simp [*]; done), by repeat (first | exact Drawn0.refl _ | apply Drawn0.step)⟩
    ·
     rw [if_neg c7] at H; exact absurd H (by simp)
   ·
    rw [if_neg c6] at H; have c6b0 : decide (a1 < 10) = false := decide_eq_false c6; clear c6; obtain rfl := Option.some.inj H
    go_enter Try.func18, Try.ntmps18
    go_wp2_with (first | (refine gA (some 6) Try.func55 #[.int .i64 a0] ?_; (with_reducible refine (trustquorumref01_Valid.calls a0 true _ A3.out).mono ?_); rintro e w' ⟨rfl, ⟨nd, rfl⟩⟩; refine ⟨_, rfl, ?_⟩))
    go_ret
    exact ⟨by first | rfl | (simp; done) | (simp [*]; done) | (refine congrArg (Value.int .i64) ?_; unfold wrap64; omega), by repeat (first | exact Drawn0.refl _ | apply Drawn0.step)⟩
  ·
   rw [if_neg c5] at H; have c5b0 : decide (0 ≤ a1) = false := decide_eq_false c5; clear c5; obtain rfl := Option.some.inj H
   go_enter Try.func18, Try.ntmps18
   go_wp2_with (first | (refine gA (some 6) Try.func55 #[.int .i64 a0] ?_; (with_reducible refine (trustquorumref01_Valid.calls a0 true _ A3.out).mono ?_); rintro e w' ⟨rfl, ⟨nd, rfl⟩⟩; refine ⟨_, rfl, ?_⟩))
   go_ret
   exact ⟨by first | rfl | (simp; done) | (simp [*]; done) | (refine congrArg (Value.int .i64) ?_; unfold wrap64; omega), by repeat (first | exact Drawn0.refl _ | apply Drawn0.step)⟩
 ·
  replace c4 := Bool.eq_false_iff.mpr c4; subst c4; have H1 : (some false) = some r := by rw [if_neg (show ¬ (false = true) by decide)] at H; exact H
  clear H; have H := H1; clear H1; obtain rfl := Option.some.inj H
  go_enter Try.func18, Try.ntmps18
  go_wp2_with (first | (refine gA (some 6) Try.func55 #[.int .i64 a0] ?_; (with_reducible refine (trustquorumref01_Valid.calls a0 false _ A3.out).mono ?_); rintro e w' ⟨rfl, ⟨nd, rfl⟩⟩; refine ⟨_, rfl, ?_⟩))
  go_ret
  exact ⟨by first | rfl | (simp; done) | (simp [*]; done) | (refine congrArg (Value.int .i64) ?_; unfold wrap64; omega), by repeat (first | exact Drawn0.refl _ | apply Drawn0.step)⟩
/-! ### trustquorumref01_Of: function 117 -/
mutual
def trustquorumref01_Of.l0 : Nat → Int → List Int → Int → Int → Option (Int × Int)
  | 0, _, _, _, _ => none
  | k + 1, x4, x7, x8, x9 => if x9 < x8 then (if 0 ≤ x9 then (if x9 < (x7.length : Int) then (if (rd x7 x9) < 0 then (trustquorumref01_Of.j1 k x4 (rd x7 x9) x7 x8 x9 true) else (trustquorumref01_Of.j1 k x4 (rd x7 x9) x7 x8 x9 (decide ((rd x7 x9) ≥ 10)))) else (none)) else (none)) else (some (x4, 0))
def trustquorumref01_Of.j1 : Nat → Int → Int → List Int → Int → Int → Bool → Option (Int × Int)
  | 0, _, _, _, _, _, _ => none
  | k + 1, x4, x6, x7, x8, x9, x18 => if x18 = true then (some (0, 5)) else ((trustquorumref01_Has.f x4 x6).bind fun t169 => (if t169 = true then (some (0, 6)) else (if 0 ≤ x6 then (trustquorumref01_Of.l0 k (Go.bits .or .i64 x4 (shl .i64 1 x6)) x7 x8 (wrap64 (x9 + 1))) else (none))))
end
def trustquorumref01_Of.f (k : Nat) (l0 : List Int) : Option (Int × Int) := trustquorumref01_Of.l0 k 0 l0 (l0.length : Int) 0
set_option maxHeartbeats 8000000 in
set_option maxRecDepth 100000 in
theorem trustquorumref01_Of.calls (k : Nat) (A0 : Option Addr) (c0 : Nat) (l0 : List Int) (r1 : Int) (r2 : Int) (w : World) (hr0 : Kd.C (Kd.int .i64) w A0 l0.length l0) (hc0 : l0.length ≤ c0) (h : trustquorumref01_Of.f k l0 = some (r1, r2)) :
    Calls Try.prog 117 #[.slice A0 l0.length c0] w fun e w' => e = .returned (.tuple #[.int .i64 r1, .int .i64 r2]) ∧ Drawn0 w w' := by
 have HR0 := am hr0; have HC0 := am hc0; clear hr0 hc0; have H : (trustquorumref01_Of.l0 k 0 l0 (l0.length : Int) 0) = some (r1, r2) := h; clear h; have H' := am H; clear H
 go_enter Try.func117, Try.ntmps117
 go_wp2
 go_loopg [4, 9] k (fun kq v4 v9 w' => ∃ (x4_1 : Int) (x9_1 : Int), v4 = .int .i64 x4_1 ∧ v9 = .int .i64 x9_1 ∧ Aside0 (trustquorumref01_Of.l0 kq x4_1 l0 (l0.length : Int) x9_1 = some (r1, r2)) ∧ Aside0 (kq ≤ k) ∧ Drawn0 w w')
 case atStart => exact ⟨(0), (0), ar, ar, H', ⟨Nat.le_refl _⟩, by repeat (first | exact Drawn0.refl _ | apply Drawn0.step)⟩
 case round =>
  clear H'; (try clear c1); obtain ⟨x4_1, x9_1, rfl, rfl, HA, HK1, ⟨m1, rfl⟩⟩ := hrel
  cases gk with
  | zero => exact absurd HA.out (by simp [trustquorumref01_Of.l0])
  | succ k1 =>
   have H := HA.out; clear HA; simp only [trustquorumref01_Of.l0] at H
   by_cases c2 : x9_1 < (l0.length : Int)
   ·
    rw [if_pos c2] at H; have c2b0 : decide (x9_1 < (l0.length : Int)) = true := decide_eq_true c2; clear c2
    by_cases c3 : 0 ≤ x9_1
    ·
     rw [if_pos c3] at H; have c3b0 : decide (0 ≤ x9_1) = true := decide_eq_true c3; clear c3
     by_cases c4 : x9_1 < (l0.length : Int)
     ·
      rw [if_pos c4] at H; have c4b0 : decide (x9_1 < (l0.length : Int)) = true := decide_eq_true c4; clear c4; have HC5 := am H; clear H; have p168 : 0 ≤ (x9_1 : Int) := od; have q168 : x9_1 < (l0.length : Int) := od; obtain ⟨ad168, e168, hx168_0⟩ := Kd.at_int HR0.out x9_1 p168 q168
      cases e168
      replace p168 := eq_true p168; replace q168 := eq_true q168
      go_upto_region 5 with (fail)
      go_cut [18] (fun v18 wc => ∃ (kq : Nat) (x18_4 : Bool), v18 = .bool x18_4 ∧ Aside0 (trustquorumref01_Of.j1 kq x4_1 (rd l0 x9_1) l0 (l0.length : Int) x9_1 x18_4 = some (r1, r2)) ∧ Aside0 (kq ≤ k1) ∧ Drawn0 w wc)
      case first =>
       have H := HC5.out; clear HC5
       by_cases c6 : (rd l0 x9_1) < 0
       ·
        rw [if_pos c6] at H; have c6b0 : decide ((rd l0 x9_1) < 0) = true := decide_eq_true c6; clear c6; (first | rw [c6b0] | (simp only [i64_w, i32_w]; rw [c6b0]) | skip); have H' := am H; clear H
        go_wp2
        go_meet
        case rel => exact ⟨_, (true), ar, H', ⟨by have := HK1.out; first | omega | exact Nat.le_refl _⟩, by repeat (first | exact Drawn0.refl _ | apply Drawn0.step)⟩
       ·
        rw [if_neg c6] at H; have c6b0 : decide ((rd l0 x9_1) < 0) = false := decide_eq_false c6; clear c6; (first | rw [c6b0] | (simp only [i64_w, i32_w]; rw [c6b0]) | skip); have H' := am H; clear H
        go_wp2
        go_meet
        case rel => exact ⟨_, (decide ((rd l0 x9_1) ≥ 10)), ar, H', ⟨by have := HK1.out; first | omega | exact Nat.le_refl _⟩, by repeat (first | exact Drawn0.refl _ | apply Drawn0.step)⟩
      case rest =>
       clear HC5; (try clear c1); (try clear p1); (try clear q1); (try clear hx1); (try clear c2); (try clear c2b0); (try clear p2); (try clear c3); (try clear c3b0); (try clear c4); (try clear c4b0); (try clear c6); (try clear c6b0); (try clear p6); (try clear hx168_0); (try clear p168); (try clear q168); obtain ⟨kq, x18_4, rfl, HA, HJ4, ⟨mc4, rfl⟩⟩ := hcut
       cases kq with
       | zero => exact absurd HA.out (by simp [trustquorumref01_Of.j1])
       | succ kj4 =>
        have H := HA.out; clear HA; simp only [trustquorumref01_Of.j1] at H
        by_cases c7 : x18_4 = true
        ·
         subst c7; have H1 : (some (0, 5)) = some (r1, r2) := by rw [if_pos rfl] at H; exact H
         clear H; have H := H1; clear H1; simp only [Option.some.injEq, Prod.mk.injEq] at H; obtain ⟨rfl, rfl⟩ := H
         go_wp2
         go_ret2
         exact ⟨by first | rfl | (simp; done) | (simp [*]; done) | (refine congrArg (Value.int .i64) ?_; unfold wrap64; omega), by repeat (first | exact Drawn0.refl _ | apply Drawn0.step)⟩
        ·
         replace c7 := Bool.eq_false_iff.mpr c7; subst c7; have H1 : ((trustquorumref01_Has.f x4_1 (rd l0 x9_1)).bind fun t169 => (if t169 = true then (some (0, 6)) else (if 0 ≤ (rd l0 x9_1) then (trustquorumref01_Of.l0 kj4 (Go.bits .or .i64 x4_1 (shl .i64 1 (rd l0 x9_1))) l0 (l0.length : Int) (wrap64 (x9_1 + 1))) else (none)))) = some (r1, r2) := by rw [if_neg (show ¬ (false = true) by decide)] at H; exact H
         clear H; have H := H1; clear H1; replace H := Option.bind_eq_some_iff.mp H; obtain ⟨t169, A80, H⟩ := H; replace H : (if t169 = true then (some (0, 6)) else (if 0 ≤ (rd l0 x9_1) then (trustquorumref01_Of.l0 kj4 (Go.bits .or .i64 x4_1 (shl .i64 1 (rd l0 x9_1))) l0 (l0.length : Int) (wrap64 (x9_1 + 1))) else (none))) = some (r1, r2) := H; have A8 := am A80; clear A80
         by_cases c9 : t169 = true
         ·
          subst c9; have H1 : (some (0, 6)) = some (r1, r2) := by rw [if_pos rfl] at H; exact H
          clear H; have H := H1; clear H1; simp only [Option.some.injEq, Prod.mk.injEq] at H; obtain ⟨rfl, rfl⟩ := H
          go_wp2_with (first | (refine gA (some 21) Try.func18 #[.int .i64 x4_1, .int .i64 (rd l0 x9_1)] ?_; (with_reducible refine (trustquorumref01_Has.calls x4_1 (rd l0 x9_1) true _ A8.out).mono ?_); rintro e w' ⟨rfl, ⟨nd, rfl⟩⟩; refine ⟨_, rfl, ?_⟩))
          go_ret2
          exact ⟨by first | rfl | (simp; done) | (simp [*]; done) | (refine congrArg (Value.int .i64) ?_; unfold wrap64; omega), by repeat (first | exact Drawn0.refl _ | apply Drawn0.step)⟩
         ·
          replace c9 := Bool.eq_false_iff.mpr c9; subst c9; have H1 : (if 0 ≤ (rd l0 x9_1) then (trustquorumref01_Of.l0 kj4 (Go.bits .or .i64 x4_1 (shl .i64 1 (rd l0 x9_1))) l0 (l0.length : Int) (wrap64 (x9_1 + 1))) else (none)) = some (r1, r2) := by rw [if_neg (show ¬ (false = true) by decide)] at H; exact H
          clear H; have H := H1; clear H1
          by_cases c10 : 0 ≤ (rd l0 x9_1)
          ·
           rw [if_pos c10] at H; have c10b0 := eq_true c10; have c10b1 : decide (0 ≤ (rd l0 x9_1)) = true := decide_eq_true c10; clear c10; obtain ⟨ji11, hji11⟩ : ∃ j_ : Int, (shl .i64 1 (rd l0 x9_1)) = j_ := ⟨_, rfl⟩; replace H : (trustquorumref01_Of.l0 kj4 (Go.bits .or .i64 x4_1 (ji11)) l0 (l0.length : Int) (wrap64 (x9_1 + 1))) = some (r1, r2) := by first | (rw [hji11] at H; exact H) | (simp only [hji11] at H ⊢; exact H)
           (try rw [hji11] at A8); have hji11_ : (IntKind.i64.wrap (1 * 2 ^ min (rd l0 x9_1).toNat 64)) = ji11 := hji11; have hji11z : (rd l0 x9_1) ≤ 64 → (IntKind.i64.wrap (1 * 2 ^ (rd l0 x9_1).toNat)) = ji11 := shl_small hji11; have hji11u : (IntKind.i64.wrap (2 ^ min (rd l0 x9_1).toNat 64)) = ji11 := by have h_ := hji11_; rw [Int.one_mul] at h_; exact h_
           have hji11v : (rd l0 x9_1) ≤ 64 → (IntKind.i64.wrap (2 ^ (rd l0 x9_1).toNat)) = ji11 := fun hle_ => by have h_ := hji11z hle_; rw [Int.one_mul] at h_; exact h_
           have hji11y : (wrap64 (1 * 2 ^ min (rd l0 x9_1).toNat 64)) = ji11 := (i64_w _).symm.trans hji11_; have hji11x : (rd l0 x9_1) ≤ 64 → (wrap64 (1 * 2 ^ (rd l0 x9_1).toNat)) = ji11 := fun h_ => (i64_w _).symm.trans (hji11z h_); have H' := am H; clear H
           go_wp2_with (first | (refine gA (some 21) Try.func18 #[.int .i64 x4_1, .int .i64 (rd l0 x9_1)] ?_; (with_reducible refine (trustquorumref01_Has.calls x4_1 (rd l0 x9_1) false _ A8.out).mono ?_); rintro e w' ⟨rfl, ⟨nd, rfl⟩⟩; refine ⟨_, rfl, ?_⟩))
           go_roundg kj4
           case measure => have := HK1.out; have := HJ4.out; omega
           case rel => exact ⟨(Go.bits .or .i64 x4_1 (ji11)), (wrap64 (x9_1 + 1)), (by first | rfl | (simp; done) | (simp only [← hji11] <;> (first | rfl | simp)) | (simp [*]; done)), ar, H', ⟨by have := HK1.out; have := HJ4.out; omega⟩, by repeat (first | exact Drawn0.refl _ | apply Drawn0.step)⟩
          ·
           rw [if_neg c10] at H; exact absurd H (by simp)
     ·
      rw [if_neg c4] at H; exact absurd H (by simp)
    ·
     rw [if_neg c3] at H; exact absurd H (by simp)
   ·
    rw [if_neg c2] at H; have c2b0 : decide (x9_1 < (l0.length : Int)) = false := decide_eq_false c2; clear c2; simp only [Option.some.injEq, Prod.mk.injEq] at H; obtain ⟨rfl, rfl⟩ := H
    go_wp2
    go_ret2
    exact ⟨by first | rfl | (simp; done) | (simp [*]; done) | (refine congrArg (Value.int .i64) ?_; unfold wrap64; omega), by repeat (first | exact Drawn0.refl _ | apply Drawn0.step)⟩
/-! ### trustquorumref02_check: function 97 -/
mutual
def trustquorumref02_check.j0 : Nat → Bool → Int → List Int → List (S48) → Option (Int)
  | 0, _, _, _, _ => none
  | k + 1, x24, x171000, x171001, x171002 => if x24 = true then (some 4) else (trustquorumref02_check.l0 k x171001 (x171001.length : Int) 0 x171000 x171001 x171002)
def trustquorumref02_check.l0 : Nat → List Int → Int → Int → Int → List Int → List (S48) → Option (Int)
  | 0, _, _, _, _, _, _ => none
  | k + 1, x26, x27, x28, x171000, x171001, x171002 => if x28 < x27 then (if 0 ≤ x28 then (if x28 < (x26.length : Int) then (if (rd x26 x28) < 0 then (some 5) else (if (rd x26 x28) ≥ 10 then (some 5) else (trustquorumref02_check.l0 k x26 x27 (wrap64 (x28 + 1)) x171000 x171001 x171002))) else (none)) else (none)) else ((trustquorumref01_Of.f k x171001).bind fun bt172 => (if bt172.2 = 0 then (trustquorumref02_check.l1 k x171002 (x171002.length : Int) 0) else (some bt172.2)))
def trustquorumref02_check.l1 : Nat → List (S48) → Int → Int → Option (Int)
  | 0, _, _, _ => none
  | k + 1, x49, x50, x51 => if x51 < x50 then (if 0 ≤ x51 then (if x51 < (x49.length : Int) then ((trustquorumref02_check.f k ((rd_T48 x49 x51).f0) ((rd_T48 x49 x51).f1) ((rd_T48 x49 x51).f2)).bind fun t176 => (if t176 = 0 then (trustquorumref02_check.l1 k x49 x50 (wrap64 (x51 + 1))) else (some t176))) else (none)) else (none)) else (some 0)
def trustquorumref02_check.f : Nat → Int → List Int → List (S48) → Option (Int)
  | 0, _, _, _ => none
  | k + 1, a0_0, l0_1, l0_2 => if a0_0 < 1 then (trustquorumref02_check.j0 k true a0_0 l0_1 l0_2) else (trustquorumref02_check.j0 k (decide (a0_0 > (wrap64 ((l0_1.length : Int) + (l0_2.length : Int))))) a0_0 l0_1 l0_2)
end
set_option maxHeartbeats 8000000 in
set_option maxRecDepth 100000 in
theorem trustquorumref02_check.calls (k : Nat) : ∀ (a0_0 : Int) (A0_1 : Option Addr) (c0_1 : Nat) (l0_1 : List Int) (A0_2 : Option Addr) (c0_2 : Nat) (l0_2 : List (S48)) (r : Int) (w : World) (hr0_1 : Kd.C (Kd.int .i64) w A0_1 l0_1.length l0_1) (hc0_1 : l0_1.length ≤ c0_1) (hr0_2 : Kd.C k48 w A0_2 l0_2.length l0_2) (hc0_2 : l0_2.length ≤ c0_2) (h : trustquorumref02_check.f k a0_0 l0_1 l0_2 = some r),
    Calls Try.prog 97 #[.agg #[.int .i64 a0_0, .slice A0_1 l0_1.length c0_1, .slice A0_2 l0_2.length c0_2]] w fun e w' => e = .returned (.int .i64 r) ∧ Below w.heap.size w w' := by
 induction k using Nat.strongRecOn with
 | _ k ih =>
 intro a0_0 A0_1 c0_1 l0_1 A0_2 c0_2 l0_2 r w hr0_1 hc0_1 hr0_2 hc0_2 h
 cases k with
 | zero => exact absurd h (by simp [trustquorumref02_check.f])
 | succ k =>
 simp only [trustquorumref02_check.f] at h; have hu48 := Try.underlying48; have HR0_1 := am hr0_1; have HC0_1 := am hc0_1; clear hr0_1 hc0_1; have HR0_2 := am hr0_2; have HC0_2 := am hc0_2; clear hr0_2 hc0_2; have HB := am (Below.refl w.heap.size w); have H : (if a0_0 < 1 then (trustquorumref02_check.j0 k true a0_0 l0_1 l0_2) else (trustquorumref02_check.j0 k (decide (a0_0 > (wrap64 ((l0_1.length : Int) + (l0_2.length : Int))))) a0_0 l0_1 l0_2)) = some r := h; clear h; have HC2 := am H; clear H
 go_enter Try.func97, Try.ntmps97
 go_upto_region 1 with (first | ((with_reducible refine gate_dst (N := 1) rfl ?_); (try (refine gate_guard (by rfl) ?_; dsimp only)); refine box_event ?hg (N := 1) ?hd (cs := #[.int .i64 a0_0, .slice A0_1 l0_1.length c0_1, .slice A0_2 l0_2.length c0_2]) (t := 48) ?hr ?_; (case hd => rfl); (case hg => rfl); (case hr => first | (go_simp; done) | (go_simp; rfl)); intro gb170 hg w3 hbox hb; have BK170 := am (hbox); have GW170 := am ((by rw [hg]; exact (below_size HB.out) : w.heap.size ≤ gb170)); have GE170 := am ((by rw [hg]; exact (below_size HB.out) : w.heap.size ≤ gb170)); replace HB := bs HB hb; clear hb hg))
 (try simp only [Act.put, List.setIfInBounds_toArray, List.set_cons_zero, List.set_cons_succ])
 go_cut [24] (fun v24 wc => ∃ (kq : Nat) (x24_1 : Bool), v24 = .bool x24_1 ∧ Aside0 (trustquorumref02_check.j0 kq x24_1 a0_0 l0_1 l0_2 = some r) ∧ Aside0 (kq ≤ k) ∧ Aside0 (wc.heap[gb170]? = some (.cells #[.int .i64 a0_0, (.slice A0_1 l0_1.length c0_1), (.slice A0_2 l0_2.length c0_2)] 48 (0, 0))) ∧ Aside0 (Below w.heap.size w wc))
 case first =>
  have H := HC2.out; clear HC2
  by_cases c4 : a0_0 < 1
  ·
   rw [if_pos c4] at H; have c4b0 : decide (a0_0 < 1) = true := decide_eq_true c4; clear c4; (first | rw [c4b0] | (simp only [i64_w, i32_w]; rw [c4b0]) | skip); have H' := am H; clear H; obtain ⟨hcz5_0, hcz5_1, hcz5_2, hfz5_0, hfz5_1, hfz5_2⟩ := blkC3 BK170.out
   go_wp2
   go_meet
   case rel => exact ⟨_, (true), ar, H', ⟨by first | omega | exact Nat.le_refl _⟩, ⟨by exact BK170.out⟩, ⟨by exact HB.out⟩⟩
  ·
   rw [if_neg c4] at H; have c4b0 : decide (a0_0 < 1) = false := decide_eq_false c4; clear c4; (first | rw [c4b0] | (simp only [i64_w, i32_w]; rw [c4b0]) | skip); have H' := am H; clear H; obtain ⟨hcz6_0, hcz6_1, hcz6_2, hfz6_0, hfz6_1, hfz6_2⟩ := blkC3 BK170.out
   go_wp2
   go_meet
   case rel => exact ⟨_, (decide (a0_0 > (wrap64 ((l0_1.length : Int) + (l0_2.length : Int))))), ar, H', ⟨by first | omega | exact Nat.le_refl _⟩, ⟨by exact BK170.out⟩, ⟨by exact HB.out⟩⟩
 case rest =>
  clear HC2; (try clear p2); (try clear c4); (try clear c4b0); (try clear p6); (try clear hcz5_0 hcz5_1 hcz5_2); (try clear hcz6_0 hcz6_1 hcz6_2); (try clear hfz5_0 hfz5_1 hfz5_2); (try clear hfz6_0 hfz6_1 hfz6_2); obtain ⟨kq, x24_1, rfl, HA, HJ1, BK170, HB⟩ := hcut
  cases kq with
  | zero => exact absurd HA.out (by simp [trustquorumref02_check.j0])
  | succ kj1 =>
   have H := HA.out; clear HA; simp only [trustquorumref02_check.j0] at H
   by_cases c7 : x24_1 = true
   ·
    subst c7; have H1 : (some 4) = some r := by rw [if_pos rfl] at H; exact H
    clear H; have H := H1; clear H1; obtain rfl := Option.some.inj H
    go_wp2
    go_ret
    exact ⟨er, by exact HB.out⟩
   ·
    replace c7 := Bool.eq_false_iff.mpr c7; subst c7; have H1 : (trustquorumref02_check.l0 kj1 l0_1 (l0_1.length : Int) 0 a0_0 l0_1 l0_2) = some r := by rw [if_neg (show ¬ (false = true) by decide)] at H; exact H
    clear H; have H := H1; clear H1; have H' := am H; clear H; obtain ⟨hcz8_0, hcz8_1, hcz8_2, hfz8_0, hfz8_1, hfz8_2⟩ := blkC3 BK170.out
    go_wp2
    go_loopg [28] kj1 (fun kq v28 w' => ∃ (x28_2 : Int), v28 = .int .i64 x28_2 ∧ Aside0 (trustquorumref02_check.l0 kq l0_1 (l0_1.length : Int) x28_2 a0_0 l0_1 l0_2 = some r) ∧ Aside0 (kq ≤ kj1) ∧ Aside0 (w'.heap[gb170]? = some (.cells #[.int .i64 a0_0, (.slice A0_1 l0_1.length c0_1), (.slice A0_2 l0_2.length c0_2)] 48 (0, 0))) ∧ Aside0 (Below w.heap.size w w'))
    case atStart => exact ⟨(0), ar, H', ⟨Nat.le_refl _⟩, ⟨by exact BK170.out⟩, ⟨by exact HB.out⟩⟩
    case round =>
     clear H'; (try clear p2); (try clear c4); (try clear c4b0); (try clear p6); (try clear c7); (try clear hcz5_0 hcz5_1 hcz5_2); (try clear hcz6_0 hcz6_1 hcz6_2); (try clear hcz8_0 hcz8_1 hcz8_2); (try clear hfz5_0 hfz5_1 hfz5_2); (try clear hfz6_0 hfz6_1 hfz6_2); (try clear hfz8_0 hfz8_1 hfz8_2); (try clear p2); (try clear p6); obtain ⟨x28_2, rfl, HA, HK2, BK170, HB⟩ := hrel
     cases gk with
     | zero => exact absurd HA.out (by simp [trustquorumref02_check.l0])
     | succ k2 =>
      have H := HA.out; clear HA; simp only [trustquorumref02_check.l0] at H
      by_cases c9 : x28_2 < (l0_1.length : Int)
      ·
       rw [if_pos c9] at H; have c9b0 : decide (x28_2 < (l0_1.length : Int)) = true := decide_eq_true c9; clear c9
       by_cases c10 : 0 ≤ x28_2
       ·
        rw [if_pos c10] at H; have c10b0 : decide (0 ≤ x28_2) = true := decide_eq_true c10; clear c10
        by_cases c11 : x28_2 < (l0_1.length : Int)
        ·
         rw [if_pos c11] at H; have c11b0 : decide (x28_2 < (l0_1.length : Int)) = true := decide_eq_true c11; clear c11
         by_cases c12 : (rd l0_1 x28_2) < 0
         ·
          rw [if_pos c12] at H; have c12b0 : decide ((rd l0_1 x28_2) < 0) = true := decide_eq_true c12; clear c12; obtain rfl := Option.some.inj H; have p171 : 0 ≤ (x28_2 : Int) := od; have q171 : x28_2 < (l0_1.length : Int) := od; obtain ⟨ad171, e171, hx171_0⟩ := Kd.at_int HR0_1.out x28_2 p171 q171
          cases e171
          replace hx171_0 := (HB.out.cell (World.block_lt_of_cell? w _ hx171_0)).trans hx171_0; replace p171 := eq_true p171; replace q171 := eq_true q171
          go_wp2
          go_ret
          exact ⟨er, by exact HB.out⟩
         ·
          rw [if_neg c12] at H; have c12b0 : decide ((rd l0_1 x28_2) < 0) = false := decide_eq_false c12; clear c12
          by_cases c13 : (rd l0_1 x28_2) ≥ 10
          ·
           rw [if_pos c13] at H; have c13b0 : decide (10 ≤ (rd l0_1 x28_2)) = true := decide_eq_true c13; clear c13; obtain rfl := Option.some.inj H; have p171 : 0 ≤ (x28_2 : Int) := od; have q171 : x28_2 < (l0_1.length : Int) := od; obtain ⟨ad171, e171, hx171_0⟩ := Kd.at_int HR0_1.out x28_2 p171 q171
           cases e171
           replace hx171_0 := (HB.out.cell (World.block_lt_of_cell? w _ hx171_0)).trans hx171_0; replace p171 := eq_true p171; replace q171 := eq_true q171
           go_wp2
           go_ret
           exact ⟨er, by exact HB.out⟩
          ·
           rw [if_neg c13] at H; have c13b0 : decide (10 ≤ (rd l0_1 x28_2)) = false := decide_eq_false c13; clear c13; have H' := am H; clear H; have p171 : 0 ≤ (x28_2 : Int) := od; have q171 : x28_2 < (l0_1.length : Int) := od; obtain ⟨ad171, e171, hx171_0⟩ := Kd.at_int HR0_1.out x28_2 p171 q171
           cases e171
           replace hx171_0 := (HB.out.cell (World.block_lt_of_cell? w _ hx171_0)).trans hx171_0; replace p171 := eq_true p171; replace q171 := eq_true q171
           go_wp2
           go_roundg k2
           case measure => have := HJ1.out; have := HK2.out; omega
           case rel => exact ⟨(wrap64 (x28_2 + 1)), ar, H', ⟨by have := HJ1.out; have := HK2.out; omega⟩, ⟨by exact BK170.out⟩, ⟨by exact HB.out⟩⟩
        ·
         rw [if_neg c11] at H; exact absurd H (by simp)
       ·
        rw [if_neg c10] at H; exact absurd H (by simp)
      ·
       rw [if_neg c9] at H; have c9b0 : decide (x28_2 < (l0_1.length : Int)) = false := decide_eq_false c9; clear c9; replace H := Option.bind_eq_some_iff.mp H; obtain ⟨⟨t172, t173⟩, A140, H⟩ := H; replace H : (if t173 = 0 then (trustquorumref02_check.l1 k2 l0_2 (l0_2.length : Int) 0) else (some t173)) = some r := H; have A14 := am A140; clear A140
       by_cases c15 : t173 = 0
       ·
        rw [if_pos c15] at H; have c15b0 : (t173 == 0) = true := beq_iff_eq.mpr c15; have c15b1 : (t173 != 0) = false := bne_eq_false_iff_eq.mpr c15; clear c15; have H' := am H; clear H; obtain ⟨hcz16_0, hcz16_1, hcz16_2, hfz16_0, hfz16_1, hfz16_2⟩ := blkC3 BK170.out
        go_wp2_with (first | (refine gA (some 42) Try.func117 #[.slice A0_1 l0_1.length c0_1] ?_; (with_reducible refine (trustquorumref01_Of.calls k2 _ _ l0_1 t172 t173 _ (Kd.C_below HR0_1.out HB.out) HC0_1.out A14.out).mono ?_); rintro e w' ⟨rfl, ⟨nd, rfl⟩⟩; refine ⟨_, rfl, ?_⟩))
        go_loopg [51] k2 (fun kq v51 w' => ∃ (x51_3 : Int), v51 = .int .i64 x51_3 ∧ Aside0 (trustquorumref02_check.l1 kq l0_2 (l0_2.length : Int) x51_3 = some r) ∧ Aside0 (kq ≤ k2) ∧ Aside0 (Below w.heap.size w w'))
        case atStart => exact ⟨(0), ar, H', ⟨Nat.le_refl _⟩, ⟨cl0⟩⟩
        case round =>
         clear H'; (try clear c1); (try clear p1); (try clear q1); (try clear hx1); (try clear p2); (try clear c4); (try clear c4b0); (try clear p6); (try clear c7); (try clear c9); (try clear c9b0); (try clear c10); (try clear c10b0); (try clear c11); (try clear c11b0); (try clear c12); (try clear c12b0); (try clear c13); (try clear c13b0); (try clear c15); (try clear c15b0); (try clear c15b1); (try clear hcz16_0 hcz16_1 hcz16_2); (try clear hcz5_0 hcz5_1 hcz5_2); (try clear hcz6_0 hcz6_1 hcz6_2); (try clear hcz8_0 hcz8_1 hcz8_2); (try clear hfz16_0 hfz16_1 hfz16_2); (try clear hfz5_0 hfz5_1 hfz5_2); (try clear hfz6_0 hfz6_1 hfz6_2); (try clear hfz8_0 hfz8_1 hfz8_2); (try clear hx171_0); (try clear p171); (try clear p2); (try clear p6); (try clear q171); obtain ⟨x51_3, rfl, HA, HK3, HB⟩ := hrel
         cases gk with
         | zero => exact absurd HA.out (by simp [trustquorumref02_check.l1])
         | succ k3 =>
          have H := HA.out; clear HA; simp only [trustquorumref02_check.l1] at H
          by_cases c17 : x51_3 < (l0_2.length : Int)
          ·
           rw [if_pos c17] at H; have c17b0 : decide (x51_3 < (l0_2.length : Int)) = true := decide_eq_true c17; clear c17
           by_cases c18 : 0 ≤ x51_3
           ·
            rw [if_pos c18] at H; have c18b0 : decide (0 ≤ x51_3) = true := decide_eq_true c18; clear c18
            by_cases c19 : x51_3 < (l0_2.length : Int)
            ·
             rw [if_pos c19] at H; have c19b0 : decide (x51_3 < (l0_2.length : Int)) = true := decide_eq_true c19; clear c19; replace H := Option.bind_eq_some_iff.mp H; obtain ⟨t176, A200, H⟩ := H; replace H : (if t176 = 0 then (trustquorumref02_check.l1 k3 l0_2 (l0_2.length : Int) (wrap64 (x51_3 + 1))) else (some t176)) = some r := H; have A20 := am A200; clear A200
             by_cases c21 : t176 = 0
             ·
              rw [if_pos c21] at H; have c21b0 : (t176 == 0) = true := beq_iff_eq.mpr c21; have c21b1 : (t176 != 0) = false := bne_eq_false_iff_eq.mpr c21; clear c21; have H' := am H; clear H; have p174 : 0 ≤ (x51_3 : Int) := od; have q174 : x51_3 < (l0_2.length : Int) := od; obtain ⟨ad174, A174_1, c174_1, A174_2, c174_2, e174, hx174_0, hx174_1, hx174_2, hl174_1, hi174_1, hl174_2, hi174_2⟩ := at_T48 HR0_2.out x51_3 p174 q174
              cases e174
              replace hx174_0 := (HB.out.cell (World.block_lt_of_cell? w _ hx174_0)).trans hx174_0; replace hx174_1 := (HB.out.cell (World.block_lt_of_cell? w _ hx174_1)).trans hx174_1; replace hx174_2 := (HB.out.cell (World.block_lt_of_cell? w _ hx174_2)).trans hx174_2; have HR174_1 := am hi174_1; have HC174_1 := am hl174_1; clear hi174_1 hl174_1; have HR174_2 := am hi174_2; have HC174_2 := am hl174_2; clear hi174_2 hl174_2; replace p174 := eq_true p174; replace q174 := eq_true q174
              go_wp2_with (first | ((with_reducible refine gate_dst (N := 8) rfl ?_); (try (refine gate_guard (by rfl) ?_; dsimp only)); refine box_event ?hg (N := 8) ?hd (cs := #[.int .i64 0, .slice none 0 0, .slice none 0 0]) (t := 48) ?hr ?_; (case hd => rfl); (case hg => rfl); (case hr => first | (go_simp; done) | (go_simp; rfl)); intro gb175 hg w22 hbox hb; have BK175 := am (hbox); have GW175 := am ((by rw [hg]; exact (below_size HB.out) : w.heap.size ≤ gb175)); have GE175 := am ((by rw [hg]; exact (below_size HB.out) : w.heap.size ≤ gb175)); replace HB := bs HB hb; clear hb hg; obtain ⟨hcz23_0, hcz23_1, hcz23_2, hfz23_0, hfz23_1, hfz23_2⟩ := blkC3 BK175.out) | (refine gA (some 56) Try.func97 #[.agg #[.int .i64 ((rd_T48 l0_2 x51_3).f0), .slice A174_1 ((rd_T48 l0_2 x51_3).f1).length c174_1, .slice A174_2 ((rd_T48 l0_2 x51_3).f2).length c174_2]] ?_; (with_reducible refine (ih k3 (by have := HJ1.out; have := HK2.out; have := HK3.out; omega) ((rd_T48 l0_2 x51_3).f0) _ _ ((rd_T48 l0_2 x51_3).f1) _ _ ((rd_T48 l0_2 x51_3).f2) t176 _ (Kd.C_below HR174_1.out cl0) HC174_1.out (Kd.C_below HR174_2.out cl0) HC174_2.out A20.out).mono ?_); rintro e w24 ⟨rfl, hb⟩; refine ⟨_, rfl, ?_⟩; replace BK175 := am (blk_below (g := gb175) (o := .cells #[.int .i64 ((rd_T48 l0_2 x51_3).f0), .slice A174_1 ((rd_T48 l0_2 x51_3).f1).length c174_1, .slice A174_2 ((rd_T48 l0_2 x51_3).f2).length c174_2] 48 (0, 0)) bo hb); replace HB := am (below_step (kw HB cl0) hb); (try clear hb); (try clear hi)))
              go_roundg k3
              case measure => have := HJ1.out; have := HK2.out; have := HK3.out; omega
              case rel => exact ⟨(wrap64 (x51_3 + 1)), ar, H', ⟨by have := HJ1.out; have := HK2.out; have := HK3.out; omega⟩, ⟨by exact HB.out⟩⟩
             ·
              rw [if_neg c21] at H; have c21b0 : (t176 == 0) = false := beq_eq_false_iff_ne.mpr c21; have c21b1 : (t176 != 0) = true := bne_iff_ne.mpr c21; obtain rfl := Option.some.inj H; have p174 : 0 ≤ (x51_3 : Int) := od; have q174 : x51_3 < (l0_2.length : Int) := od; obtain ⟨ad174, A174_1, c174_1, A174_2, c174_2, e174, hx174_0, hx174_1, hx174_2, hl174_1, hi174_1, hl174_2, hi174_2⟩ := at_T48 HR0_2.out x51_3 p174 q174
              cases e174
              replace hx174_0 := (HB.out.cell (World.block_lt_of_cell? w _ hx174_0)).trans hx174_0; replace hx174_1 := (HB.out.cell (World.block_lt_of_cell? w _ hx174_1)).trans hx174_1; replace hx174_2 := (HB.out.cell (World.block_lt_of_cell? w _ hx174_2)).trans hx174_2; have HR174_1 := am hi174_1; have HC174_1 := am hl174_1; clear hi174_1 hl174_1; have HR174_2 := am hi174_2; have HC174_2 := am hl174_2; clear hi174_2 hl174_2; replace p174 := eq_true p174; replace q174 := eq_true q174
              go_wp2_with (first | ((with_reducible refine gate_dst (N := 8) rfl ?_); (try (refine gate_guard (by rfl) ?_; dsimp only)); refine box_event ?hg (N := 8) ?hd (cs := #[.int .i64 0, .slice none 0 0, .slice none 0 0]) (t := 48) ?hr ?_; (case hd => rfl); (case hg => rfl); (case hr => first | (go_simp; done) | (go_simp; rfl)); intro gb175 hg w25 hbox hb; have BK175 := am (hbox); have GW175 := am ((by rw [hg]; exact (below_size HB.out) : w.heap.size ≤ gb175)); have GE175 := am ((by rw [hg]; exact (below_size HB.out) : w.heap.size ≤ gb175)); replace HB := bs HB hb; clear hb hg; obtain ⟨hcz26_0, hcz26_1, hcz26_2, hfz26_0, hfz26_1, hfz26_2⟩ := blkC3 BK175.out) | (refine gA (some 56) Try.func97 #[.agg #[.int .i64 ((rd_T48 l0_2 x51_3).f0), .slice A174_1 ((rd_T48 l0_2 x51_3).f1).length c174_1, .slice A174_2 ((rd_T48 l0_2 x51_3).f2).length c174_2]] ?_; (with_reducible refine (ih k3 (by have := HJ1.out; have := HK2.out; have := HK3.out; omega) ((rd_T48 l0_2 x51_3).f0) _ _ ((rd_T48 l0_2 x51_3).f1) _ _ ((rd_T48 l0_2 x51_3).f2) t176 _ (Kd.C_below HR174_1.out cl0) HC174_1.out (Kd.C_below HR174_2.out cl0) HC174_2.out A20.out).mono ?_); rintro e w27 ⟨rfl, hb⟩; refine ⟨_, rfl, ?_⟩; replace BK175 := am (blk_below (g := gb175) (o := .cells #[.int .i64 ((rd_T48 l0_2 x51_3).f0), .slice A174_1 ((rd_T48 l0_2 x51_3).f1).length c174_1, .slice A174_2 ((rd_T48 l0_2 x51_3).f2).length c174_2] 48 (0, 0)) bo hb); replace HB := am (below_step (kw HB cl0) hb); (try clear hb); (try clear hi)))
              go_ret
              exact ⟨er, by exact HB.out⟩
            ·
             rw [if_neg c19] at H; exact absurd H (by simp)
           ·
            rw [if_neg c18] at H; exact absurd H (by simp)
          ·
           rw [if_neg c17] at H; have c17b0 : decide (x51_3 < (l0_2.length : Int)) = false := decide_eq_false c17; clear c17; obtain rfl := Option.some.inj H
           go_wp2
           go_ret
           exact ⟨er, by exact HB.out⟩
       ·
        rw [if_neg c15] at H; have c15b0 : (t173 == 0) = false := beq_eq_false_iff_ne.mpr c15; have c15b1 : (t173 != 0) = true := bne_iff_ne.mpr c15; obtain rfl := Option.some.inj H; obtain ⟨hcz28_0, hcz28_1, hcz28_2, hfz28_0, hfz28_1, hfz28_2⟩ := blkC3 BK170.out
        go_wp2_with (first | (refine gA (some 42) Try.func117 #[.slice A0_1 l0_1.length c0_1] ?_; (with_reducible refine (trustquorumref01_Of.calls k2 _ _ l0_1 t172 t173 _ (Kd.C_below HR0_1.out HB.out) HC0_1.out A14.out).mono ?_); rintro e w' ⟨rfl, ⟨nd, rfl⟩⟩; refine ⟨_, rfl, ?_⟩))
        go_ret
        exact ⟨er, cl0⟩
/-! ### trustquorumref02_Valid: function 63 -/
def trustquorumref02_Valid.f (k : Nat) (a0_0 : Int) (l0_1 : List Int) (l0_2 : List (S48)) : Option (Int) := (trustquorumref02_Depth.f k a0_0 l0_1 l0_2).bind fun t178 => (if t178 > 4 then (some 3) else ((trustquorumref02_Size.f k a0_0 l0_1 l0_2).bind fun t179 => (if t179 > 200 then (some 3) else ((trustquorumref02_check.f k a0_0 l0_1 l0_2).bind fun t180 => (some t180)))))
set_option maxHeartbeats 8000000 in
set_option maxRecDepth 100000 in
theorem trustquorumref02_Valid.calls (k : Nat) (a0_0 : Int) (A0_1 : Option Addr) (c0_1 : Nat) (l0_1 : List Int) (A0_2 : Option Addr) (c0_2 : Nat) (l0_2 : List (S48)) (r : Int) (w : World) (hr0_1 : Kd.C (Kd.int .i64) w A0_1 l0_1.length l0_1) (hc0_1 : l0_1.length ≤ c0_1) (hr0_2 : Kd.C k48 w A0_2 l0_2.length l0_2) (hc0_2 : l0_2.length ≤ c0_2) (h : trustquorumref02_Valid.f k a0_0 l0_1 l0_2 = some r) :
    Calls Try.prog 63 #[.agg #[.int .i64 a0_0, .slice A0_1 l0_1.length c0_1, .slice A0_2 l0_2.length c0_2]] w fun e w' => e = .returned (.int .i64 r) ∧ Below w.heap.size w w' := by
 have hu48 := Try.underlying48; have HR0_1 := am hr0_1; have HC0_1 := am hc0_1; clear hr0_1 hc0_1; have HR0_2 := am hr0_2; have HC0_2 := am hc0_2; clear hr0_2 hc0_2; have HB := am (Below.refl w.heap.size w); have H : ((trustquorumref02_Depth.f k a0_0 l0_1 l0_2).bind fun t178 => (if t178 > 4 then (some 3) else ((trustquorumref02_Size.f k a0_0 l0_1 l0_2).bind fun t179 => (if t179 > 200 then (some 3) else ((trustquorumref02_check.f k a0_0 l0_1 l0_2).bind fun t180 => (some t180)))))) = some r := h; clear h; replace H := Option.bind_eq_some_iff.mp H; obtain ⟨t178, A20, H⟩ := H; replace H : (if t178 > 4 then (some 3) else ((trustquorumref02_Size.f k a0_0 l0_1 l0_2).bind fun t179 => (if t179 > 200 then (some 3) else ((trustquorumref02_check.f k a0_0 l0_1 l0_2).bind fun t180 => (some t180))))) = some r := H; have A2 := am A20; clear A20
 by_cases c3 : t178 > 4
 ·
  rw [if_pos c3] at H; have c3b0 : decide (4 < t178) = true := decide_eq_true c3; clear c3; obtain rfl := Option.some.inj H
  go_enter Try.func63, Try.ntmps63
  go_wp2_with (first | (refine bx 1 #[.int .i64 a0_0, .slice A0_1 l0_1.length c0_1, .slice A0_2 l0_2.length c0_2] 48 HB.out ?_; intro gb177 hg w4 BK177 GE177 hb; replace HB := bs HB hb; clear hb hg; obtain ⟨hcz5_0, hcz5_1, hcz5_2, hfz5_0, hfz5_1, hfz5_2⟩ := blkC3 BK177.out) | (refine gA (some 4) Try.func95 #[.agg #[.int .i64 a0_0, .slice A0_1 l0_1.length c0_1, .slice A0_2 l0_2.length c0_2]] ?_; (with_reducible refine (trustquorumref02_Depth.calls k a0_0 _ _ l0_1 _ _ l0_2 t178 _ (Kd.C_below HR0_1.out HB.out) HC0_1.out (Kd.C_below HR0_2.out HB.out) HC0_2.out A2.out).mono ?_); rintro e w6 ⟨rfl, hb⟩; refine ⟨_, rfl, ?_⟩; replace BK177 := bb BK177 hb; replace HB := bs HB hb; (try clear hb); (try clear hi)))
  go_ret
  exact ⟨er, by exact HB.out⟩
 ·
  rw [if_neg c3] at H; have c3b0 : decide (4 < t178) = false := decide_eq_false c3; clear c3; replace H := Option.bind_eq_some_iff.mp H; obtain ⟨t179, A70, H⟩ := H; replace H : (if t179 > 200 then (some 3) else ((trustquorumref02_check.f k a0_0 l0_1 l0_2).bind fun t180 => (some t180))) = some r := H; have A7 := am A70; clear A70
  by_cases c8 : t179 > 200
  ·
   rw [if_pos c8] at H; have c8b0 : decide (200 < t179) = true := decide_eq_true c8; clear c8; obtain rfl := Option.some.inj H
   go_enter Try.func63, Try.ntmps63
   go_wp2_with (first | (refine bx 1 #[.int .i64 a0_0, .slice A0_1 l0_1.length c0_1, .slice A0_2 l0_2.length c0_2] 48 HB.out ?_; intro gb177 hg w9 BK177 GE177 hb; replace HB := bs HB hb; clear hb hg; obtain ⟨hcz10_0, hcz10_1, hcz10_2, hfz10_0, hfz10_1, hfz10_2⟩ := blkC3 BK177.out) | (refine gA (some 4) Try.func95 #[.agg #[.int .i64 a0_0, .slice A0_1 l0_1.length c0_1, .slice A0_2 l0_2.length c0_2]] ?_; (with_reducible refine (trustquorumref02_Depth.calls k a0_0 _ _ l0_1 _ _ l0_2 t178 _ (Kd.C_below HR0_1.out HB.out) HC0_1.out (Kd.C_below HR0_2.out HB.out) HC0_2.out A2.out).mono ?_); rintro e w11 ⟨rfl, hb⟩; refine ⟨_, rfl, ?_⟩; replace BK177 := bb BK177 hb; replace HB := bs HB hb; (try clear hb); obtain ⟨hcz12_0, hcz12_1, hcz12_2, hfz12_0, hfz12_1, hfz12_2⟩ := blkC3 BK177.out) | (go_at_call 96; (with_reducible refine (trustquorumref02_Size.calls k a0_0 _ _ l0_1 _ _ l0_2 t179 _ (Kd.C_below HR0_1.out HB.out) HC0_1.out (Kd.C_below HR0_2.out HB.out) HC0_2.out A7.out).mono ?_); rintro e w13 ⟨rfl, hb⟩; replace BK177 := bb BK177 hb; replace HB := bs HB hb; (try clear hb); (try clear hb2); (try clear hk); (try clear hi)))
   go_ret
   exact ⟨er, by exact HB.out⟩
  ·
   rw [if_neg c8] at H; have c8b0 : decide (200 < t179) = false := decide_eq_false c8; clear c8; replace H := Option.bind_eq_some_iff.mp H; obtain ⟨t180, A140, H⟩ := H; replace H : (some t180) = some r := H; have A14 := am A140; clear A140; obtain rfl := Option.some.inj H
   go_enter Try.func63, Try.ntmps63
   go_wp2_with (first | (refine bx 1 #[.int .i64 a0_0, .slice A0_1 l0_1.length c0_1, .slice A0_2 l0_2.length c0_2] 48 HB.out ?_; intro gb177 hg w15 BK177 GE177 hb; replace HB := bs HB hb; clear hb hg; obtain ⟨hcz16_0, hcz16_1, hcz16_2, hfz16_0, hfz16_1, hfz16_2⟩ := blkC3 BK177.out) | (refine gA (some 4) Try.func95 #[.agg #[.int .i64 a0_0, .slice A0_1 l0_1.length c0_1, .slice A0_2 l0_2.length c0_2]] ?_; (with_reducible refine (trustquorumref02_Depth.calls k a0_0 _ _ l0_1 _ _ l0_2 t178 _ (Kd.C_below HR0_1.out HB.out) HC0_1.out (Kd.C_below HR0_2.out HB.out) HC0_2.out A2.out).mono ?_); rintro e w17 ⟨rfl, hb⟩; refine ⟨_, rfl, ?_⟩; replace BK177 := bb BK177 hb; replace HB := bs HB hb; (try clear hb); obtain ⟨hcz18_0, hcz18_1, hcz18_2, hfz18_0, hfz18_1, hfz18_2⟩ := blkC3 BK177.out) | (go_at_call 96; (with_reducible refine (trustquorumref02_Size.calls k a0_0 _ _ l0_1 _ _ l0_2 t179 _ (Kd.C_below HR0_1.out HB.out) HC0_1.out (Kd.C_below HR0_2.out HB.out) HC0_2.out A7.out).mono ?_); rintro e w19 ⟨rfl, hb⟩; replace BK177 := bb BK177 hb; replace HB := bs HB hb; (try clear hb); (try clear hb2); (try clear hk); (try clear hi); obtain ⟨hcz20_0, hcz20_1, hcz20_2, hfz20_0, hfz20_1, hfz20_2⟩ := blkC3 BK177.out) | (refine gA (some 12) Try.func97 #[.agg #[.int .i64 a0_0, .slice A0_1 l0_1.length c0_1, .slice A0_2 l0_2.length c0_2]] ?_; (with_reducible refine (trustquorumref02_check.calls k a0_0 _ _ l0_1 _ _ l0_2 t180 _ (Kd.C_below HR0_1.out HB.out) HC0_1.out (Kd.C_below HR0_2.out HB.out) HC0_2.out A14.out).mono ?_); rintro e w21 ⟨rfl, hb⟩; refine ⟨_, rfl, ?_⟩; replace BK177 := bb BK177 hb; replace HB := bs HB hb; (try clear hb); (try clear hi)))
   go_ret
   exact ⟨er, by exact HB.out⟩
end Go.Proofs.Ytmeamdklonmahaa.QFederatedSafe
