/- Lean functions that answer as the Go functions do which the law reaches, and proofs that the Go code comes to exactly these answers. Conditions: those that each theorem names. -/
import Derived.Test.YtkiebhjbnnnikaaQAmountExactx0
import Derived.Test.YtkiebhjbnnnikaaQAmountExactx1
import Derived.Test.YtkiebhjbnnnikaaQAmountExactx3
import Derived.Test.YtkiebhjbnnnikaaQAmountExactx4
namespace Go.Proofs.Ytkiebhjbnnnikaa.QAmountExact
open Go.RowKit Go.Proofs.YtkiebhjbnnnikaaW.PrintWords Go.Proofs.YtkiebhjbnnnikaaW.PrintLast Go.Proofs.YtkiebhjbnnnikaaW.PrintMore
attribute [local go_sem] max2_int min2_int max_two min_two max_three min_three max_four min_four   -- for this text's walks alone
set_option linter.unusedVariables false
set_option linter.unusedSimpArgs false

attribute [local go_sem high] eqA38
/-! ### trustquorumref35_Down: function 30 -/
def trustquorumref35_Down.f (a0 : Int) (a1 : Int) (a2 : Int) : Option (Int × Int) := (trustquorumref35_Valid.f a0).bind fun t191 => (if t191 = true then ((trustquorumref35_Price.f a1 a2).bind fun t192 => (if t192 = true then (if a2 = 0 then (none) else ((trustquorumref35_Valid.f (wrap64 (Int.tdiv (wrap64 (a0 * a1)) a2))).bind fun t193 => (if t193 = true then (some (wrap64 (Int.tdiv (wrap64 (a0 * a1)) a2), 0)) else (some (0, 65))))) else (some (0, 65)))) else (some (0, 65)))
set_option maxHeartbeats 8000000 in
set_option maxRecDepth 100000 in
theorem trustquorumref35_Down.calls (a0 : Int) (a1 : Int) (a2 : Int) (r1 : Int) (r2 : Int) (w : World) (h : trustquorumref35_Down.f a0 a1 a2 = some (r1, r2)) :
    Calls Try.prog 30 #[.int .i64 a0, .int .i64 a1, .int .i64 a2] w fun e w' => e = .returned (.tuple #[.int .i64 r1, .int .i64 r2]) ∧ Drawn0 w w' := by
  have H : ((trustquorumref35_Valid.f a0).bind fun t191 => (if t191 = true then ((trustquorumref35_Price.f a1 a2).bind fun t192 => (if t192 = true then (if a2 = 0 then (none) else ((trustquorumref35_Valid.f (wrap64 (Int.tdiv (wrap64 (a0 * a1)) a2))).bind fun t193 => (if t193 = true then (some (wrap64 (Int.tdiv (wrap64 (a0 * a1)) a2), 0)) else (some (0, 65))))) else (some (0, 65)))) else (some (0, 65)))) = some (r1, r2) := h
  clear h
  replace H := Option.bind_eq_some_iff.mp H
  obtain ⟨t191, A40, H⟩ := H
  replace H : (if t191 = true then ((trustquorumref35_Price.f a1 a2).bind fun t192 => (if t192 = true then (if a2 = 0 then (none) else ((trustquorumref35_Valid.f (wrap64 (Int.tdiv (wrap64 (a0 * a1)) a2))).bind fun t193 => (if t193 = true then (some (wrap64 (Int.tdiv (wrap64 (a0 * a1)) a2), 0)) else (some (0, 65))))) else (some (0, 65)))) else (some (0, 65))) = some (r1, r2) := H
  have A4 := Aside0.mk A40
  clear A40
  by_cases c5 : t191 = true
  · subst c5
    have H1 : ((trustquorumref35_Price.f a1 a2).bind fun t192 => (if t192 = true then (if a2 = 0 then (none) else ((trustquorumref35_Valid.f (wrap64 (Int.tdiv (wrap64 (a0 * a1)) a2))).bind fun t193 => (if t193 = true then (some (wrap64 (Int.tdiv (wrap64 (a0 * a1)) a2), 0)) else (some (0, 65))))) else (some (0, 65)))) = some (r1, r2) := by rw [if_pos rfl] at H; exact H
    clear H
    have H := H1
    clear H1
    replace H := Option.bind_eq_some_iff.mp H
    obtain ⟨t192, A60, H⟩ := H
    replace H : (if t192 = true then (if a2 = 0 then (none) else ((trustquorumref35_Valid.f (wrap64 (Int.tdiv (wrap64 (a0 * a1)) a2))).bind fun t193 => (if t193 = true then (some (wrap64 (Int.tdiv (wrap64 (a0 * a1)) a2), 0)) else (some (0, 65))))) else (some (0, 65))) = some (r1, r2) := H
    have A6 := Aside0.mk A60
    clear A60
    by_cases c7 : t192 = true
    · subst c7
      have H1 : (if a2 = 0 then (none) else ((trustquorumref35_Valid.f (wrap64 (Int.tdiv (wrap64 (a0 * a1)) a2))).bind fun t193 => (if t193 = true then (some (wrap64 (Int.tdiv (wrap64 (a0 * a1)) a2), 0)) else (some (0, 65))))) = some (r1, r2) := by rw [if_pos rfl] at H; exact H
      clear H
      have H := H1
      clear H1
      by_cases c8 : a2 = 0
      · rw [if_pos c8] at H
        exact absurd H (by simp)
      · rw [if_neg c8] at H
        have c8b0 : (a2 == 0) = false := beq_eq_false_iff_ne.mpr c8
        have c8b1 : (a2 != 0) = true := bne_iff_ne.mpr c8
        replace H := Option.bind_eq_some_iff.mp H
        obtain ⟨t193, A90, H⟩ := H
        replace H : (if t193 = true then (some (wrap64 (Int.tdiv (wrap64 (a0 * a1)) a2), 0)) else (some (0, 65))) = some (r1, r2) := H
        have A9 := Aside0.mk A90
        clear A90
        by_cases c10 : t193 = true
        · subst c10
          have H1 : (some (wrap64 (Int.tdiv (wrap64 (a0 * a1)) a2), 0)) = some (r1, r2) := by rw [if_pos rfl] at H; exact H
          clear H
          have H := H1
          clear H1
          simp only [Option.some.injEq, Prod.mk.injEq] at H
          obtain ⟨rfl, rfl⟩ := H
          go_enter Try.func30, Try.ntmps30
          go_wp2_with (first | ((with_reducible refine gate_callee (f := 24) rfl ?_); refine goesL_ (some 9) rfl rfl Try.func24 (by kernel_rfl) rfl #[.int .i64 a0] rfl (by (try simp only [List.map_toArray, List.map_cons, List.map_nil]); first | done | rfl | (simp only [List.length_drop, List.length_take]; rfl)) ?_; (with_reducible refine (trustquorumref35_Valid.calls a0 true _ A4.out).mono ?_); rintro e w' ⟨rfl, ⟨nd, rfl⟩⟩; refine ⟨_, rfl, ?_⟩) | (go_at_call 26; (with_reducible refine (trustquorumref35_Price.calls a1 a2 true _ A6.out).mono ?_); rintro e w' ⟨rfl, ⟨nd, rfl⟩⟩) | (go_at_call 24; (with_reducible refine (trustquorumref35_Valid.calls (wrap64 (Int.tdiv (wrap64 (a0 * a1)) a2)) true _ A9.out).mono ?_); rintro e w' ⟨rfl, ⟨nd, rfl⟩⟩))
          go_ret2
          exact ⟨by first | rfl | (simp; done) | (simp [*]; done) | (refine congrArg (Value.int .i64) ?_; unfold wrap64; omega), by repeat (first | exact Drawn0.refl _ | apply Drawn0.step)⟩
        · replace c10 := Bool.eq_false_iff.mpr c10
          subst c10
          have H1 : (some (0, 65)) = some (r1, r2) := by rw [if_neg (show ¬ (false = true) by decide)] at H; exact H
          clear H
          have H := H1
          clear H1
          simp only [Option.some.injEq, Prod.mk.injEq] at H
          obtain ⟨rfl, rfl⟩ := H
          go_enter Try.func30, Try.ntmps30
          go_wp2_with (first | ((with_reducible refine gate_callee (f := 24) rfl ?_); refine goesL_ (some 9) rfl rfl Try.func24 (by kernel_rfl) rfl #[.int .i64 a0] rfl (by (try simp only [List.map_toArray, List.map_cons, List.map_nil]); first | done | rfl | (simp only [List.length_drop, List.length_take]; rfl)) ?_; (with_reducible refine (trustquorumref35_Valid.calls a0 true _ A4.out).mono ?_); rintro e w' ⟨rfl, ⟨nd, rfl⟩⟩; refine ⟨_, rfl, ?_⟩) | (go_at_call 26; (with_reducible refine (trustquorumref35_Price.calls a1 a2 true _ A6.out).mono ?_); rintro e w' ⟨rfl, ⟨nd, rfl⟩⟩) | (go_at_call 24; (with_reducible refine (trustquorumref35_Valid.calls (wrap64 (Int.tdiv (wrap64 (a0 * a1)) a2)) false _ A9.out).mono ?_); rintro e w' ⟨rfl, ⟨nd, rfl⟩⟩))
          go_ret2
          exact ⟨by first | rfl | (simp; done) | (simp [*]; done) | (refine congrArg (Value.int .i64) ?_; unfold wrap64; omega), by repeat (first | exact Drawn0.refl _ | apply Drawn0.step)⟩
    · replace c7 := Bool.eq_false_iff.mpr c7
      subst c7
      have H1 : (some (0, 65)) = some (r1, r2) := by rw [if_neg (show ¬ (false = true) by decide)] at H; exact H
      clear H
      have H := H1
      clear H1
      simp only [Option.some.injEq, Prod.mk.injEq] at H
      obtain ⟨rfl, rfl⟩ := H
      go_enter Try.func30, Try.ntmps30
      go_wp2_with (first | ((with_reducible refine gate_callee (f := 24) rfl ?_); refine goesL_ (some 9) rfl rfl Try.func24 (by kernel_rfl) rfl #[.int .i64 a0] rfl (by (try simp only [List.map_toArray, List.map_cons, List.map_nil]); first | done | rfl | (simp only [List.length_drop, List.length_take]; rfl)) ?_; (with_reducible refine (trustquorumref35_Valid.calls a0 true _ A4.out).mono ?_); rintro e w' ⟨rfl, ⟨nd, rfl⟩⟩; refine ⟨_, rfl, ?_⟩) | (go_at_call 26; (with_reducible refine (trustquorumref35_Price.calls a1 a2 false _ A6.out).mono ?_); rintro e w' ⟨rfl, ⟨nd, rfl⟩⟩))
      go_ret2
      exact ⟨by first | rfl | (simp; done) | (simp [*]; done) | (refine congrArg (Value.int .i64) ?_; unfold wrap64; omega), by repeat (first | exact Drawn0.refl _ | apply Drawn0.step)⟩
  · replace c5 := Bool.eq_false_iff.mpr c5
    subst c5
    have H1 : (some (0, 65)) = some (r1, r2) := by rw [if_neg (show ¬ (false = true) by decide)] at H; exact H
    clear H
    have H := H1
    clear H1
    simp only [Option.some.injEq, Prod.mk.injEq] at H
    obtain ⟨rfl, rfl⟩ := H
    go_enter Try.func30, Try.ntmps30
    go_wp2_with (first | ((with_reducible refine gate_callee (f := 24) rfl ?_); refine goesL_ (some 9) rfl rfl Try.func24 (by kernel_rfl) rfl #[.int .i64 a0] rfl (by (try simp only [List.map_toArray, List.map_cons, List.map_nil]); first | done | rfl | (simp only [List.length_drop, List.length_take]; rfl)) ?_; (with_reducible refine (trustquorumref35_Valid.calls a0 false _ A4.out).mono ?_); rintro e w' ⟨rfl, ⟨nd, rfl⟩⟩; refine ⟨_, rfl, ?_⟩))
    go_ret2
    exact ⟨by first | rfl | (simp; done) | (simp [*]; done) | (refine congrArg (Value.int .i64) ?_; unfold wrap64; omega), by repeat (first | exact Drawn0.refl _ | apply Drawn0.step)⟩

/-! ### trustquorumref35_Up: function 31 -/
def trustquorumref35_Up.f (a0 : Int) (a1 : Int) (a2 : Int) : Option (Int × Int) := (trustquorumref35_Valid.f a0).bind fun t194 => (if t194 = true then ((trustquorumref35_Price.f a1 a2).bind fun t195 => (if t195 = true then (if a2 = 0 then (none) else ((trustquorumref35_Valid.f (wrap64 (Int.tdiv (wrap64 ((wrap64 ((wrap64 (a0 * a1)) + a2)) - 1)) a2))).bind fun t196 => (if t196 = true then (some (wrap64 (Int.tdiv (wrap64 ((wrap64 ((wrap64 (a0 * a1)) + a2)) - 1)) a2), 0)) else (some (0, 65))))) else (some (0, 65)))) else (some (0, 65)))
set_option maxHeartbeats 8000000 in
set_option maxRecDepth 100000 in
theorem trustquorumref35_Up.calls (a0 : Int) (a1 : Int) (a2 : Int) (r1 : Int) (r2 : Int) (w : World) (h : trustquorumref35_Up.f a0 a1 a2 = some (r1, r2)) :
    Calls Try.prog 31 #[.int .i64 a0, .int .i64 a1, .int .i64 a2] w fun e w' => e = .returned (.tuple #[.int .i64 r1, .int .i64 r2]) ∧ Drawn0 w w' := by
  have H : ((trustquorumref35_Valid.f a0).bind fun t194 => (if t194 = true then ((trustquorumref35_Price.f a1 a2).bind fun t195 => (if t195 = true then (if a2 = 0 then (none) else ((trustquorumref35_Valid.f (wrap64 (Int.tdiv (wrap64 ((wrap64 ((wrap64 (a0 * a1)) + a2)) - 1)) a2))).bind fun t196 => (if t196 = true then (some (wrap64 (Int.tdiv (wrap64 ((wrap64 ((wrap64 (a0 * a1)) + a2)) - 1)) a2), 0)) else (some (0, 65))))) else (some (0, 65)))) else (some (0, 65)))) = some (r1, r2) := h
  clear h
  replace H := Option.bind_eq_some_iff.mp H
  obtain ⟨t194, A40, H⟩ := H
  replace H : (if t194 = true then ((trustquorumref35_Price.f a1 a2).bind fun t195 => (if t195 = true then (if a2 = 0 then (none) else ((trustquorumref35_Valid.f (wrap64 (Int.tdiv (wrap64 ((wrap64 ((wrap64 (a0 * a1)) + a2)) - 1)) a2))).bind fun t196 => (if t196 = true then (some (wrap64 (Int.tdiv (wrap64 ((wrap64 ((wrap64 (a0 * a1)) + a2)) - 1)) a2), 0)) else (some (0, 65))))) else (some (0, 65)))) else (some (0, 65))) = some (r1, r2) := H
  have A4 := Aside0.mk A40
  clear A40
  by_cases c5 : t194 = true
  · subst c5
    have H1 : ((trustquorumref35_Price.f a1 a2).bind fun t195 => (if t195 = true then (if a2 = 0 then (none) else ((trustquorumref35_Valid.f (wrap64 (Int.tdiv (wrap64 ((wrap64 ((wrap64 (a0 * a1)) + a2)) - 1)) a2))).bind fun t196 => (if t196 = true then (some (wrap64 (Int.tdiv (wrap64 ((wrap64 ((wrap64 (a0 * a1)) + a2)) - 1)) a2), 0)) else (some (0, 65))))) else (some (0, 65)))) = some (r1, r2) := by rw [if_pos rfl] at H; exact H
    clear H
    have H := H1
    clear H1
    replace H := Option.bind_eq_some_iff.mp H
    obtain ⟨t195, A60, H⟩ := H
    replace H : (if t195 = true then (if a2 = 0 then (none) else ((trustquorumref35_Valid.f (wrap64 (Int.tdiv (wrap64 ((wrap64 ((wrap64 (a0 * a1)) + a2)) - 1)) a2))).bind fun t196 => (if t196 = true then (some (wrap64 (Int.tdiv (wrap64 ((wrap64 ((wrap64 (a0 * a1)) + a2)) - 1)) a2), 0)) else (some (0, 65))))) else (some (0, 65))) = some (r1, r2) := H
    have A6 := Aside0.mk A60
    clear A60
    by_cases c7 : t195 = true
    · subst c7
      have H1 : (if a2 = 0 then (none) else ((trustquorumref35_Valid.f (wrap64 (Int.tdiv (wrap64 ((wrap64 ((wrap64 (a0 * a1)) + a2)) - 1)) a2))).bind fun t196 => (if t196 = true then (some (wrap64 (Int.tdiv (wrap64 ((wrap64 ((wrap64 (a0 * a1)) + a2)) - 1)) a2), 0)) else (some (0, 65))))) = some (r1, r2) := by rw [if_pos rfl] at H; exact H
      clear H
      have H := H1
      clear H1
      by_cases c8 : a2 = 0
      · rw [if_pos c8] at H
        exact absurd H (by simp)
      · rw [if_neg c8] at H
        have c8b0 : (a2 == 0) = false := beq_eq_false_iff_ne.mpr c8
        have c8b1 : (a2 != 0) = true := bne_iff_ne.mpr c8
        replace H := Option.bind_eq_some_iff.mp H
        obtain ⟨t196, A90, H⟩ := H
        replace H : (if t196 = true then (some (wrap64 (Int.tdiv (wrap64 ((wrap64 ((wrap64 (a0 * a1)) + a2)) - 1)) a2), 0)) else (some (0, 65))) = some (r1, r2) := H
        have A9 := Aside0.mk A90
        clear A90
        by_cases c10 : t196 = true
        · subst c10
          have H1 : (some (wrap64 (Int.tdiv (wrap64 ((wrap64 ((wrap64 (a0 * a1)) + a2)) - 1)) a2), 0)) = some (r1, r2) := by rw [if_pos rfl] at H; exact H
          clear H
          have H := H1
          clear H1
          simp only [Option.some.injEq, Prod.mk.injEq] at H
          obtain ⟨rfl, rfl⟩ := H
          go_enter Try.func31, Try.ntmps31
          go_wp2_with (first | ((with_reducible refine gate_callee (f := 24) rfl ?_); refine goesL_ (some 9) rfl rfl Try.func24 (by kernel_rfl) rfl #[.int .i64 a0] rfl (by (try simp only [List.map_toArray, List.map_cons, List.map_nil]); first | done | rfl | (simp only [List.length_drop, List.length_take]; rfl)) ?_; (with_reducible refine (trustquorumref35_Valid.calls a0 true _ A4.out).mono ?_); rintro e w' ⟨rfl, ⟨nd, rfl⟩⟩; refine ⟨_, rfl, ?_⟩) | (go_at_call 26; (with_reducible refine (trustquorumref35_Price.calls a1 a2 true _ A6.out).mono ?_); rintro e w' ⟨rfl, ⟨nd, rfl⟩⟩) | (go_at_call 24; (with_reducible refine (trustquorumref35_Valid.calls (wrap64 (Int.tdiv (wrap64 ((wrap64 ((wrap64 (a0 * a1)) + a2)) - 1)) a2)) true _ A9.out).mono ?_); rintro e w' ⟨rfl, ⟨nd, rfl⟩⟩))
          go_ret2
          exact ⟨by first | rfl | (simp; done) | (simp [*]; done) | (refine congrArg (Value.int .i64) ?_; unfold wrap64; omega), by repeat (first | exact Drawn0.refl _ | apply Drawn0.step)⟩
        · replace c10 := Bool.eq_false_iff.mpr c10
          subst c10
          have H1 : (some (0, 65)) = some (r1, r2) := by rw [if_neg (show ¬ (false = true) by decide)] at H; exact H
          clear H
          have H := H1
          clear H1
          simp only [Option.some.injEq, Prod.mk.injEq] at H
          obtain ⟨rfl, rfl⟩ := H
          go_enter Try.func31, Try.ntmps31
          go_wp2_with (first | ((with_reducible refine gate_callee (f := 24) rfl ?_); refine goesL_ (some 9) rfl rfl Try.func24 (by kernel_rfl) rfl #[.int .i64 a0] rfl (by (try simp only [List.map_toArray, List.map_cons, List.map_nil]); first | done | rfl | (simp only [List.length_drop, List.length_take]; rfl)) ?_; (with_reducible refine (trustquorumref35_Valid.calls a0 true _ A4.out).mono ?_); rintro e w' ⟨rfl, ⟨nd, rfl⟩⟩; refine ⟨_, rfl, ?_⟩) | (go_at_call 26; (with_reducible refine (trustquorumref35_Price.calls a1 a2 true _ A6.out).mono ?_); rintro e w' ⟨rfl, ⟨nd, rfl⟩⟩) | (go_at_call 24; (with_reducible refine (trustquorumref35_Valid.calls (wrap64 (Int.tdiv (wrap64 ((wrap64 ((wrap64 (a0 * a1)) + a2)) - 1)) a2)) false _ A9.out).mono ?_); rintro e w' ⟨rfl, ⟨nd, rfl⟩⟩))
          go_ret2
          exact ⟨by first | rfl | (simp; done) | (simp [*]; done) | (refine congrArg (Value.int .i64) ?_; unfold wrap64; omega), by repeat (first | exact Drawn0.refl _ | apply Drawn0.step)⟩
    · replace c7 := Bool.eq_false_iff.mpr c7
      subst c7
      have H1 : (some (0, 65)) = some (r1, r2) := by rw [if_neg (show ¬ (false = true) by decide)] at H; exact H
      clear H
      have H := H1
      clear H1
      simp only [Option.some.injEq, Prod.mk.injEq] at H
      obtain ⟨rfl, rfl⟩ := H
      go_enter Try.func31, Try.ntmps31
      go_wp2_with (first | ((with_reducible refine gate_callee (f := 24) rfl ?_); refine goesL_ (some 9) rfl rfl Try.func24 (by kernel_rfl) rfl #[.int .i64 a0] rfl (by (try simp only [List.map_toArray, List.map_cons, List.map_nil]); first | done | rfl | (simp only [List.length_drop, List.length_take]; rfl)) ?_; (with_reducible refine (trustquorumref35_Valid.calls a0 true _ A4.out).mono ?_); rintro e w' ⟨rfl, ⟨nd, rfl⟩⟩; refine ⟨_, rfl, ?_⟩) | (go_at_call 26; (with_reducible refine (trustquorumref35_Price.calls a1 a2 false _ A6.out).mono ?_); rintro e w' ⟨rfl, ⟨nd, rfl⟩⟩))
      go_ret2
      exact ⟨by first | rfl | (simp; done) | (simp [*]; done) | (refine congrArg (Value.int .i64) ?_; unfold wrap64; omega), by repeat (first | exact Drawn0.refl _ | apply Drawn0.step)⟩
  · replace c5 := Bool.eq_false_iff.mpr c5
    subst c5
    have H1 : (some (0, 65)) = some (r1, r2) := by rw [if_neg (show ¬ (false = true) by decide)] at H; exact H
    clear H
    have H := H1
    clear H1
    simp only [Option.some.injEq, Prod.mk.injEq] at H
    obtain ⟨rfl, rfl⟩ := H
    go_enter Try.func31, Try.ntmps31
    go_wp2_with (first | ((with_reducible refine gate_callee (f := 24) rfl ?_); refine goesL_ (some 9) rfl rfl Try.func24 (by kernel_rfl) rfl #[.int .i64 a0] rfl (by (try simp only [List.map_toArray, List.map_cons, List.map_nil]); first | done | rfl | (simp only [List.length_drop, List.length_take]; rfl)) ?_; (with_reducible refine (trustquorumref35_Valid.calls a0 false _ A4.out).mono ?_); rintro e w' ⟨rfl, ⟨nd, rfl⟩⟩; refine ⟨_, rfl, ?_⟩))
    go_ret2
    exact ⟨by first | rfl | (simp; done) | (simp [*]; done) | (refine congrArg (Value.int .i64) ?_; unfold wrap64; omega), by repeat (first | exact Drawn0.refl _ | apply Drawn0.step)⟩

/-! ### trustquorumplay_Src_OddAsset: function 32 -/
def trustquorumplay_Src_OddAsset.f (s0_0 : List Int) (s0_1 : Int) : Option (ByteArray × Int × Int) := (some (([(⟨(⟨#[117, 115, 100]⟩ : ByteArray), 1⟩ : S38), (⟨(⟨#[76, 79, 78, 71, 69, 82]⟩ : ByteArray), 1⟩ : S38), (⟨(⟨#[85, 83, 68]⟩ : ByteArray), 0⟩ : S38), (⟨(⟨#[]⟩ : ByteArray), 3⟩ : S38), (⟨(⟨#[85, 83, 68]⟩ : ByteArray), 1001⟩ : S38), (⟨(⟨#[88, 65, 85]⟩ : ByteArray), 9⟩ : S38)] : List (S38)) : List (S38))).bind fun y198 => ((trustquorumplay_Src_N.f s0_0 s0_1 6).bind fun bt201 => (if 0 ≤ bt201.1 then (if bt201.1 < (y198.length : Int) then (some ((rd_T38 y198 bt201.1).f0, (rd_T38 y198 bt201.1).f1, bt201.2)) else (none)) else (none)))
set_option maxHeartbeats 8000000 in
set_option maxRecDepth 100000 in
theorem trustquorumplay_Src_OddAsset.calls (g : Nat) (s0_0 : List Int) (s0_1 : Int) (r1 : ByteArray) (r2 : Int) (r3 : Int) (w0 w : World) (hI : IsS52 w0 w g s0_0 s0_1) (hB : Below w0.heap.size w0 w) (h : trustquorumplay_Src_OddAsset.f s0_0 s0_1 = some (r1, r2, r3)) :
    Calls Try.prog 32 #[.pointer (some ⟨g, 0, none⟩)] w fun e w' => e = .returned (.agg #[.string r1, .int .i64 r2]) ∧ IsS52 w0 w' g s0_0 r3 ∧ Below w0.heap.size w0 w' ∧ KeepBut w w' g none := by
  have hu38 := Try.underlying38
  have HI0 := Aside0.mk hI
  have HK := Aside0.mk (KeepBut.refl w g none)
  have HL := Aside0.mk hB.size
  clear hI
  have HW0 := Aside0.mk hB.size
  have HB := Aside0.mk hB
  clear hB
  have H : ((some (([(⟨(⟨#[117, 115, 100]⟩ : ByteArray), 1⟩ : S38), (⟨(⟨#[76, 79, 78, 71, 69, 82]⟩ : ByteArray), 1⟩ : S38), (⟨(⟨#[85, 83, 68]⟩ : ByteArray), 0⟩ : S38), (⟨(⟨#[]⟩ : ByteArray), 3⟩ : S38), (⟨(⟨#[85, 83, 68]⟩ : ByteArray), 1001⟩ : S38), (⟨(⟨#[88, 65, 85]⟩ : ByteArray), 9⟩ : S38)] : List (S38)) : List (S38))).bind fun y198 => ((trustquorumplay_Src_N.f s0_0 s0_1 6).bind fun bt201 => (if 0 ≤ bt201.1 then (if bt201.1 < (y198.length : Int) then (some ((rd_T38 y198 bt201.1).f0, (rd_T38 y198 bt201.1).f1, bt201.2)) else (none)) else (none)))) = some (r1, r2, r3) := h
  clear h
  obtain ⟨y198, hy198⟩ : ∃ y_ : List (S38), y_ = (([(⟨(⟨#[117, 115, 100]⟩ : ByteArray), 1⟩ : S38), (⟨(⟨#[76, 79, 78, 71, 69, 82]⟩ : ByteArray), 1⟩ : S38), (⟨(⟨#[85, 83, 68]⟩ : ByteArray), 0⟩ : S38), (⟨(⟨#[]⟩ : ByteArray), 3⟩ : S38), (⟨(⟨#[85, 83, 68]⟩ : ByteArray), 1001⟩ : S38), (⟨(⟨#[88, 65, 85]⟩ : ByteArray), 9⟩ : S38)] : List (S38))) := ⟨_, rfl⟩
  replace H : ((trustquorumplay_Src_N.f s0_0 s0_1 6).bind fun bt201 => (if 0 ≤ bt201.1 then (if bt201.1 < (y198.length : Int) then (some ((rd_T38 y198 bt201.1).f0, (rd_T38 y198 bt201.1).f1, bt201.2)) else (none)) else (none))) = some (r1, r2, r3) := by first | (rw [hy198]; with_reducible exact H) | (have H2_ := (Option.bind_some _ _).symm.trans H; rw [hy198]; with_reducible exact H2_) | (have H2_ := (Option.bind_some _ _).symm.trans H; with_reducible exact H2_) | with_reducible exact H | (rw [hy198]; exact H) | exact H
  have Ny198 := Aside0.mk hy198
  clear hy198
  replace H := Option.bind_eq_some_iff.mp H
  obtain ⟨⟨t201, t202⟩, A20, H⟩ := H
  replace H : (if 0 ≤ t201 then (if t201 < (y198.length : Int) then (some ((rd_T38 y198 t201).f0, (rd_T38 y198 t201).f1, t202)) else (none)) else (none)) = some (r1, r2, r3) := H
  have A2 := Aside0.mk A20
  clear A20
  by_cases c3 : 0 ≤ t201
  · rw [if_pos c3] at H
    have c3b0 : decide (0 ≤ t201) = true := decide_eq_true c3
    clear c3
    by_cases c4 : t201 < (y198.length : Int)
    · rw [if_pos c4] at H
      have c4b0 : decide (t201 < (y198.length : Int)) = true := decide_eq_true c4
      clear c4
      simp only [Option.some.injEq, Prod.mk.injEq] at H
      obtain ⟨rfl, rfl, rfl⟩ := H
      go_enter Try.func32, Try.ntmps32
      go_wp2_with (first | ((with_reducible refine gate_dst (N := 2) rfl ?_); refine box_event ?hg (N := 2) ?hd (cs := #[.string (⟨#[]⟩ : ByteArray), .int .i64 0]) (t := 38) ?hr ?_; (case hd => rfl); (case hg => rfl); (case hr => first | (go_simp; done) | (go_simp; rfl)); intro gb197 hg w5 hbox hb; have n0_ := Aside0.mk (IsS52.below (by exact HI0.out) hb); have n1_ := Aside0.mk (KeepBut.trans (by exact HK.out) (KeepBut.of_below hb g none) (.inl rfl)); have n2_ := Aside0.mk (below_step (by exact HB.out) hb); have n3_ := Aside0.mk (hbox); have n4_ := Aside0.mk ((by rw [hg]; exact (keep_size (w := w) (g := g) (row := none) (by exact HK.out)) : w.heap.size ≤ gb197)); have n5_ := Aside0.mk ((Nat.le_trans HW0.out (by rw [hg]; exact (keep_size (w := w) (g := g) (row := none) (by exact HK.out)) : w.heap.size ≤ gb197) : w0.heap.size ≤ gb197)); have n6_ := Aside0.mk ((by rw [hg]; exact Nat.ne_of_lt (IsS52.lt (show IsS52 w0 _ g s0_0 s0_1 from by exact HI0.out)) : g ≠ gb197)); have n7_ := Aside0.mk ((by rw [hg]; exact Nat.ne_of_gt (IsS52.lt (show IsS52 w0 _ g s0_0 s0_1 from by exact HI0.out)) : gb197 ≠ g)); clear HI0 HK HB; have HI0 := n0_; have HK := n1_; have HB := n2_; have BK197 := n3_; have GW197 := n4_; have GE197 := n5_; have NB0_197 := n6_; have NB197_0 := n7_; clear n0_ n1_ n2_ n3_ n4_ n5_ n6_ n7_; clear hb hbox hg) | ((with_reducible refine gate_dst (N := 9) rfl ?_); refine Kd.R_lit k38 _ 38 ?hg (N := 9) ?hd (xs := ([(⟨(⟨#[117, 115, 100]⟩ : ByteArray), 1⟩ : S38), (⟨(⟨#[76, 79, 78, 71, 69, 82]⟩ : ByteArray), 1⟩ : S38), (⟨(⟨#[85, 83, 68]⟩ : ByteArray), 0⟩ : S38), (⟨(⟨#[]⟩ : ByteArray), 3⟩ : S38), (⟨(⟨#[85, 83, 68]⟩ : ByteArray), 1001⟩ : S38), (⟨(⟨#[88, 65, 85]⟩ : ByteArray), 9⟩ : S38)] : List (S38))) (inner := [.string (⟨#[117, 115, 100]⟩ : ByteArray), .int .i64 1, .string (⟨#[76, 79, 78, 71, 69, 82]⟩ : ByteArray), .int .i64 1, .string (⟨#[85, 83, 68]⟩ : ByteArray), .int .i64 0, .string (⟨#[]⟩ : ByteArray), .int .i64 3, .string (⟨#[85, 83, 68]⟩ : ByteArray), .int .i64 1001, .string (⟨#[88, 65, 85]⟩ : ByteArray), .int .i64 9]) (ok := fun _ => True) (okp := fun _ => True) ?hr ?hp (fun _ hk => hk) trivial (Below.refl _ _) (Nat.le_refl _) (by simp) ?_; (case hd => rfl); (case hg => rfl); (case hr => first | (go_simp; done) | (go_simp; rfl)); (case hp => exact (Reps.c2 (show Kd.M k38 _ _ _ (⟨(⟨#[117, 115, 100]⟩ : ByteArray), 1⟩ : S38) [.string (⟨#[117, 115, 100]⟩ : ByteArray), .int .i64 1] from (k38_mkM _ _ _ (⟨(⟨#[117, 115, 100]⟩ : ByteArray), 1⟩ : S38) )) (Reps.c2 (show Kd.M k38 _ _ _ (⟨(⟨#[76, 79, 78, 71, 69, 82]⟩ : ByteArray), 1⟩ : S38) [.string (⟨#[76, 79, 78, 71, 69, 82]⟩ : ByteArray), .int .i64 1] from (k38_mkM _ _ _ (⟨(⟨#[76, 79, 78, 71, 69, 82]⟩ : ByteArray), 1⟩ : S38) )) (Reps.c2 (show Kd.M k38 _ _ _ (⟨(⟨#[85, 83, 68]⟩ : ByteArray), 0⟩ : S38) [.string (⟨#[85, 83, 68]⟩ : ByteArray), .int .i64 0] from (k38_mkM _ _ _ (⟨(⟨#[85, 83, 68]⟩ : ByteArray), 0⟩ : S38) )) (Reps.c2 (show Kd.M k38 _ _ _ (⟨(⟨#[]⟩ : ByteArray), 3⟩ : S38) [.string (⟨#[]⟩ : ByteArray), .int .i64 3] from (k38_mkM _ _ _ (⟨(⟨#[]⟩ : ByteArray), 3⟩ : S38) )) (Reps.c2 (show Kd.M k38 _ _ _ (⟨(⟨#[85, 83, 68]⟩ : ByteArray), 1001⟩ : S38) [.string (⟨#[85, 83, 68]⟩ : ByteArray), .int .i64 1001] from (k38_mkM _ _ _ (⟨(⟨#[85, 83, 68]⟩ : ByteArray), 1001⟩ : S38) )) (Reps.c2 (show Kd.M k38 _ _ _ (⟨(⟨#[88, 65, 85]⟩ : ByteArray), 9⟩ : S38) [.string (⟨#[88, 65, 85]⟩ : ByteArray), .int .i64 9] from (k38_mkM _ _ _ (⟨(⟨#[88, 65, 85]⟩ : ByteArray), 9⟩ : S38) )) (Reps.none _ _)))))))); intro v199 w6 ho7 hb hg_ hnew_; clear hg_ hnew_; (first | rw [← Ny198.out] at ho7 | (simp only [Int.reduceToNat] at ho7; rw [← Ny198.out] at ho7)); have n0_ := Aside0.mk (Kd.R_lower (Kd.R_newB ho7 BK197.out) (keep_size (w := w) (g := g) (row := none) (by exact HK.out))); have n1_ := Aside0.mk (IsS52.below (by exact HI0.out) hb); have n2_ := Aside0.mk (blk_below BK197.out hb); have n3_ := Aside0.mk (KeepBut.trans (by exact HK.out) (KeepBut.of_below hb g none) (.inl rfl)); have n4_ := Aside0.mk (below_step (by exact HB.out) hb); clear HI0 BK197 HK HB; have HO200 := n0_; have HI0 := n1_; have BK197 := n2_; have HK := n3_; have HB := n4_; clear n0_ n1_ n2_ n3_ n4_; clear hb ho7) | ((with_reducible refine gate_callee (f := 41) rfl ?_); refine goesL_ (some 11) rfl rfl Try.func41 (by kernel_rfl) rfl #[.pointer (some ⟨g, 0, none⟩), .int .i64 6] rfl (by (try simp only [List.map_toArray, List.map_cons, List.map_nil]); first | done | rfl | (simp only [List.length_drop, List.length_take]; rfl)) ?_; (with_reducible refine (trustquorumplay_Src_N.calls g s0_0 s0_1 6 t201 t202 w0 _ ?side1 ?side2 A2.out).mono ?_); (case side1 => exact HI0.out); (case side2 => exact HB.out); rintro e w8 ⟨rfl, hi, hb, hk⟩; refine ⟨_, rfl, ?_⟩; have n0_ := Aside0.mk (KeepBut.blk hk BK197.out NB197_0.out (by simp)); have n1_ := Aside0.mk (Kd.R_mono (Kd.R_keep (IsS52.apart (show IsS52 w0 _ g s0_0 s0_1 from by exact HI0.out) (by exact HO200.out) (by decide)) hk (fun _ h => h.2)) (fun _ h => h.1)); have n2_ := Aside0.mk (KeepBut.trans (by exact HK.out) hk (.inl rfl)); have n3_ := Aside0.mk (hb); have n4_ := Aside0.mk (hi); clear BK197 HO200 HK HB HI0; have BK197 := n0_; have HO200 := n1_; have HK := n2_; have HB := n3_; have HI0 := n4_; clear n0_ n1_ n2_ n3_ n4_; (try clear hb); (try clear hb2); (try clear hk); (try clear hi); obtain ⟨Ao9, co9, eo9⟩ := Kd.R_slice HO200.out; subst eo9; have p203 : 0 ≤ (t201 : Int) := of_decide_eq_true (by first | (with_reducible assumption) | assumption); have q203 : t201 < (y198.length : Int) := of_decide_eq_true (by first | (with_reducible assumption) | assumption); obtain ⟨ad203, e203, hx203_0, hx203_1⟩ := at_T38 (Kd.R_reads' HO200.out).2.2 t201 p203 q203; cases e203; replace p203 := eq_true p203; replace q203 := eq_true q203; have hnb10 := NB197_0.out; have hnc10 := NB0_197.out; obtain ⟨hcz11_0, hcz11_1, hfz11_0, hfz11_1⟩ := blkC2 BK197.out))
      refine bodyPost_ret (results_cell_row rfl _ _ gb197 38 #[.string ((rd_T38 y198 t201).f0), .int .i64 ((rd_T38 y198 t201).f1)] (0, 0) _ rfl (by (with_reducible repeat (first | refine blk_drewN ?_ _ | refine blk_drew ?_ | refine blk_alloc ?_ _)); refine blk_put (cs := #[.string ((rd_T38 y198 t201).f0), .int .i64 0]) ?_ 1 _ rfl; (with_reducible repeat (first | refine blk_drewN ?_ _ | refine blk_drew ?_ | refine blk_alloc ?_ _)); refine blk_put (cs := #[.string (⟨#[]⟩ : ByteArray), .int .i64 0]) ?_ 0 _ rfl; (with_reducible repeat (first | refine blk_drewN ?_ _ | refine blk_drew ?_ | refine blk_alloc ?_ _)); exact BK197.out) Try.underlying38 rfl (by kernel_rfl)) rfl ?_
      exact ⟨by first | rfl | (simp [errW_none, errW_some] <;> rfl) | (simp [*, errW_none, errW_some] <;> rfl), by repeat (first | (with_reducible first | exact HI0.out | apply IsS52.alloc | apply IsS52.drewN | apply IsS52.drew | apply IsS52.set_1 | refine IsS52.far ?_ NB0_197.out _) | exact HI0.out), by repeat (first | (with_reducible first | exact HB.out | apply below_alloc | apply pw_below_drewN | apply below_drew1 | refine below_set ?_ (IsS52.ge HI0.out) | refine below_set ?_ GE197.out) | exact HB.out), by repeat (first | (with_reducible first | exact HK.out | apply KeepBut.set_ | apply keep_drewN | apply keep_drew | apply keep_alloc | refine keep_far ?_ GW197.out _) | exact HK.out)⟩
    · rw [if_neg c4] at H
      exact absurd H (by simp)
  · rw [if_neg c3] at H
    exact absurd H (by simp)

/-! ### trustquorumref35_Native: function 34 -/
def trustquorumref35_Native.f (a0_0 : ByteArray) (a0_1 : Int) : Option (Bool) := some (a0_0.toList == ([] : List UInt8) && (a0_1 == 0))
set_option maxHeartbeats 8000000 in
set_option maxRecDepth 100000 in
theorem trustquorumref35_Native.calls (a0_0 : ByteArray) (a0_1 : Int) (r : Bool) (w : World) (h : trustquorumref35_Native.f a0_0 a0_1 = some r) :
    Calls Try.prog 34 #[.agg #[.string a0_0, .int .i64 a0_1]] w fun e w' => e = .returned (.bool r) ∧ Below w.heap.size w w' := by
  have hu38 := Try.underlying38
  have HB := Aside0.mk (Below.refl w.heap.size w)
  have H : (some (a0_0.toList == ([] : List UInt8) && (a0_1 == 0))) = some r := h
  clear h
  obtain rfl := Option.some.inj H
  go_enter Try.func34, Try.ntmps34
  go_wp2_with (first | ((with_reducible refine gate_dst (N := 1) rfl ?_); refine box_event ?hg (N := 1) ?hd (cs := #[.string a0_0, .int .i64 a0_1]) (t := 38) ?hr ?_; (case hd => rfl); (case hg => rfl); (case hr => first | (go_simp; done) | (go_simp; rfl)); intro gb204 hg w2 hbox hb; have n0_ := Aside0.mk (below_step (by exact HB.out) hb); have n1_ := Aside0.mk (hbox); have n2_ := Aside0.mk ((by rw [hg]; exact (below_size (by exact HB.out)) : w.heap.size ≤ gb204)); have n3_ := Aside0.mk ((by rw [hg]; exact (below_size (by exact HB.out)) : w.heap.size ≤ gb204)); clear HB; have HB := n0_; have BK204 := n1_; have GW204 := n2_; have GE204 := n3_; clear n0_ n1_ n2_ n3_; clear hb hbox hg; obtain ⟨hcz3_0, hcz3_1, hfz3_0, hfz3_1⟩ := blkC2 BK204.out))
  go_ret
  exact ⟨by first | rfl | (simp [errW_none, errW_some] <;> rfl) | (simp [*, errW_none, errW_some] <;> rfl), by exact HB.out⟩

/-! ### trustquorumref35_Asset: function 33 -/
mutual
def trustquorumref35_Asset.j0 : Nat → Bool → ByteArray → Int → Option (Bool)
  | 0, _, _, _ => none
  | k + 1, x25, x206000, x206001 => if x25 = true then (some false) else (trustquorumref35_Asset.l0 k 0 x206000 x206001)
def trustquorumref35_Asset.l0 : Nat → Int → ByteArray → Int → Option (Bool)
  | 0, _, _, _ => none
  | k + 1, x3, x206000, x206001 => if x3 < (x206000.size : Int) then (if 0 ≤ x3 then (if (bt x206000 x3) < 65 then (some false) else (if (bt x206000 x3) > 90 then (some false) else (trustquorumref35_Asset.l0 k (wrap64 (x3 + 1)) x206000 x206001))) else (none)) else (some true)
end
def trustquorumref35_Asset.f (k : Nat) (a0_0 : ByteArray) (a0_1 : Int) : Option (Bool) := (trustquorumref35_Native.f a0_0 a0_1).bind fun t206 => (if t206 = true then (some true) else (if (a0_0.size : Int) < 1 then (trustquorumref35_Asset.j0 k true a0_0 a0_1) else (if (a0_0.size : Int) > 4 then (trustquorumref35_Asset.j0 k true a0_0 a0_1) else (if a0_1 < 1 then (trustquorumref35_Asset.j0 k true a0_0 a0_1) else (trustquorumref35_Asset.j0 k (decide (a0_1 > 1000)) a0_0 a0_1)))))
theorem trustquorumref35_Asset.mono_l : ∀ k, (∀ y0 y1 y2, LeO (trustquorumref35_Asset.j0 k y0 y1 y2) (trustquorumref35_Asset.j0 (k + 1) y0 y1 y2)) ∧ (∀ y0 y1 y2, LeO (trustquorumref35_Asset.l0 k y0 y1 y2) (trustquorumref35_Asset.l0 (k + 1) y0 y1 y2))
  | 0 => ⟨fun _ _ _ r h => by simp [trustquorumref35_Asset.j0] at h, fun _ _ _ r h => by simp [trustquorumref35_Asset.l0] at h⟩
  | k + 1 => by
    obtain ⟨ih0, ih1⟩ := trustquorumref35_Asset.mono_l k
    refine ⟨?_, ?_⟩
    · intro y0 y1 y2
      unfold trustquorumref35_Asset.j0
      repeat' first
      | (with_reducible exact ih0 _ _ _)
      | (with_reducible exact ih1 _ _ _)
      | (with_reducible exact LeO.refl _)
      | (with_reducible exact LeO.none _)
      | (with_reducible refine LeO.ite ?_ ?_)
      | (with_reducible refine LeO.bind ?_ (fun _ => ?_))
      | exact ih0 _ _ _
      | exact ih1 _ _ _
      | exact LeO.none _
      | refine LeO.ite ?_ ?_
      | refine LeO.bind ?_ (fun _ => ?_)
    · intro y0 y1 y2
      unfold trustquorumref35_Asset.l0
      repeat' first
      | (with_reducible exact ih0 _ _ _)
      | (with_reducible exact ih1 _ _ _)
      | (with_reducible exact LeO.refl _)
      | (with_reducible exact LeO.none _)
      | (with_reducible refine LeO.ite ?_ ?_)
      | (with_reducible refine LeO.bind ?_ (fun _ => ?_))
      | exact ih0 _ _ _
      | exact ih1 _ _ _
      | exact LeO.none _
      | refine LeO.ite ?_ ?_
      | refine LeO.bind ?_ (fun _ => ?_)
theorem trustquorumref35_Asset.mono : ∀ a0 a1 k, LeO (trustquorumref35_Asset.f k a0 a1) (trustquorumref35_Asset.f (k + 1) a0 a1) := by
  intro a0 a1 k
  obtain ⟨ih0, ih1⟩ := trustquorumref35_Asset.mono_l k
  unfold trustquorumref35_Asset.f
  repeat' first
      | (with_reducible exact ih0 _ _ _)
      | (with_reducible exact ih1 _ _ _)
      | (with_reducible exact LeO.refl _)
      | (with_reducible exact LeO.none _)
      | (with_reducible refine LeO.ite ?_ ?_)
      | (with_reducible refine LeO.bind ?_ (fun _ => ?_))
      | exact ih0 _ _ _
      | exact ih1 _ _ _
      | exact LeO.none _
      | refine LeO.ite ?_ ?_
      | refine LeO.bind ?_ (fun _ => ?_)
set_option maxHeartbeats 8000000 in
set_option maxRecDepth 100000 in
theorem trustquorumref35_Asset.calls (k : Nat) (a0_0 : ByteArray) (a0_1 : Int) (r : Bool) (w : World) (h : trustquorumref35_Asset.f k a0_0 a0_1 = some r) :
    Calls Try.prog 33 #[.agg #[.string a0_0, .int .i64 a0_1]] w fun e w' => e = .returned (.bool r) ∧ Below w.heap.size w w' := by
  have hu38 := Try.underlying38
  have HB := Aside0.mk (Below.refl w.heap.size w)
  have H : ((trustquorumref35_Native.f a0_0 a0_1).bind fun t206 => (if t206 = true then (some true) else (if (a0_0.size : Int) < 1 then (trustquorumref35_Asset.j0 k true a0_0 a0_1) else (if (a0_0.size : Int) > 4 then (trustquorumref35_Asset.j0 k true a0_0 a0_1) else (if a0_1 < 1 then (trustquorumref35_Asset.j0 k true a0_0 a0_1) else (trustquorumref35_Asset.j0 k (decide (a0_1 > 1000)) a0_0 a0_1)))))) = some r := h
  clear h
  replace H := Option.bind_eq_some_iff.mp H
  obtain ⟨t206, A20, H⟩ := H
  replace H : (if t206 = true then (some true) else (if (a0_0.size : Int) < 1 then (trustquorumref35_Asset.j0 k true a0_0 a0_1) else (if (a0_0.size : Int) > 4 then (trustquorumref35_Asset.j0 k true a0_0 a0_1) else (if a0_1 < 1 then (trustquorumref35_Asset.j0 k true a0_0 a0_1) else (trustquorumref35_Asset.j0 k (decide (a0_1 > 1000)) a0_0 a0_1))))) = some r := H
  have A2 := Aside0.mk A20
  clear A20
  by_cases c3 : t206 = true
  · subst c3
    have H1 : (some true) = some r := by rw [if_pos rfl] at H; exact H
    clear H
    have H := H1
    clear H1
    obtain rfl := Option.some.inj H
    go_enter Try.func33, Try.ntmps33
    go_wp2_with (first | ((with_reducible refine gate_dst (N := 1) rfl ?_); (try (refine gate_guard (by rfl) ?_; dsimp only)); refine box_event ?hg (N := 1) ?hd (cs := #[.string a0_0, .int .i64 a0_1]) (t := 38) ?hr ?_; (case hd => rfl); (case hg => rfl); (case hr => first | (go_simp; done) | (go_simp; rfl)); intro gb205 hg w4 hbox hb; have n0_ := Aside0.mk (below_step (by exact HB.out) hb); have n1_ := Aside0.mk (hbox); have n2_ := Aside0.mk ((by rw [hg]; exact (below_size (by exact HB.out)) : w.heap.size ≤ gb205)); have n3_ := Aside0.mk ((by rw [hg]; exact (below_size (by exact HB.out)) : w.heap.size ≤ gb205)); clear HB; have HB := n0_; have BK205 := n1_; have GW205 := n2_; have GE205 := n3_; clear n0_ n1_ n2_ n3_; clear hb hbox hg; obtain ⟨hcz5_0, hcz5_1, hfz5_0, hfz5_1⟩ := blkC2 BK205.out) | ((with_reducible refine gate_callee (f := 34) rfl ?_); refine goesL_ (some 5) rfl rfl Try.func34 (by kernel_rfl) rfl #[.agg #[.string a0_0, .int .i64 a0_1]] rfl (by (try simp only [List.map_toArray, List.map_cons, List.map_nil]); first | done | rfl | (simp only [List.length_drop, List.length_take]; rfl)) ?_; (with_reducible refine (trustquorumref35_Native.calls a0_0 a0_1 true _ A2.out).mono ?_); rintro e w6 ⟨rfl, hb⟩; refine ⟨_, rfl, ?_⟩; have n0_ := Aside0.mk (blk_below BK205.out hb); have n1_ := Aside0.mk (below_step (by exact HB.out) hb); clear BK205 HB; have BK205 := n0_; have HB := n1_; clear n0_ n1_; (try clear hb); (try clear hb2); (try clear hk); (try clear hi)))
    go_ret
    exact ⟨by first | rfl | (simp [errW_none, errW_some] <;> rfl) | (simp [*, errW_none, errW_some] <;> rfl), by exact HB.out⟩
  · replace c3 := Bool.eq_false_iff.mpr c3
    subst c3
    have H1 : (if (a0_0.size : Int) < 1 then (trustquorumref35_Asset.j0 k true a0_0 a0_1) else (if (a0_0.size : Int) > 4 then (trustquorumref35_Asset.j0 k true a0_0 a0_1) else (if a0_1 < 1 then (trustquorumref35_Asset.j0 k true a0_0 a0_1) else (trustquorumref35_Asset.j0 k (decide (a0_1 > 1000)) a0_0 a0_1)))) = some r := by rw [if_neg (show ¬ (false = true) by decide)] at H; exact H
    clear H
    have H := H1
    clear H1
    have HC7 := Aside0.mk H
    clear H
    go_enter Try.func33, Try.ntmps33
    go_upto_region 3 with (first | ((with_reducible refine gate_dst (N := 1) rfl ?_); (try (refine gate_guard (by rfl) ?_; dsimp only)); refine box_event ?hg (N := 1) ?hd (cs := #[.string a0_0, .int .i64 a0_1]) (t := 38) ?hr ?_; (case hd => rfl); (case hg => rfl); (case hr => first | (go_simp; done) | (go_simp; rfl)); intro gb205 hg w8 hbox hb; have n0_ := Aside0.mk (below_step (by exact HB.out) hb); have n1_ := Aside0.mk (hbox); have n2_ := Aside0.mk ((by rw [hg]; exact (below_size (by exact HB.out)) : w.heap.size ≤ gb205)); have n3_ := Aside0.mk ((by rw [hg]; exact (below_size (by exact HB.out)) : w.heap.size ≤ gb205)); clear HB; have HB := n0_; have BK205 := n1_; have GW205 := n2_; have GE205 := n3_; clear n0_ n1_ n2_ n3_; clear hb hbox hg; obtain ⟨hcz9_0, hcz9_1, hfz9_0, hfz9_1⟩ := blkC2 BK205.out) | ((with_reducible refine gate_callee (f := 34) rfl ?_); refine goesL_ (some 5) rfl rfl Try.func34 (by kernel_rfl) rfl #[.agg #[.string a0_0, .int .i64 a0_1]] rfl (by (try simp only [List.map_toArray, List.map_cons, List.map_nil]); first | done | rfl | (simp only [List.length_drop, List.length_take]; rfl)) ?_; (with_reducible refine (trustquorumref35_Native.calls a0_0 a0_1 false _ A2.out).mono ?_); rintro e w10 ⟨rfl, hb⟩; refine ⟨_, rfl, ?_⟩; have n0_ := Aside0.mk (blk_below BK205.out hb); have n1_ := Aside0.mk (below_step (by exact HB.out) hb); clear BK205 HB; have BK205 := n0_; have HB := n1_; clear n0_ n1_; (try clear hb); (try clear hb2); (try clear hk); (try clear hi)))
    (try simp only [Act.put, List.setIfInBounds_toArray, List.set_cons_zero, List.set_cons_succ])
    go_cut [25] (fun v25 wc => ∃ (kq : Nat) (x25_6 : Bool), v25 = .bool x25_6 ∧ Aside0 (trustquorumref35_Asset.j0 kq x25_6 a0_0 a0_1 = some r) ∧ Aside0 (kq ≤ k) ∧ Aside0 (wc.heap[gb205]? = some (.cells #[.string a0_0, .int .i64 a0_1] 38 (0, 0))) ∧ Aside0 (Below w.heap.size w wc))
    case first =>
      have H := HC7.out
      clear HC7
      by_cases c11 : (a0_0.size : Int) < 1
      · rw [if_pos c11] at H
        have c11b0 : decide ((a0_0.size : Int) < 1) = true := decide_eq_true c11
        have c11b1 : decide (a0_0.size < 1) = true := decide_eq_true (by omega)
        clear c11
        (first | rw [c11b0] | (simp only [i64_w, i32_w]; rw [c11b0]) | skip)
        have H' := Aside0.mk H
        clear H
        obtain ⟨hcz12_0, hcz12_1, hfz12_0, hfz12_1⟩ := blkC2 BK205.out
        go_wp2
        go_meet
        case rel => exact ⟨_, (true), (by first | rfl | (simp; done) | (simp [*]; done) | (refine congrArg (Value.int .i64) ?_; unfold wrap64; omega)), H', ⟨by first | omega | exact Nat.le_refl _⟩, ⟨by exact BK205.out⟩, ⟨by exact HB.out⟩⟩
      · rw [if_neg c11] at H
        have c11b0 : decide ((a0_0.size : Int) < 1) = false := decide_eq_false c11
        have c11b1 : decide (a0_0.size < 1) = false := decide_eq_false (by omega)
        clear c11
        (first | rw [c11b0] | (simp only [i64_w, i32_w]; rw [c11b0]) | skip)
        by_cases c13 : (a0_0.size : Int) > 4
        · rw [if_pos c13] at H
          have c13b0 : decide (4 < (a0_0.size : Int)) = true := decide_eq_true c13
          have c13b1 : decide (4 < a0_0.size) = true := decide_eq_true (by omega)
          clear c13
          have H' := Aside0.mk H
          clear H
          obtain ⟨hcz14_0, hcz14_1, hfz14_0, hfz14_1⟩ := blkC2 BK205.out
          go_wp2
          go_meet
          case rel => exact ⟨_, (true), (by first | rfl | (simp; done) | (simp [*]; done) | (refine congrArg (Value.int .i64) ?_; unfold wrap64; omega)), H', ⟨by first | omega | exact Nat.le_refl _⟩, ⟨by exact BK205.out⟩, ⟨by exact HB.out⟩⟩
        · rw [if_neg c13] at H
          have c13b0 : decide (4 < (a0_0.size : Int)) = false := decide_eq_false c13
          have c13b1 : decide (4 < a0_0.size) = false := decide_eq_false (by omega)
          clear c13
          by_cases c15 : a0_1 < 1
          · rw [if_pos c15] at H
            have c15b0 : decide (a0_1 < 1) = true := decide_eq_true c15
            clear c15
            have H' := Aside0.mk H
            clear H
            obtain ⟨hcz16_0, hcz16_1, hfz16_0, hfz16_1⟩ := blkC2 BK205.out
            go_wp2
            go_meet
            case rel => exact ⟨_, (true), (by first | rfl | (simp; done) | (simp [*]; done) | (refine congrArg (Value.int .i64) ?_; unfold wrap64; omega)), H', ⟨by first | omega | exact Nat.le_refl _⟩, ⟨by exact BK205.out⟩, ⟨by exact HB.out⟩⟩
          · rw [if_neg c15] at H
            have c15b0 : decide (a0_1 < 1) = false := decide_eq_false c15
            clear c15
            have H' := Aside0.mk H
            clear H
            obtain ⟨hcz17_0, hcz17_1, hfz17_0, hfz17_1⟩ := blkC2 BK205.out
            go_wp2
            go_meet
            case rel => exact ⟨_, (decide (a0_1 > 1000)), (by first | rfl | (simp; done) | (simp [*]; done) | (refine congrArg (Value.int .i64) ?_; unfold wrap64; omega)), H', ⟨by first | omega | exact Nat.le_refl _⟩, ⟨by exact BK205.out⟩, ⟨by exact HB.out⟩⟩
    case rest =>
      clear HC7
      try clear c1
      try clear p2
      try clear c3
      try clear p6
      try clear c11
      try clear c11b0
      try clear c11b1
      try clear c13
      try clear c13b0
      try clear c13b1
      try clear c15
      try clear c15b0
      try clear hcz12_0
      try clear hcz12_1
      try clear hcz14_0
      try clear hcz14_1
      try clear hcz16_0
      try clear hcz16_1
      try clear hcz17_0
      try clear hcz17_1
      try clear hcz5_0
      try clear hcz5_1
      try clear hcz9_0
      try clear hcz9_1
      try clear hfz12_0
      try clear hfz12_1
      try clear hfz14_0
      try clear hfz14_1
      try clear hfz16_0
      try clear hfz16_1
      try clear hfz17_0
      try clear hfz17_1
      try clear hfz5_0
      try clear hfz5_1
      try clear hfz9_0
      try clear hfz9_1
      obtain ⟨kq, x25_6, rfl, HA, HJ6, BK205, HB⟩ := hcut
      cases kq with
      | zero => exact absurd HA.out (by simp [trustquorumref35_Asset.j0])
      | succ kj6 =>
        have H := HA.out
        clear HA
        simp only [trustquorumref35_Asset.j0] at H
        by_cases c18 : x25_6 = true
        · subst c18
          have H1 : (some false) = some r := by rw [if_pos rfl] at H; exact H
          clear H
          have H := H1
          clear H1
          obtain rfl := Option.some.inj H
          go_wp2
          go_ret
          exact ⟨by first | rfl | (simp [errW_none, errW_some] <;> rfl) | (simp [*, errW_none, errW_some] <;> rfl), by exact HB.out⟩
        · replace c18 := Bool.eq_false_iff.mpr c18
          subst c18
          have H1 : (trustquorumref35_Asset.l0 kj6 0 a0_0 a0_1) = some r := by rw [if_neg (show ¬ (false = true) by decide)] at H; exact H
          clear H
          have H := H1
          clear H1
          have H' := Aside0.mk H
          clear H
          go_wp2
          go_loopg [3] kj6 (fun kq v3 w' => ∃ (x3_2 : Int), v3 = .int .i64 x3_2 ∧ Aside0 (trustquorumref35_Asset.l0 kq x3_2 a0_0 a0_1 = some r) ∧ Aside0 (kq ≤ kj6) ∧ Aside0 (w'.heap[gb205]? = some (.cells #[.string a0_0, .int .i64 a0_1] 38 (0, 0))) ∧ Aside0 (Below w.heap.size w w'))
          case atStart => exact ⟨(0), (by first | rfl | (simp; done) | (simp [*]; done) | (refine congrArg (Value.int .i64) ?_; unfold wrap64; omega)), H', ⟨Nat.le_refl _⟩, ⟨by exact BK205.out⟩, ⟨by exact HB.out⟩⟩
          case round =>
            clear H'
            try clear c1
            try clear p2
            try clear c3
            try clear p6
            try clear c11
            try clear c11b0
            try clear c11b1
            try clear c13
            try clear c13b0
            try clear c13b1
            try clear c15
            try clear c15b0
            try clear c18
            try clear hcz12_0
            try clear hcz12_1
            try clear hcz14_0
            try clear hcz14_1
            try clear hcz16_0
            try clear hcz16_1
            try clear hcz17_0
            try clear hcz17_1
            try clear hcz5_0
            try clear hcz5_1
            try clear hcz9_0
            try clear hcz9_1
            try clear hfz12_0
            try clear hfz12_1
            try clear hfz14_0
            try clear hfz14_1
            try clear hfz16_0
            try clear hfz16_1
            try clear hfz17_0
            try clear hfz17_1
            try clear hfz5_0
            try clear hfz5_1
            try clear hfz9_0
            try clear hfz9_1
            try clear p2
            try clear p6
            obtain ⟨x3_2, rfl, HA, HK2, BK205, HB⟩ := hrel
            cases gk with
            | zero => exact absurd HA.out (by simp [trustquorumref35_Asset.l0])
            | succ k2 =>
              have H := HA.out
              clear HA
              simp only [trustquorumref35_Asset.l0] at H
              by_cases c19 : x3_2 < (a0_0.size : Int)
              · rw [if_pos c19] at H
                have c19b0 : decide (x3_2 < (a0_0.size : Int)) = true := decide_eq_true c19
                clear c19
                by_cases c20 : 0 ≤ x3_2
                · rw [if_pos c20] at H
                  have c20b0 : decide (0 ≤ x3_2) = true := decide_eq_true c20
                  clear c20
                  by_cases c22 : (bt a0_0 x3_2) < 65
                  · rw [if_pos c22] at H
                    have c22b0 : decide ((bt a0_0 x3_2) < 65) = true := decide_eq_true c22
                    clear c22
                    obtain rfl := Option.some.inj H
                    obtain ⟨hcz23_0, hcz23_1, hfz23_0, hfz23_1⟩ := blkC2 BK205.out
                    have p21 : 0 ≤ (x3_2 : Int) := of_decide_eq_true (by first | (with_reducible assumption) | assumption)
                    have q21 : x3_2 < (a0_0.size : Int) := of_decide_eq_true (by first | (with_reducible assumption) | assumption)
                    have hx21 := bt_at a0_0 x3_2
                    replace p21 := eq_true p21
                    replace q21 := eq_true q21
                    go_wp2
                    go_ret
                    exact ⟨by first | rfl | (simp [errW_none, errW_some] <;> rfl) | (simp [*, errW_none, errW_some] <;> rfl), by exact HB.out⟩
                  · rw [if_neg c22] at H
                    have c22b0 : decide ((bt a0_0 x3_2) < 65) = false := decide_eq_false c22
                    clear c22
                    by_cases c25 : (bt a0_0 x3_2) > 90
                    · rw [if_pos c25] at H
                      have c25b0 : decide (90 < (bt a0_0 x3_2)) = true := decide_eq_true c25
                      clear c25
                      obtain rfl := Option.some.inj H
                      obtain ⟨hcz26_0, hcz26_1, hfz26_0, hfz26_1⟩ := blkC2 BK205.out
                      have p21 : 0 ≤ (x3_2 : Int) := of_decide_eq_true (by first | (with_reducible assumption) | assumption)
                      have q21 : x3_2 < (a0_0.size : Int) := of_decide_eq_true (by first | (with_reducible assumption) | assumption)
                      have hx21 := bt_at a0_0 x3_2
                      replace p21 := eq_true p21
                      replace q21 := eq_true q21
                      have p24 : 0 ≤ (x3_2 : Int) := of_decide_eq_true (by first | (with_reducible assumption) | assumption)
                      have q24 : x3_2 < (a0_0.size : Int) := of_decide_eq_true (by first | (with_reducible assumption) | assumption)
                      have hx24 := bt_at a0_0 x3_2
                      replace p24 := eq_true p24
                      replace q24 := eq_true q24
                      go_wp2
                      go_ret
                      exact ⟨by first | rfl | (simp [errW_none, errW_some] <;> rfl) | (simp [*, errW_none, errW_some] <;> rfl), by exact HB.out⟩
                    · rw [if_neg c25] at H
                      have c25b0 : decide (90 < (bt a0_0 x3_2)) = false := decide_eq_false c25
                      clear c25
                      have H' := Aside0.mk H
                      clear H
                      obtain ⟨hcz27_0, hcz27_1, hfz27_0, hfz27_1⟩ := blkC2 BK205.out
                      have p21 : 0 ≤ (x3_2 : Int) := of_decide_eq_true (by first | (with_reducible assumption) | assumption)
                      have q21 : x3_2 < (a0_0.size : Int) := of_decide_eq_true (by first | (with_reducible assumption) | assumption)
                      have hx21 := bt_at a0_0 x3_2
                      replace p21 := eq_true p21
                      replace q21 := eq_true q21
                      have p24 : 0 ≤ (x3_2 : Int) := of_decide_eq_true (by first | (with_reducible assumption) | assumption)
                      have q24 : x3_2 < (a0_0.size : Int) := of_decide_eq_true (by first | (with_reducible assumption) | assumption)
                      have hx24 := bt_at a0_0 x3_2
                      replace p24 := eq_true p24
                      replace q24 := eq_true q24
                      go_wp2
                      go_roundg k2
                      case measure => have := HJ6.out; have := HK2.out; omega
                      case rel => exact ⟨(wrap64 (x3_2 + 1)), (by first | rfl | (simp; done) | (simp [*]; done) | (refine congrArg (Value.int .i64) ?_; unfold wrap64; omega)), H', ⟨by have := HJ6.out; have := HK2.out; omega⟩, ⟨by exact BK205.out⟩, ⟨by exact HB.out⟩⟩
                · rw [if_neg c20] at H
                  exact absurd H (by simp)
              · rw [if_neg c19] at H
                have c19b0 : decide (x3_2 < (a0_0.size : Int)) = false := decide_eq_false c19
                clear c19
                obtain rfl := Option.some.inj H
                obtain ⟨hcz28_0, hcz28_1, hfz28_0, hfz28_1⟩ := blkC2 BK205.out
                go_wp2
                go_ret
                exact ⟨by first | rfl | (simp [errW_none, errW_some] <;> rfl) | (simp [*, errW_none, errW_some] <;> rfl), by exact HB.out⟩

/-! ### trustquorumref35_Less: function 35 -/
def trustquorumref35_Less.f (a0_0 : ByteArray) (a0_1 : Int) (a1_0 : ByteArray) (a1_1 : Int) : Option (Bool) := if (Op.bytesLess a0_0.toList a1_0.toList) = true then (some true) else (if a0_0.toList = a1_0.toList then (some (decide (a0_1 < a1_1))) else (some false))
set_option maxHeartbeats 8000000 in
set_option maxRecDepth 100000 in
theorem trustquorumref35_Less.calls (a0_0 : ByteArray) (a0_1 : Int) (a1_0 : ByteArray) (a1_1 : Int) (r : Bool) (w : World) (h : trustquorumref35_Less.f a0_0 a0_1 a1_0 a1_1 = some r) :
    Calls Try.prog 35 #[.agg #[.string a0_0, .int .i64 a0_1], .agg #[.string a1_0, .int .i64 a1_1]] w fun e w' => e = .returned (.bool r) ∧ Below w.heap.size w w' := by
  have hu38 := Try.underlying38
  have HB := Aside0.mk (Below.refl w.heap.size w)
  have H : (if (Op.bytesLess a0_0.toList a1_0.toList) = true then (some true) else (if a0_0.toList = a1_0.toList then (some (decide (a0_1 < a1_1))) else (some false))) = some r := h
  clear h
  by_cases c3 : (Op.bytesLess a0_0.toList a1_0.toList) = true
  · rw [if_pos c3] at H
    have c3b0 : (Op.bytesLess a0_0.toList a1_0.toList) = true := c3
    clear c3
    obtain rfl := Option.some.inj H
    go_enter Try.func35, Try.ntmps35
    go_wp2_with (first | ((with_reducible refine gate_dst (N := 2) rfl ?_); refine box_event ?hg (N := 2) ?hd (cs := #[.string a0_0, .int .i64 a0_1]) (t := 38) ?hr ?_; (case hd => rfl); (case hg => rfl); (case hr => first | (go_simp; done) | (go_simp; rfl)); intro gb207 hg w4 hbox hb; have n0_ := Aside0.mk (below_step (by exact HB.out) hb); have n1_ := Aside0.mk (hbox); have n2_ := Aside0.mk ((by rw [hg]; exact (below_size (by exact HB.out)) : w.heap.size ≤ gb207)); have n3_ := Aside0.mk ((by rw [hg]; exact (below_size (by exact HB.out)) : w.heap.size ≤ gb207)); clear HB; have HB := n0_; have BK207 := n1_; have GW207 := n2_; have GE207 := n3_; clear n0_ n1_ n2_ n3_; clear hb hbox hg) | ((with_reducible refine gate_dst (N := 3) rfl ?_); refine box_event ?hg (N := 3) ?hd (cs := #[.string a1_0, .int .i64 a1_1]) (t := 38) ?hr ?_; (case hd => rfl); (case hg => rfl); (case hr => first | (go_simp; done) | (go_simp; rfl)); intro gb208 hg w5 hbox hb; have n0_ := Aside0.mk (blk_below BK207.out hb); have n1_ := Aside0.mk (below_step (by exact HB.out) hb); have n2_ := Aside0.mk (hbox); have n3_ := Aside0.mk ((by rw [hg]; exact (below_size (by exact HB.out)) : w.heap.size ≤ gb208)); have n4_ := Aside0.mk ((by rw [hg]; exact (below_size (by exact HB.out)) : w.heap.size ≤ gb208)); have n5_ := Aside0.mk ((by rw [hg]; exact Nat.ne_of_lt (blk_lt BK207.out) : gb207 ≠ gb208)); have n6_ := Aside0.mk ((by rw [hg]; exact Nat.ne_of_gt (blk_lt BK207.out) : gb208 ≠ gb207)); clear BK207 HB; have BK207 := n0_; have HB := n1_; have BK208 := n2_; have GW208 := n3_; have GE208 := n4_; have NB207_208 := n5_; have NB208_207 := n6_; clear n0_ n1_ n2_ n3_ n4_ n5_ n6_; clear hb hbox hg; have hnb6 := NB207_208.out; have hnc6 := NB208_207.out; obtain ⟨hcz7_0, hcz7_1, hfz7_0, hfz7_1⟩ := blkC2 BK207.out; obtain ⟨hcz8_0, hcz8_1, hfz8_0, hfz8_1⟩ := blkC2 BK208.out))
    go_ret
    exact ⟨by first | rfl | (simp [errW_none, errW_some] <;> rfl) | (simp [*, errW_none, errW_some] <;> rfl), by exact HB.out⟩
  · rw [if_neg c3] at H
    have c3b0 : (Op.bytesLess a0_0.toList a1_0.toList) = false := by simpa using c3
    clear c3
    by_cases c9 : a0_0.toList = a1_0.toList
    · rw [if_pos c9] at H
      have c9b0 : (a0_0.toList == a1_0.toList) = true := beq_iff_eq.mpr c9
      have c9b1 : (a0_0.toList != a1_0.toList) = false := bne_eq_false_iff_eq.mpr c9
      clear c9
      obtain rfl := Option.some.inj H
      go_enter Try.func35, Try.ntmps35
      go_wp2_with (first | ((with_reducible refine gate_dst (N := 2) rfl ?_); refine box_event ?hg (N := 2) ?hd (cs := #[.string a0_0, .int .i64 a0_1]) (t := 38) ?hr ?_; (case hd => rfl); (case hg => rfl); (case hr => first | (go_simp; done) | (go_simp; rfl)); intro gb207 hg w10 hbox hb; have n0_ := Aside0.mk (below_step (by exact HB.out) hb); have n1_ := Aside0.mk (hbox); have n2_ := Aside0.mk ((by rw [hg]; exact (below_size (by exact HB.out)) : w.heap.size ≤ gb207)); have n3_ := Aside0.mk ((by rw [hg]; exact (below_size (by exact HB.out)) : w.heap.size ≤ gb207)); clear HB; have HB := n0_; have BK207 := n1_; have GW207 := n2_; have GE207 := n3_; clear n0_ n1_ n2_ n3_; clear hb hbox hg) | ((with_reducible refine gate_dst (N := 3) rfl ?_); refine box_event ?hg (N := 3) ?hd (cs := #[.string a1_0, .int .i64 a1_1]) (t := 38) ?hr ?_; (case hd => rfl); (case hg => rfl); (case hr => first | (go_simp; done) | (go_simp; rfl)); intro gb208 hg w11 hbox hb; have n0_ := Aside0.mk (blk_below BK207.out hb); have n1_ := Aside0.mk (below_step (by exact HB.out) hb); have n2_ := Aside0.mk (hbox); have n3_ := Aside0.mk ((by rw [hg]; exact (below_size (by exact HB.out)) : w.heap.size ≤ gb208)); have n4_ := Aside0.mk ((by rw [hg]; exact (below_size (by exact HB.out)) : w.heap.size ≤ gb208)); have n5_ := Aside0.mk ((by rw [hg]; exact Nat.ne_of_lt (blk_lt BK207.out) : gb207 ≠ gb208)); have n6_ := Aside0.mk ((by rw [hg]; exact Nat.ne_of_gt (blk_lt BK207.out) : gb208 ≠ gb207)); clear BK207 HB; have BK207 := n0_; have HB := n1_; have BK208 := n2_; have GW208 := n3_; have GE208 := n4_; have NB207_208 := n5_; have NB208_207 := n6_; clear n0_ n1_ n2_ n3_ n4_ n5_ n6_; clear hb hbox hg; have hnb12 := NB207_208.out; have hnc12 := NB208_207.out; obtain ⟨hcz13_0, hcz13_1, hfz13_0, hfz13_1⟩ := blkC2 BK207.out; obtain ⟨hcz14_0, hcz14_1, hfz14_0, hfz14_1⟩ := blkC2 BK208.out))
      go_ret
      exact ⟨by first | rfl | (simp [errW_none, errW_some] <;> rfl) | (simp [*, errW_none, errW_some] <;> rfl), by exact HB.out⟩
    · rw [if_neg c9] at H
      have c9b0 : (a0_0.toList == a1_0.toList) = false := beq_eq_false_iff_ne.mpr c9
      have c9b1 : (a0_0.toList != a1_0.toList) = true := bne_iff_ne.mpr c9
      obtain rfl := Option.some.inj H
      go_enter Try.func35, Try.ntmps35
      go_wp2_with (first | ((with_reducible refine gate_dst (N := 2) rfl ?_); refine box_event ?hg (N := 2) ?hd (cs := #[.string a0_0, .int .i64 a0_1]) (t := 38) ?hr ?_; (case hd => rfl); (case hg => rfl); (case hr => first | (go_simp; done) | (go_simp; rfl)); intro gb207 hg w15 hbox hb; have n0_ := Aside0.mk (below_step (by exact HB.out) hb); have n1_ := Aside0.mk (hbox); have n2_ := Aside0.mk ((by rw [hg]; exact (below_size (by exact HB.out)) : w.heap.size ≤ gb207)); have n3_ := Aside0.mk ((by rw [hg]; exact (below_size (by exact HB.out)) : w.heap.size ≤ gb207)); clear HB; have HB := n0_; have BK207 := n1_; have GW207 := n2_; have GE207 := n3_; clear n0_ n1_ n2_ n3_; clear hb hbox hg) | ((with_reducible refine gate_dst (N := 3) rfl ?_); refine box_event ?hg (N := 3) ?hd (cs := #[.string a1_0, .int .i64 a1_1]) (t := 38) ?hr ?_; (case hd => rfl); (case hg => rfl); (case hr => first | (go_simp; done) | (go_simp; rfl)); intro gb208 hg w16 hbox hb; have n0_ := Aside0.mk (blk_below BK207.out hb); have n1_ := Aside0.mk (below_step (by exact HB.out) hb); have n2_ := Aside0.mk (hbox); have n3_ := Aside0.mk ((by rw [hg]; exact (below_size (by exact HB.out)) : w.heap.size ≤ gb208)); have n4_ := Aside0.mk ((by rw [hg]; exact (below_size (by exact HB.out)) : w.heap.size ≤ gb208)); have n5_ := Aside0.mk ((by rw [hg]; exact Nat.ne_of_lt (blk_lt BK207.out) : gb207 ≠ gb208)); have n6_ := Aside0.mk ((by rw [hg]; exact Nat.ne_of_gt (blk_lt BK207.out) : gb208 ≠ gb207)); clear BK207 HB; have BK207 := n0_; have HB := n1_; have BK208 := n2_; have GW208 := n3_; have GE208 := n4_; have NB207_208 := n5_; have NB208_207 := n6_; clear n0_ n1_ n2_ n3_ n4_ n5_ n6_; clear hb hbox hg; have hnb17 := NB207_208.out; have hnc17 := NB208_207.out; obtain ⟨hcz18_0, hcz18_1, hfz18_0, hfz18_1⟩ := blkC2 BK207.out; obtain ⟨hcz19_0, hcz19_1, hfz19_0, hfz19_1⟩ := blkC2 BK208.out))
      go_ret
      exact ⟨by first | rfl | (simp [errW_none, errW_some] <;> rfl) | (simp [*, errW_none, errW_some] <;> rfl), by exact HB.out⟩

end Go.Proofs.Ytkiebhjbnnnikaa.QAmountExact
