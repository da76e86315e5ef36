/- Lean functions that answer as the Go functions do which the law reaches, and proofs that the Go code comes to exactly these answers. Conditions: those that each theorem names. -/
import Derived.Test.YtkiebhjbnnnikaaQAmountRoundsx0
import Derived.Test.YtkiebhjbnnnikaaQAmountRoundsx2
namespace Go.Proofs.Ytkiebhjbnnnikaa.QAmountRounds
open Go.RowKit Go.Proofs.YtkiebhjbnnnikaaW.PrintWords Go.Proofs.YtkiebhjbnnnikaaW.PrintLast Go.Proofs.YtkiebhjbnnnikaaW.PrintMore
attribute [local go_sem] max2_int min2_int max_two min_two max_three min_three max_four min_four   -- for this text's walks alone
set_option linter.unusedVariables false
set_option linter.unusedSimpArgs false

/-! ### trustquorumlaw35_sane: function 10 -/
def trustquorumlaw35_sane.f (k : Nat)  : Option (Bool) := (amount_Down.f k 10 1 3).bind fun bt123 => ((amount_Up.f k 10 1 3).bind fun bt125 => ((amount_Reduce.f k 4 6).bind fun bt127 => (if bt123.2 = 0 then (if bt125.2 = 0 then (if bt123.1 = 3 then (if bt125.1 = 4 then (if bt127.1 = 2 then (if bt127.2 = 3 then ((amount_Compare.f 1 2 2 3).bind fun t129 => (if t129 = (-1) then ((amount_Asset.f (⟨#[]⟩ : ByteArray) 0).bind fun t130 => (if t130 = true then ((amount_Native.f (⟨#[]⟩ : ByteArray) 0).bind fun t131 => (some t131)) else (some false))) else (some false))) else (some false)) else (some false)) else (some false)) else (some false)) else (some false)) else (some false))))
theorem trustquorumlaw35_sane.mono : ∀ k, LeO (trustquorumlaw35_sane.f k ) (trustquorumlaw35_sane.f (k + 1) ) := by
  intro  k
  unfold trustquorumlaw35_sane.f
  repeat' first
      | (with_reducible exact amount_Down.mono _ _ _ _)
      | (with_reducible exact amount_Reduce.mono _ _ _)
      | (with_reducible exact amount_Up.mono _ _ _ _)
      | (with_reducible exact LeO.refl _)
      | (with_reducible exact LeO.none _)
      | (with_reducible refine LeO.ite ?_ ?_)
      | (with_reducible refine LeO.bind ?_ (fun _ => ?_))
      | exact amount_Down.mono _ _ _ _
      | exact amount_Reduce.mono _ _ _
      | exact amount_Up.mono _ _ _ _
      | exact LeO.none _
      | refine LeO.ite ?_ ?_
      | refine LeO.bind ?_ (fun _ => ?_)
set_option maxHeartbeats 8000000 in
set_option maxRecDepth 100000 in
theorem trustquorumlaw35_sane.calls (k : Nat)  (r : Bool) (w : World) (h : trustquorumlaw35_sane.f k  = some r) :
    Calls Try.prog 10 #[] w fun e w' => e = .returned (.bool r) ∧ Below w.heap.size w w' := by
  have hu38 := Try.underlying38
  have HB := Aside0.mk (Below.refl w.heap.size w)
  have H : ((amount_Down.f k 10 1 3).bind fun bt123 => ((amount_Up.f k 10 1 3).bind fun bt125 => ((amount_Reduce.f k 4 6).bind fun bt127 => (if bt123.2 = 0 then (if bt125.2 = 0 then (if bt123.1 = 3 then (if bt125.1 = 4 then (if bt127.1 = 2 then (if bt127.2 = 3 then ((amount_Compare.f 1 2 2 3).bind fun t129 => (if t129 = (-1) then ((amount_Asset.f (⟨#[]⟩ : ByteArray) 0).bind fun t130 => (if t130 = true then ((amount_Native.f (⟨#[]⟩ : ByteArray) 0).bind fun t131 => (some t131)) else (some false))) else (some false))) else (some false)) else (some false)) else (some false)) else (some false)) else (some false)) else (some false))))) = some r := h
  clear h
  replace H := Option.bind_eq_some_iff.mp H
  obtain ⟨⟨t123, t124⟩, A10, H⟩ := H
  replace H : ((amount_Up.f k 10 1 3).bind fun bt125 => ((amount_Reduce.f k 4 6).bind fun bt127 => (if t124 = 0 then (if bt125.2 = 0 then (if t123 = 3 then (if bt125.1 = 4 then (if bt127.1 = 2 then (if bt127.2 = 3 then ((amount_Compare.f 1 2 2 3).bind fun t129 => (if t129 = (-1) then ((amount_Asset.f (⟨#[]⟩ : ByteArray) 0).bind fun t130 => (if t130 = true then ((amount_Native.f (⟨#[]⟩ : ByteArray) 0).bind fun t131 => (some t131)) else (some false))) else (some false))) else (some false)) else (some false)) else (some false)) else (some false)) else (some false)) else (some false)))) = some r := H
  have A1 := Aside0.mk A10
  clear A10
  replace H := Option.bind_eq_some_iff.mp H
  obtain ⟨⟨t125, t126⟩, A20, H⟩ := H
  replace H : ((amount_Reduce.f k 4 6).bind fun bt127 => (if t124 = 0 then (if t126 = 0 then (if t123 = 3 then (if t125 = 4 then (if bt127.1 = 2 then (if bt127.2 = 3 then ((amount_Compare.f 1 2 2 3).bind fun t129 => (if t129 = (-1) then ((amount_Asset.f (⟨#[]⟩ : ByteArray) 0).bind fun t130 => (if t130 = true then ((amount_Native.f (⟨#[]⟩ : ByteArray) 0).bind fun t131 => (some t131)) else (some false))) else (some false))) else (some false)) else (some false)) else (some false)) else (some false)) else (some false)) else (some false))) = some r := H
  have A2 := Aside0.mk A20
  clear A20
  replace H := Option.bind_eq_some_iff.mp H
  obtain ⟨⟨t127, t128⟩, A30, H⟩ := H
  replace H : (if t124 = 0 then (if t126 = 0 then (if t123 = 3 then (if t125 = 4 then (if t127 = 2 then (if t128 = 3 then ((amount_Compare.f 1 2 2 3).bind fun t129 => (if t129 = (-1) then ((amount_Asset.f (⟨#[]⟩ : ByteArray) 0).bind fun t130 => (if t130 = true then ((amount_Native.f (⟨#[]⟩ : ByteArray) 0).bind fun t131 => (some t131)) else (some false))) else (some false))) else (some false)) else (some false)) else (some false)) else (some false)) else (some false)) else (some false)) = some r := H
  have A3 := Aside0.mk A30
  clear A30
  by_cases c4 : t124 = 0
  · rw [if_pos c4] at H
    have c4b0 : (t124 == 0) = true := beq_iff_eq.mpr c4
    have c4b1 : (t124 != 0) = false := bne_eq_false_iff_eq.mpr c4
    clear c4
    by_cases c5 : t126 = 0
    · rw [if_pos c5] at H
      have c5b0 : (t126 == 0) = true := beq_iff_eq.mpr c5
      have c5b1 : (t126 != 0) = false := bne_eq_false_iff_eq.mpr c5
      clear c5
      by_cases c6 : t123 = 3
      · rw [if_pos c6] at H
        have c6b0 : (t123 == 3) = true := beq_iff_eq.mpr c6
        have c6b1 : (t123 != 3) = false := bne_eq_false_iff_eq.mpr c6
        clear c6
        by_cases c7 : t125 = 4
        · rw [if_pos c7] at H
          have c7b0 : (t125 == 4) = true := beq_iff_eq.mpr c7
          have c7b1 : (t125 != 4) = false := bne_eq_false_iff_eq.mpr c7
          clear c7
          by_cases c8 : t127 = 2
          · rw [if_pos c8] at H
            have c8b0 : (t127 == 2) = true := beq_iff_eq.mpr c8
            have c8b1 : (t127 != 2) = false := bne_eq_false_iff_eq.mpr c8
            clear c8
            by_cases c9 : t128 = 3
            · rw [if_pos c9] at H
              have c9b0 : (t128 == 3) = true := beq_iff_eq.mpr c9
              have c9b1 : (t128 != 3) = false := bne_eq_false_iff_eq.mpr c9
              clear c9
              replace H := Option.bind_eq_some_iff.mp H
              obtain ⟨t129, A100, H⟩ := H
              replace H : (if t129 = (-1) then ((amount_Asset.f (⟨#[]⟩ : ByteArray) 0).bind fun t130 => (if t130 = true then ((amount_Native.f (⟨#[]⟩ : ByteArray) 0).bind fun t131 => (some t131)) else (some false))) else (some false)) = some r := H
              have A10 := Aside0.mk A100
              clear A100
              by_cases c11 : t129 = (-1)
              · rw [if_pos c11] at H
                have c11b0 : (t129 == (-1)) = true := beq_iff_eq.mpr c11
                have c11b1 : (t129 != (-1)) = false := bne_eq_false_iff_eq.mpr c11
                clear c11
                replace H := Option.bind_eq_some_iff.mp H
                obtain ⟨t130, A120, H⟩ := H
                replace H : (if t130 = true then ((amount_Native.f (⟨#[]⟩ : ByteArray) 0).bind fun t131 => (some t131)) else (some false)) = some r := H
                have A12 := Aside0.mk A120
                clear A120
                by_cases c13 : t130 = true
                · subst c13
                  have H1 : ((amount_Native.f (⟨#[]⟩ : ByteArray) 0).bind fun t131 => (some t131)) = some r := by rw [if_pos rfl] at H; exact H
                  clear H
                  have H := H1
                  clear H1
                  replace H := Option.bind_eq_some_iff.mp H
                  obtain ⟨t131, A140, H⟩ := H
                  replace H : (some t131) = some r := H
                  have A14 := Aside0.mk A140
                  clear A140
                  obtain rfl := Option.some.inj H
                  go_enter Try.func10, Try.ntmps10
                  go_wp2_with (first | ((with_reducible refine gate_callee (f := 8) rfl ?_); refine goesL_ (some 8) rfl rfl Try.func8 (by kernel_rfl) rfl #[.int .i64 10, .int .i64 1, .int .i64 3] rfl (by (try simp only [List.map_toArray, List.map_cons, List.map_nil]); first | done | rfl | (simp only [List.length_drop, List.length_take]; rfl)) ?_; (with_reducible refine (amount_Down.calls k 10 1 3 t123 t124 _ A1.out).mono ?_); rintro e w15 ⟨rfl, hb⟩; refine ⟨_, rfl, ?_⟩; have n0_ := Aside0.mk (below_step (by repeat (first | (with_reducible first | exact HB.out | apply below_alloc | apply pw_below_drewN | apply below_drew1) | exact HB.out)) hb); clear HB; have HB := n0_; clear n0_; (try clear hb); (try clear hb2); (try clear hk); (try clear hi)) | ((with_reducible refine gate_callee (f := 9) rfl ?_); refine goesL_ (some 12) rfl rfl Try.func9 (by kernel_rfl) rfl #[.int .i64 10, .int .i64 1, .int .i64 3] rfl (by (try simp only [List.map_toArray, List.map_cons, List.map_nil]); first | done | rfl | (simp only [List.length_drop, List.length_take]; rfl)) ?_; (with_reducible refine (amount_Up.calls k 10 1 3 t125 t126 _ A2.out).mono ?_); rintro e w16 ⟨rfl, hb⟩; refine ⟨_, rfl, ?_⟩; have n0_ := Aside0.mk (below_step (by repeat (first | (with_reducible first | exact HB.out | apply below_alloc | apply pw_below_drewN | apply below_drew1) | exact HB.out)) hb); clear HB; have HB := n0_; clear n0_; (try clear hb); (try clear hb2); (try clear hk); (try clear hi)) | ((with_reducible refine gate_callee (f := 11) rfl ?_); refine goesL_ (some 16) rfl rfl Try.func11 (by kernel_rfl) rfl #[.int .i64 4, .int .i64 6] rfl (by (try simp only [List.map_toArray, List.map_cons, List.map_nil]); first | done | rfl | (simp only [List.length_drop, List.length_take]; rfl)) ?_; (with_reducible refine (amount_Reduce.calls k 4 6 t127 t128 _ A3.out).mono ?_); rintro e w' ⟨rfl, ⟨nd, rfl⟩⟩; refine ⟨_, rfl, ?_⟩) | (go_at_call 12; (with_reducible refine (amount_Compare.calls 1 2 2 3 t129 _ A10.out).mono ?_); rintro e w' ⟨rfl, ⟨nd, rfl⟩⟩) | (go_at_call 18; (with_reducible refine (amount_Asset.calls (⟨#[]⟩ : ByteArray) 0 true _ A12.out).mono ?_); rintro e w17 ⟨rfl, hb⟩; have n0_ := Aside0.mk (below_step (by repeat (first | (with_reducible first | exact HB.out | apply below_alloc | apply pw_below_drewN | apply below_drew1) | exact HB.out)) hb); clear HB; have HB := n0_; clear n0_; (try clear hb); (try clear hb2); (try clear hk); (try clear hi)) | (go_at_call 19; (with_reducible refine (amount_Native.calls (⟨#[]⟩ : ByteArray) 0 t131 _ A14.out).mono ?_); rintro e w18 ⟨rfl, hb⟩; have n0_ := Aside0.mk (below_step (by repeat (first | (with_reducible first | exact HB.out | apply below_alloc | apply pw_below_drewN | apply below_drew1) | exact HB.out)) hb); clear HB; have HB := n0_; clear n0_; (try clear hb); (try clear hb2); (try clear hk); (try clear hi)))
                  go_ret
                  exact ⟨by first | rfl | (simp [errW_none, errW_some] <;> rfl) | (simp [*, errW_none, errW_some] <;> rfl), by repeat (first | (with_reducible first | exact HB.out | apply below_alloc | apply pw_below_drewN | apply below_drew1) | exact HB.out)⟩
                · replace c13 := Bool.eq_false_iff.mpr c13
                  subst c13
                  have H1 : (some false) = some r := by rw [if_neg (show ¬ (false = true) by decide)] at H; exact H
                  clear H
                  have H := H1
                  clear H1
                  obtain rfl := Option.some.inj H
                  go_enter Try.func10, Try.ntmps10
                  go_wp2_with (first | ((with_reducible refine gate_callee (f := 8) rfl ?_); refine goesL_ (some 8) rfl rfl Try.func8 (by kernel_rfl) rfl #[.int .i64 10, .int .i64 1, .int .i64 3] rfl (by (try simp only [List.map_toArray, List.map_cons, List.map_nil]); first | done | rfl | (simp only [List.length_drop, List.length_take]; rfl)) ?_; (with_reducible refine (amount_Down.calls k 10 1 3 t123 t124 _ A1.out).mono ?_); rintro e w19 ⟨rfl, hb⟩; refine ⟨_, rfl, ?_⟩; have n0_ := Aside0.mk (below_step (by repeat (first | (with_reducible first | exact HB.out | apply below_alloc | apply pw_below_drewN | apply below_drew1) | exact HB.out)) hb); clear HB; have HB := n0_; clear n0_; (try clear hb); (try clear hb2); (try clear hk); (try clear hi)) | ((with_reducible refine gate_callee (f := 9) rfl ?_); refine goesL_ (some 12) rfl rfl Try.func9 (by kernel_rfl) rfl #[.int .i64 10, .int .i64 1, .int .i64 3] rfl (by (try simp only [List.map_toArray, List.map_cons, List.map_nil]); first | done | rfl | (simp only [List.length_drop, List.length_take]; rfl)) ?_; (with_reducible refine (amount_Up.calls k 10 1 3 t125 t126 _ A2.out).mono ?_); rintro e w20 ⟨rfl, hb⟩; refine ⟨_, rfl, ?_⟩; have n0_ := Aside0.mk (below_step (by repeat (first | (with_reducible first | exact HB.out | apply below_alloc | apply pw_below_drewN | apply below_drew1) | exact HB.out)) hb); clear HB; have HB := n0_; clear n0_; (try clear hb); (try clear hb2); (try clear hk); (try clear hi)) | ((with_reducible refine gate_callee (f := 11) rfl ?_); refine goesL_ (some 16) rfl rfl Try.func11 (by kernel_rfl) rfl #[.int .i64 4, .int .i64 6] rfl (by (try simp only [List.map_toArray, List.map_cons, List.map_nil]); first | done | rfl | (simp only [List.length_drop, List.length_take]; rfl)) ?_; (with_reducible refine (amount_Reduce.calls k 4 6 t127 t128 _ A3.out).mono ?_); rintro e w' ⟨rfl, ⟨nd, rfl⟩⟩; refine ⟨_, rfl, ?_⟩) | (go_at_call 12; (with_reducible refine (amount_Compare.calls 1 2 2 3 t129 _ A10.out).mono ?_); rintro e w' ⟨rfl, ⟨nd, rfl⟩⟩) | (go_at_call 18; (with_reducible refine (amount_Asset.calls (⟨#[]⟩ : ByteArray) 0 false _ A12.out).mono ?_); rintro e w21 ⟨rfl, hb⟩; have n0_ := Aside0.mk (below_step (by repeat (first | (with_reducible first | exact HB.out | apply below_alloc | apply pw_below_drewN | apply below_drew1) | exact HB.out)) hb); clear HB; have HB := n0_; clear n0_; (try clear hb); (try clear hb2); (try clear hk); (try clear hi)))
                  go_ret
                  exact ⟨by first | rfl | (simp [errW_none, errW_some] <;> rfl) | (simp [*, errW_none, errW_some] <;> rfl), by repeat (first | (with_reducible first | exact HB.out | apply below_alloc | apply pw_below_drewN | apply below_drew1) | exact HB.out)⟩
              · rw [if_neg c11] at H
                have c11b0 : (t129 == (-1)) = false := beq_eq_false_iff_ne.mpr c11
                have c11b1 : (t129 != (-1)) = true := bne_iff_ne.mpr c11
                obtain rfl := Option.some.inj H
                go_enter Try.func10, Try.ntmps10
                go_wp2_with (first | ((with_reducible refine gate_callee (f := 8) rfl ?_); refine goesL_ (some 8) rfl rfl Try.func8 (by kernel_rfl) rfl #[.int .i64 10, .int .i64 1, .int .i64 3] rfl (by (try simp only [List.map_toArray, List.map_cons, List.map_nil]); first | done | rfl | (simp only [List.length_drop, List.length_take]; rfl)) ?_; (with_reducible refine (amount_Down.calls k 10 1 3 t123 t124 _ A1.out).mono ?_); rintro e w22 ⟨rfl, hb⟩; refine ⟨_, rfl, ?_⟩; have n0_ := Aside0.mk (below_step (by repeat (first | (with_reducible first | exact HB.out | apply below_alloc | apply pw_below_drewN | apply below_drew1) | exact HB.out)) hb); clear HB; have HB := n0_; clear n0_; (try clear hb); (try clear hb2); (try clear hk); (try clear hi)) | ((with_reducible refine gate_callee (f := 9) rfl ?_); refine goesL_ (some 12) rfl rfl Try.func9 (by kernel_rfl) rfl #[.int .i64 10, .int .i64 1, .int .i64 3] rfl (by (try simp only [List.map_toArray, List.map_cons, List.map_nil]); first | done | rfl | (simp only [List.length_drop, List.length_take]; rfl)) ?_; (with_reducible refine (amount_Up.calls k 10 1 3 t125 t126 _ A2.out).mono ?_); rintro e w23 ⟨rfl, hb⟩; refine ⟨_, rfl, ?_⟩; have n0_ := Aside0.mk (below_step (by repeat (first | (with_reducible first | exact HB.out | apply below_alloc | apply pw_below_drewN | apply below_drew1) | exact HB.out)) hb); clear HB; have HB := n0_; clear n0_; (try clear hb); (try clear hb2); (try clear hk); (try clear hi)) | ((with_reducible refine gate_callee (f := 11) rfl ?_); refine goesL_ (some 16) rfl rfl Try.func11 (by kernel_rfl) rfl #[.int .i64 4, .int .i64 6] rfl (by (try simp only [List.map_toArray, List.map_cons, List.map_nil]); first | done | rfl | (simp only [List.length_drop, List.length_take]; rfl)) ?_; (with_reducible refine (amount_Reduce.calls k 4 6 t127 t128 _ A3.out).mono ?_); rintro e w' ⟨rfl, ⟨nd, rfl⟩⟩; refine ⟨_, rfl, ?_⟩) | (go_at_call 12; (with_reducible refine (amount_Compare.calls 1 2 2 3 t129 _ A10.out).mono ?_); rintro e w' ⟨rfl, ⟨nd, rfl⟩⟩))
                go_ret
                exact ⟨by first | rfl | (simp [errW_none, errW_some] <;> rfl) | (simp [*, errW_none, errW_some] <;> rfl), by repeat (first | (with_reducible first | exact HB.out | apply below_alloc | apply pw_below_drewN | apply below_drew1) | exact HB.out)⟩
            · rw [if_neg c9] at H
              have c9b0 : (t128 == 3) = false := beq_eq_false_iff_ne.mpr c9
              have c9b1 : (t128 != 3) = true := bne_iff_ne.mpr c9
              obtain rfl := Option.some.inj H
              go_enter Try.func10, Try.ntmps10
              go_wp2_with (first | ((with_reducible refine gate_callee (f := 8) rfl ?_); refine goesL_ (some 8) rfl rfl Try.func8 (by kernel_rfl) rfl #[.int .i64 10, .int .i64 1, .int .i64 3] rfl (by (try simp only [List.map_toArray, List.map_cons, List.map_nil]); first | done | rfl | (simp only [List.length_drop, List.length_take]; rfl)) ?_; (with_reducible refine (amount_Down.calls k 10 1 3 t123 t124 _ A1.out).mono ?_); rintro e w24 ⟨rfl, hb⟩; refine ⟨_, rfl, ?_⟩; have n0_ := Aside0.mk (below_step (by repeat (first | (with_reducible first | exact HB.out | apply below_alloc | apply pw_below_drewN | apply below_drew1) | exact HB.out)) hb); clear HB; have HB := n0_; clear n0_; (try clear hb); (try clear hb2); (try clear hk); (try clear hi)) | ((with_reducible refine gate_callee (f := 9) rfl ?_); refine goesL_ (some 12) rfl rfl Try.func9 (by kernel_rfl) rfl #[.int .i64 10, .int .i64 1, .int .i64 3] rfl (by (try simp only [List.map_toArray, List.map_cons, List.map_nil]); first | done | rfl | (simp only [List.length_drop, List.length_take]; rfl)) ?_; (with_reducible refine (amount_Up.calls k 10 1 3 t125 t126 _ A2.out).mono ?_); rintro e w25 ⟨rfl, hb⟩; refine ⟨_, rfl, ?_⟩; have n0_ := Aside0.mk (below_step (by repeat (first | (with_reducible first | exact HB.out | apply below_alloc | apply pw_below_drewN | apply below_drew1) | exact HB.out)) hb); clear HB; have HB := n0_; clear n0_; (try clear hb); (try clear hb2); (try clear hk); (try clear hi)) | ((with_reducible refine gate_callee (f := 11) rfl ?_); refine goesL_ (some 16) rfl rfl Try.func11 (by kernel_rfl) rfl #[.int .i64 4, .int .i64 6] rfl (by (try simp only [List.map_toArray, List.map_cons, List.map_nil]); first | done | rfl | (simp only [List.length_drop, List.length_take]; rfl)) ?_; (with_reducible refine (amount_Reduce.calls k 4 6 t127 t128 _ A3.out).mono ?_); rintro e w' ⟨rfl, ⟨nd, rfl⟩⟩; refine ⟨_, rfl, ?_⟩))
              go_ret
              exact ⟨by first | rfl | (simp [errW_none, errW_some] <;> rfl) | (simp [*, errW_none, errW_some] <;> rfl), by repeat (first | (with_reducible first | exact HB.out | apply below_alloc | apply pw_below_drewN | apply below_drew1) | exact HB.out)⟩
          · rw [if_neg c8] at H
            have c8b0 : (t127 == 2) = false := beq_eq_false_iff_ne.mpr c8
            have c8b1 : (t127 != 2) = true := bne_iff_ne.mpr c8
            obtain rfl := Option.some.inj H
            go_enter Try.func10, Try.ntmps10
            go_wp2_with (first | ((with_reducible refine gate_callee (f := 8) rfl ?_); refine goesL_ (some 8) rfl rfl Try.func8 (by kernel_rfl) rfl #[.int .i64 10, .int .i64 1, .int .i64 3] rfl (by (try simp only [List.map_toArray, List.map_cons, List.map_nil]); first | done | rfl | (simp only [List.length_drop, List.length_take]; rfl)) ?_; (with_reducible refine (amount_Down.calls k 10 1 3 t123 t124 _ A1.out).mono ?_); rintro e w26 ⟨rfl, hb⟩; refine ⟨_, rfl, ?_⟩; have n0_ := Aside0.mk (below_step (by repeat (first | (with_reducible first | exact HB.out | apply below_alloc | apply pw_below_drewN | apply below_drew1) | exact HB.out)) hb); clear HB; have HB := n0_; clear n0_; (try clear hb); (try clear hb2); (try clear hk); (try clear hi)) | ((with_reducible refine gate_callee (f := 9) rfl ?_); refine goesL_ (some 12) rfl rfl Try.func9 (by kernel_rfl) rfl #[.int .i64 10, .int .i64 1, .int .i64 3] rfl (by (try simp only [List.map_toArray, List.map_cons, List.map_nil]); first | done | rfl | (simp only [List.length_drop, List.length_take]; rfl)) ?_; (with_reducible refine (amount_Up.calls k 10 1 3 t125 t126 _ A2.out).mono ?_); rintro e w27 ⟨rfl, hb⟩; refine ⟨_, rfl, ?_⟩; have n0_ := Aside0.mk (below_step (by repeat (first | (with_reducible first | exact HB.out | apply below_alloc | apply pw_below_drewN | apply below_drew1) | exact HB.out)) hb); clear HB; have HB := n0_; clear n0_; (try clear hb); (try clear hb2); (try clear hk); (try clear hi)) | ((with_reducible refine gate_callee (f := 11) rfl ?_); refine goesL_ (some 16) rfl rfl Try.func11 (by kernel_rfl) rfl #[.int .i64 4, .int .i64 6] rfl (by (try simp only [List.map_toArray, List.map_cons, List.map_nil]); first | done | rfl | (simp only [List.length_drop, List.length_take]; rfl)) ?_; (with_reducible refine (amount_Reduce.calls k 4 6 t127 t128 _ A3.out).mono ?_); rintro e w' ⟨rfl, ⟨nd, rfl⟩⟩; refine ⟨_, rfl, ?_⟩))
            go_ret
            exact ⟨by first | rfl | (simp [errW_none, errW_some] <;> rfl) | (simp [*, errW_none, errW_some] <;> rfl), by repeat (first | (with_reducible first | exact HB.out | apply below_alloc | apply pw_below_drewN | apply below_drew1) | exact HB.out)⟩
        · rw [if_neg c7] at H
          have c7b0 : (t125 == 4) = false := beq_eq_false_iff_ne.mpr c7
          have c7b1 : (t125 != 4) = true := bne_iff_ne.mpr c7
          obtain rfl := Option.some.inj H
          go_enter Try.func10, Try.ntmps10
          go_wp2_with (first | ((with_reducible refine gate_callee (f := 8) rfl ?_); refine goesL_ (some 8) rfl rfl Try.func8 (by kernel_rfl) rfl #[.int .i64 10, .int .i64 1, .int .i64 3] rfl (by (try simp only [List.map_toArray, List.map_cons, List.map_nil]); first | done | rfl | (simp only [List.length_drop, List.length_take]; rfl)) ?_; (with_reducible refine (amount_Down.calls k 10 1 3 t123 t124 _ A1.out).mono ?_); rintro e w28 ⟨rfl, hb⟩; refine ⟨_, rfl, ?_⟩; have n0_ := Aside0.mk (below_step (by repeat (first | (with_reducible first | exact HB.out | apply below_alloc | apply pw_below_drewN | apply below_drew1) | exact HB.out)) hb); clear HB; have HB := n0_; clear n0_; (try clear hb); (try clear hb2); (try clear hk); (try clear hi)) | ((with_reducible refine gate_callee (f := 9) rfl ?_); refine goesL_ (some 12) rfl rfl Try.func9 (by kernel_rfl) rfl #[.int .i64 10, .int .i64 1, .int .i64 3] rfl (by (try simp only [List.map_toArray, List.map_cons, List.map_nil]); first | done | rfl | (simp only [List.length_drop, List.length_take]; rfl)) ?_; (with_reducible refine (amount_Up.calls k 10 1 3 t125 t126 _ A2.out).mono ?_); rintro e w29 ⟨rfl, hb⟩; refine ⟨_, rfl, ?_⟩; have n0_ := Aside0.mk (below_step (by repeat (first | (with_reducible first | exact HB.out | apply below_alloc | apply pw_below_drewN | apply below_drew1) | exact HB.out)) hb); clear HB; have HB := n0_; clear n0_; (try clear hb); (try clear hb2); (try clear hk); (try clear hi)) | ((with_reducible refine gate_callee (f := 11) rfl ?_); refine goesL_ (some 16) rfl rfl Try.func11 (by kernel_rfl) rfl #[.int .i64 4, .int .i64 6] rfl (by (try simp only [List.map_toArray, List.map_cons, List.map_nil]); first | done | rfl | (simp only [List.length_drop, List.length_take]; rfl)) ?_; (with_reducible refine (amount_Reduce.calls k 4 6 t127 t128 _ A3.out).mono ?_); rintro e w' ⟨rfl, ⟨nd, rfl⟩⟩; refine ⟨_, rfl, ?_⟩))
          go_ret
          exact ⟨by first | rfl | (simp [errW_none, errW_some] <;> rfl) | (simp [*, errW_none, errW_some] <;> rfl), by repeat (first | (with_reducible first | exact HB.out | apply below_alloc | apply pw_below_drewN | apply below_drew1) | exact HB.out)⟩
      · rw [if_neg c6] at H
        have c6b0 : (t123 == 3) = false := beq_eq_false_iff_ne.mpr c6
        have c6b1 : (t123 != 3) = true := bne_iff_ne.mpr c6
        obtain rfl := Option.some.inj H
        go_enter Try.func10, Try.ntmps10
        go_wp2_with (first | ((with_reducible refine gate_callee (f := 8) rfl ?_); refine goesL_ (some 8) rfl rfl Try.func8 (by kernel_rfl) rfl #[.int .i64 10, .int .i64 1, .int .i64 3] rfl (by (try simp only [List.map_toArray, List.map_cons, List.map_nil]); first | done | rfl | (simp only [List.length_drop, List.length_take]; rfl)) ?_; (with_reducible refine (amount_Down.calls k 10 1 3 t123 t124 _ A1.out).mono ?_); rintro e w30 ⟨rfl, hb⟩; refine ⟨_, rfl, ?_⟩; have n0_ := Aside0.mk (below_step (by repeat (first | (with_reducible first | exact HB.out | apply below_alloc | apply pw_below_drewN | apply below_drew1) | exact HB.out)) hb); clear HB; have HB := n0_; clear n0_; (try clear hb); (try clear hb2); (try clear hk); (try clear hi)) | ((with_reducible refine gate_callee (f := 9) rfl ?_); refine goesL_ (some 12) rfl rfl Try.func9 (by kernel_rfl) rfl #[.int .i64 10, .int .i64 1, .int .i64 3] rfl (by (try simp only [List.map_toArray, List.map_cons, List.map_nil]); first | done | rfl | (simp only [List.length_drop, List.length_take]; rfl)) ?_; (with_reducible refine (amount_Up.calls k 10 1 3 t125 t126 _ A2.out).mono ?_); rintro e w31 ⟨rfl, hb⟩; refine ⟨_, rfl, ?_⟩; have n0_ := Aside0.mk (below_step (by repeat (first | (with_reducible first | exact HB.out | apply below_alloc | apply pw_below_drewN | apply below_drew1) | exact HB.out)) hb); clear HB; have HB := n0_; clear n0_; (try clear hb); (try clear hb2); (try clear hk); (try clear hi)) | ((with_reducible refine gate_callee (f := 11) rfl ?_); refine goesL_ (some 16) rfl rfl Try.func11 (by kernel_rfl) rfl #[.int .i64 4, .int .i64 6] rfl (by (try simp only [List.map_toArray, List.map_cons, List.map_nil]); first | done | rfl | (simp only [List.length_drop, List.length_take]; rfl)) ?_; (with_reducible refine (amount_Reduce.calls k 4 6 t127 t128 _ A3.out).mono ?_); rintro e w' ⟨rfl, ⟨nd, rfl⟩⟩; refine ⟨_, rfl, ?_⟩))
        go_ret
        exact ⟨by first | rfl | (simp [errW_none, errW_some] <;> rfl) | (simp [*, errW_none, errW_some] <;> rfl), by repeat (first | (with_reducible first | exact HB.out | apply below_alloc | apply pw_below_drewN | apply below_drew1) | exact HB.out)⟩
    · rw [if_neg c5] at H
      have c5b0 : (t126 == 0) = false := beq_eq_false_iff_ne.mpr c5
      have c5b1 : (t126 != 0) = true := bne_iff_ne.mpr c5
      obtain rfl := Option.some.inj H
      go_enter Try.func10, Try.ntmps10
      go_wp2_with (first | ((with_reducible refine gate_callee (f := 8) rfl ?_); refine goesL_ (some 8) rfl rfl Try.func8 (by kernel_rfl) rfl #[.int .i64 10, .int .i64 1, .int .i64 3] rfl (by (try simp only [List.map_toArray, List.map_cons, List.map_nil]); first | done | rfl | (simp only [List.length_drop, List.length_take]; rfl)) ?_; (with_reducible refine (amount_Down.calls k 10 1 3 t123 t124 _ A1.out).mono ?_); rintro e w32 ⟨rfl, hb⟩; refine ⟨_, rfl, ?_⟩; have n0_ := Aside0.mk (below_step (by repeat (first | (with_reducible first | exact HB.out | apply below_alloc | apply pw_below_drewN | apply below_drew1) | exact HB.out)) hb); clear HB; have HB := n0_; clear n0_; (try clear hb); (try clear hb2); (try clear hk); (try clear hi)) | ((with_reducible refine gate_callee (f := 9) rfl ?_); refine goesL_ (some 12) rfl rfl Try.func9 (by kernel_rfl) rfl #[.int .i64 10, .int .i64 1, .int .i64 3] rfl (by (try simp only [List.map_toArray, List.map_cons, List.map_nil]); first | done | rfl | (simp only [List.length_drop, List.length_take]; rfl)) ?_; (with_reducible refine (amount_Up.calls k 10 1 3 t125 t126 _ A2.out).mono ?_); rintro e w33 ⟨rfl, hb⟩; refine ⟨_, rfl, ?_⟩; have n0_ := Aside0.mk (below_step (by repeat (first | (with_reducible first | exact HB.out | apply below_alloc | apply pw_below_drewN | apply below_drew1) | exact HB.out)) hb); clear HB; have HB := n0_; clear n0_; (try clear hb); (try clear hb2); (try clear hk); (try clear hi)) | ((with_reducible refine gate_callee (f := 11) rfl ?_); refine goesL_ (some 16) rfl rfl Try.func11 (by kernel_rfl) rfl #[.int .i64 4, .int .i64 6] rfl (by (try simp only [List.map_toArray, List.map_cons, List.map_nil]); first | done | rfl | (simp only [List.length_drop, List.length_take]; rfl)) ?_; (with_reducible refine (amount_Reduce.calls k 4 6 t127 t128 _ A3.out).mono ?_); rintro e w' ⟨rfl, ⟨nd, rfl⟩⟩; refine ⟨_, rfl, ?_⟩))
      go_ret
      exact ⟨by first | rfl | (simp [errW_none, errW_some] <;> rfl) | (simp [*, errW_none, errW_some] <;> rfl), by repeat (first | (with_reducible first | exact HB.out | apply below_alloc | apply pw_below_drewN | apply below_drew1) | exact HB.out)⟩
  · rw [if_neg c4] at H
    have c4b0 : (t124 == 0) = false := beq_eq_false_iff_ne.mpr c4
    have c4b1 : (t124 != 0) = true := bne_iff_ne.mpr c4
    obtain rfl := Option.some.inj H
    go_enter Try.func10, Try.ntmps10
    go_wp2_with (first | ((with_reducible refine gate_callee (f := 8) rfl ?_); refine goesL_ (some 8) rfl rfl Try.func8 (by kernel_rfl) rfl #[.int .i64 10, .int .i64 1, .int .i64 3] rfl (by (try simp only [List.map_toArray, List.map_cons, List.map_nil]); first | done | rfl | (simp only [List.length_drop, List.length_take]; rfl)) ?_; (with_reducible refine (amount_Down.calls k 10 1 3 t123 t124 _ A1.out).mono ?_); rintro e w34 ⟨rfl, hb⟩; refine ⟨_, rfl, ?_⟩; have n0_ := Aside0.mk (below_step (by repeat (first | (with_reducible first | exact HB.out | apply below_alloc | apply pw_below_drewN | apply below_drew1) | exact HB.out)) hb); clear HB; have HB := n0_; clear n0_; (try clear hb); (try clear hb2); (try clear hk); (try clear hi)) | ((with_reducible refine gate_callee (f := 9) rfl ?_); refine goesL_ (some 12) rfl rfl Try.func9 (by kernel_rfl) rfl #[.int .i64 10, .int .i64 1, .int .i64 3] rfl (by (try simp only [List.map_toArray, List.map_cons, List.map_nil]); first | done | rfl | (simp only [List.length_drop, List.length_take]; rfl)) ?_; (with_reducible refine (amount_Up.calls k 10 1 3 t125 t126 _ A2.out).mono ?_); rintro e w35 ⟨rfl, hb⟩; refine ⟨_, rfl, ?_⟩; have n0_ := Aside0.mk (below_step (by repeat (first | (with_reducible first | exact HB.out | apply below_alloc | apply pw_below_drewN | apply below_drew1) | exact HB.out)) hb); clear HB; have HB := n0_; clear n0_; (try clear hb); (try clear hb2); (try clear hk); (try clear hi)) | ((with_reducible refine gate_callee (f := 11) rfl ?_); refine goesL_ (some 16) rfl rfl Try.func11 (by kernel_rfl) rfl #[.int .i64 4, .int .i64 6] rfl (by (try simp only [List.map_toArray, List.map_cons, List.map_nil]); first | done | rfl | (simp only [List.length_drop, List.length_take]; rfl)) ?_; (with_reducible refine (amount_Reduce.calls k 4 6 t127 t128 _ A3.out).mono ?_); rintro e w' ⟨rfl, ⟨nd, rfl⟩⟩; refine ⟨_, rfl, ?_⟩))
    go_ret
    exact ⟨by first | rfl | (simp [errW_none, errW_some] <;> rfl) | (simp [*, errW_none, errW_some] <;> rfl), by repeat (first | (with_reducible first | exact HB.out | apply below_alloc | apply pw_below_drewN | apply below_drew1) | exact HB.out)⟩

/-! ### trustquorumlaw35_AmountRounds: function 3 -/
def trustquorumlaw35_AmountRounds.j0 : Nat → Int → Int → Int → Int → Int → Bool → Option (Bool)
  | 0, _, _, _, _, _, _ => none
  | k + 1, x7, x8, x9, x10, x12, x89 => if x89 = true then (some false) else ((amount_Down.f k x10 x9 x8).bind fun bt136 => ((amount_Up.f k x12 x9 x8).bind fun bt138 => (if bt136.2 = 0 then (if bt138.2 = 0 then (if bt136.1 ≤ x7 then (if bt138.1 ≥ x7 then ((trustquorumlaw35_sane.f k).bind fun t140 => (some t140)) else (some false)) else (some false)) else (some false)) else (some false))))
def trustquorumlaw35_AmountRounds.f (k : Nat) (a0 : Int) (a1 : Int) (a2 : Int) : Option (Bool) := (amount_Down.f k (wrap64 ((wrap64 (a0)) * 15)) (wrap64 (1 + (Int.tmod (wrap64 (a1)) 1000))) (wrap64 (1 + (Int.tmod (wrap64 (a2)) 1000)))).bind fun bt132 => ((amount_Up.f k (wrap64 ((wrap64 (a0)) * 15)) (wrap64 (1 + (Int.tmod (wrap64 (a1)) 1000))) (wrap64 (1 + (Int.tmod (wrap64 (a2)) 1000)))).bind fun bt134 => (if bt132.2 = 0 then (if bt134.2 = 0 then (if bt134.1 < bt132.1 then (trustquorumlaw35_AmountRounds.j0 k (wrap64 ((wrap64 (a0)) * 15)) (wrap64 (1 + (Int.tmod (wrap64 (a1)) 1000))) (wrap64 (1 + (Int.tmod (wrap64 (a2)) 1000))) bt132.1 bt134.1 true) else (if bt134.1 > (wrap64 (bt132.1 + 1)) then (trustquorumlaw35_AmountRounds.j0 k (wrap64 ((wrap64 (a0)) * 15)) (wrap64 (1 + (Int.tmod (wrap64 (a1)) 1000))) (wrap64 (1 + (Int.tmod (wrap64 (a2)) 1000))) bt132.1 bt134.1 true) else (if (wrap64 (1 + (Int.tmod (wrap64 (a2)) 1000))) = 0 then (none) else (if ((bt132.1 == bt134.1) != ((Int.tmod (wrap64 ((wrap64 ((wrap64 (a0)) * 15)) * (wrap64 (1 + (Int.tmod (wrap64 (a1)) 1000))))) (wrap64 (1 + (Int.tmod (wrap64 (a2)) 1000)))) == 0)) = true then (trustquorumlaw35_AmountRounds.j0 k (wrap64 ((wrap64 (a0)) * 15)) (wrap64 (1 + (Int.tmod (wrap64 (a1)) 1000))) (wrap64 (1 + (Int.tmod (wrap64 (a2)) 1000))) bt132.1 bt134.1 true) else (if (wrap64 (bt132.1 * (wrap64 (1 + (Int.tmod (wrap64 (a2)) 1000))))) > (wrap64 ((wrap64 ((wrap64 (a0)) * 15)) * (wrap64 (1 + (Int.tmod (wrap64 (a1)) 1000))))) then (trustquorumlaw35_AmountRounds.j0 k (wrap64 ((wrap64 (a0)) * 15)) (wrap64 (1 + (Int.tmod (wrap64 (a1)) 1000))) (wrap64 (1 + (Int.tmod (wrap64 (a2)) 1000))) bt132.1 bt134.1 true) else (trustquorumlaw35_AmountRounds.j0 k (wrap64 ((wrap64 (a0)) * 15)) (wrap64 (1 + (Int.tmod (wrap64 (a1)) 1000))) (wrap64 (1 + (Int.tmod (wrap64 (a2)) 1000))) bt132.1 bt134.1 (decide ((wrap64 (bt134.1 * (wrap64 (1 + (Int.tmod (wrap64 (a2)) 1000))))) < (wrap64 ((wrap64 ((wrap64 (a0)) * 15)) * (wrap64 (1 + (Int.tmod (wrap64 (a1)) 1000))))))))))))) else (trustquorumlaw35_AmountRounds.j0 k (wrap64 ((wrap64 (a0)) * 15)) (wrap64 (1 + (Int.tmod (wrap64 (a1)) 1000))) (wrap64 (1 + (Int.tmod (wrap64 (a2)) 1000))) bt132.1 bt134.1 true)) else (trustquorumlaw35_AmountRounds.j0 k (wrap64 ((wrap64 (a0)) * 15)) (wrap64 (1 + (Int.tmod (wrap64 (a1)) 1000))) (wrap64 (1 + (Int.tmod (wrap64 (a2)) 1000))) bt132.1 bt134.1 true)))
theorem trustquorumlaw35_AmountRounds.mono_l : ∀ k, (∀ y0 y1 y2 y3 y4 y5, LeO (trustquorumlaw35_AmountRounds.j0 k y0 y1 y2 y3 y4 y5) (trustquorumlaw35_AmountRounds.j0 (k + 1) y0 y1 y2 y3 y4 y5))
  | 0 => fun _ _ _ _ _ _ r h => by simp [trustquorumlaw35_AmountRounds.j0] at h
  | k + 1 => by
    have ih0 := trustquorumlaw35_AmountRounds.mono_l k
    · intro y0 y1 y2 y3 y4 y5
      unfold trustquorumlaw35_AmountRounds.j0
      repeat' first
      | (with_reducible exact ih0 _ _ _ _ _ _)
      | (with_reducible exact amount_Down.mono _ _ _ _)
      | (with_reducible exact amount_Up.mono _ _ _ _)
      | (with_reducible exact trustquorumlaw35_sane.mono _)
      | (with_reducible exact LeO.refl _)
      | (with_reducible exact LeO.none _)
      | (with_reducible refine LeO.ite ?_ ?_)
      | (with_reducible refine LeO.bind ?_ (fun _ => ?_))
      | exact ih0 _ _ _ _ _ _
      | exact amount_Down.mono _ _ _ _
      | exact amount_Up.mono _ _ _ _
      | exact trustquorumlaw35_sane.mono _
      | exact LeO.none _
      | refine LeO.ite ?_ ?_
      | refine LeO.bind ?_ (fun _ => ?_)
theorem trustquorumlaw35_AmountRounds.mono : ∀ a0 a1 a2 k, LeO (trustquorumlaw35_AmountRounds.f k a0 a1 a2) (trustquorumlaw35_AmountRounds.f (k + 1) a0 a1 a2) := by
  intro a0 a1 a2 k
  have ih0 := trustquorumlaw35_AmountRounds.mono_l k
  unfold trustquorumlaw35_AmountRounds.f
  repeat' first
      | (with_reducible exact ih0 _ _ _ _ _ _)
      | (with_reducible exact amount_Down.mono _ _ _ _)
      | (with_reducible exact amount_Up.mono _ _ _ _)
      | (with_reducible exact trustquorumlaw35_sane.mono _)
      | (with_reducible exact LeO.refl _)
      | (with_reducible exact LeO.none _)
      | (with_reducible refine LeO.ite ?_ ?_)
      | (with_reducible refine LeO.bind ?_ (fun _ => ?_))
      | exact ih0 _ _ _ _ _ _
      | exact amount_Down.mono _ _ _ _
      | exact amount_Up.mono _ _ _ _
      | exact trustquorumlaw35_sane.mono _
      | exact LeO.none _
      | refine LeO.ite ?_ ?_
      | refine LeO.bind ?_ (fun _ => ?_)
set_option maxHeartbeats 8000000 in
set_option maxRecDepth 100000 in
theorem trustquorumlaw35_AmountRounds.calls (k : Nat) (a0 : Int) (a1 : Int) (a2 : Int) (r : Bool) (w : World) (h : trustquorumlaw35_AmountRounds.f k a0 a1 a2 = some r) :
    Calls Try.prog 3 #[.int .u16 a0, .int .u16 a1, .int .u16 a2] w fun e w' => e = .returned (.bool r) ∧ Below w.heap.size w w' := by
  have HB := Aside0.mk (Below.refl w.heap.size w)
  have H : ((amount_Down.f k (wrap64 ((wrap64 (a0)) * 15)) (wrap64 (1 + (Int.tmod (wrap64 (a1)) 1000))) (wrap64 (1 + (Int.tmod (wrap64 (a2)) 1000)))).bind fun bt132 => ((amount_Up.f k (wrap64 ((wrap64 (a0)) * 15)) (wrap64 (1 + (Int.tmod (wrap64 (a1)) 1000))) (wrap64 (1 + (Int.tmod (wrap64 (a2)) 1000)))).bind fun bt134 => (if bt132.2 = 0 then (if bt134.2 = 0 then (if bt134.1 < bt132.1 then (trustquorumlaw35_AmountRounds.j0 k (wrap64 ((wrap64 (a0)) * 15)) (wrap64 (1 + (Int.tmod (wrap64 (a1)) 1000))) (wrap64 (1 + (Int.tmod (wrap64 (a2)) 1000))) bt132.1 bt134.1 true) else (if bt134.1 > (wrap64 (bt132.1 + 1)) then (trustquorumlaw35_AmountRounds.j0 k (wrap64 ((wrap64 (a0)) * 15)) (wrap64 (1 + (Int.tmod (wrap64 (a1)) 1000))) (wrap64 (1 + (Int.tmod (wrap64 (a2)) 1000))) bt132.1 bt134.1 true) else (if (wrap64 (1 + (Int.tmod (wrap64 (a2)) 1000))) = 0 then (none) else (if ((bt132.1 == bt134.1) != ((Int.tmod (wrap64 ((wrap64 ((wrap64 (a0)) * 15)) * (wrap64 (1 + (Int.tmod (wrap64 (a1)) 1000))))) (wrap64 (1 + (Int.tmod (wrap64 (a2)) 1000)))) == 0)) = true then (trustquorumlaw35_AmountRounds.j0 k (wrap64 ((wrap64 (a0)) * 15)) (wrap64 (1 + (Int.tmod (wrap64 (a1)) 1000))) (wrap64 (1 + (Int.tmod (wrap64 (a2)) 1000))) bt132.1 bt134.1 true) else (if (wrap64 (bt132.1 * (wrap64 (1 + (Int.tmod (wrap64 (a2)) 1000))))) > (wrap64 ((wrap64 ((wrap64 (a0)) * 15)) * (wrap64 (1 + (Int.tmod (wrap64 (a1)) 1000))))) then (trustquorumlaw35_AmountRounds.j0 k (wrap64 ((wrap64 (a0)) * 15)) (wrap64 (1 + (Int.tmod (wrap64 (a1)) 1000))) (wrap64 (1 + (Int.tmod (wrap64 (a2)) 1000))) bt132.1 bt134.1 true) else (trustquorumlaw35_AmountRounds.j0 k (wrap64 ((wrap64 (a0)) * 15)) (wrap64 (1 + (Int.tmod (wrap64 (a1)) 1000))) (wrap64 (1 + (Int.tmod (wrap64 (a2)) 1000))) bt132.1 bt134.1 (decide ((wrap64 (bt134.1 * (wrap64 (1 + (Int.tmod (wrap64 (a2)) 1000))))) < (wrap64 ((wrap64 ((wrap64 (a0)) * 15)) * (wrap64 (1 + (Int.tmod (wrap64 (a1)) 1000))))))))))))) else (trustquorumlaw35_AmountRounds.j0 k (wrap64 ((wrap64 (a0)) * 15)) (wrap64 (1 + (Int.tmod (wrap64 (a1)) 1000))) (wrap64 (1 + (Int.tmod (wrap64 (a2)) 1000))) bt132.1 bt134.1 true)) else (trustquorumlaw35_AmountRounds.j0 k (wrap64 ((wrap64 (a0)) * 15)) (wrap64 (1 + (Int.tmod (wrap64 (a1)) 1000))) (wrap64 (1 + (Int.tmod (wrap64 (a2)) 1000))) bt132.1 bt134.1 true)))) = some r := h
  clear h
  replace H := Option.bind_eq_some_iff.mp H
  obtain ⟨⟨t132, t133⟩, A40, H⟩ := H
  replace H : ((amount_Up.f k (wrap64 ((wrap64 (a0)) * 15)) (wrap64 (1 + (Int.tmod (wrap64 (a1)) 1000))) (wrap64 (1 + (Int.tmod (wrap64 (a2)) 1000)))).bind fun bt134 => (if t133 = 0 then (if bt134.2 = 0 then (if bt134.1 < t132 then (trustquorumlaw35_AmountRounds.j0 k (wrap64 ((wrap64 (a0)) * 15)) (wrap64 (1 + (Int.tmod (wrap64 (a1)) 1000))) (wrap64 (1 + (Int.tmod (wrap64 (a2)) 1000))) t132 bt134.1 true) else (if bt134.1 > (wrap64 (t132 + 1)) then (trustquorumlaw35_AmountRounds.j0 k (wrap64 ((wrap64 (a0)) * 15)) (wrap64 (1 + (Int.tmod (wrap64 (a1)) 1000))) (wrap64 (1 + (Int.tmod (wrap64 (a2)) 1000))) t132 bt134.1 true) else (if (wrap64 (1 + (Int.tmod (wrap64 (a2)) 1000))) = 0 then (none) else (if ((t132 == bt134.1) != ((Int.tmod (wrap64 ((wrap64 ((wrap64 (a0)) * 15)) * (wrap64 (1 + (Int.tmod (wrap64 (a1)) 1000))))) (wrap64 (1 + (Int.tmod (wrap64 (a2)) 1000)))) == 0)) = true then (trustquorumlaw35_AmountRounds.j0 k (wrap64 ((wrap64 (a0)) * 15)) (wrap64 (1 + (Int.tmod (wrap64 (a1)) 1000))) (wrap64 (1 + (Int.tmod (wrap64 (a2)) 1000))) t132 bt134.1 true) else (if (wrap64 (t132 * (wrap64 (1 + (Int.tmod (wrap64 (a2)) 1000))))) > (wrap64 ((wrap64 ((wrap64 (a0)) * 15)) * (wrap64 (1 + (Int.tmod (wrap64 (a1)) 1000))))) then (trustquorumlaw35_AmountRounds.j0 k (wrap64 ((wrap64 (a0)) * 15)) (wrap64 (1 + (Int.tmod (wrap64 (a1)) 1000))) (wrap64 (1 + (Int.tmod (wrap64 (a2)) 1000))) t132 bt134.1 true) else (trustquorumlaw35_AmountRounds.j0 k (wrap64 ((wrap64 (a0)) * 15)) (wrap64 (1 + (Int.tmod (wrap64 (a1)) 1000))) (wrap64 (1 + (Int.tmod (wrap64 (a2)) 1000))) t132 bt134.1 (decide ((wrap64 (bt134.1 * (wrap64 (1 + (Int.tmod (wrap64 (a2)) 1000))))) < (wrap64 ((wrap64 ((wrap64 (a0)) * 15)) * (wrap64 (1 + (Int.tmod (wrap64 (a1)) 1000))))))))))))) else (trustquorumlaw35_AmountRounds.j0 k (wrap64 ((wrap64 (a0)) * 15)) (wrap64 (1 + (Int.tmod (wrap64 (a1)) 1000))) (wrap64 (1 + (Int.tmod (wrap64 (a2)) 1000))) t132 bt134.1 true)) else (trustquorumlaw35_AmountRounds.j0 k (wrap64 ((wrap64 (a0)) * 15)) (wrap64 (1 + (Int.tmod (wrap64 (a1)) 1000))) (wrap64 (1 + (Int.tmod (wrap64 (a2)) 1000))) t132 bt134.1 true))) = some r := H
  have A4 := Aside0.mk A40
  clear A40
  replace H := Option.bind_eq_some_iff.mp H
  obtain ⟨⟨t134, t135⟩, A50, H⟩ := H
  replace H : (if t133 = 0 then (if t135 = 0 then (if t134 < t132 then (trustquorumlaw35_AmountRounds.j0 k (wrap64 ((wrap64 (a0)) * 15)) (wrap64 (1 + (Int.tmod (wrap64 (a1)) 1000))) (wrap64 (1 + (Int.tmod (wrap64 (a2)) 1000))) t132 t134 true) else (if t134 > (wrap64 (t132 + 1)) then (trustquorumlaw35_AmountRounds.j0 k (wrap64 ((wrap64 (a0)) * 15)) (wrap64 (1 + (Int.tmod (wrap64 (a1)) 1000))) (wrap64 (1 + (Int.tmod (wrap64 (a2)) 1000))) t132 t134 true) else (if (wrap64 (1 + (Int.tmod (wrap64 (a2)) 1000))) = 0 then (none) else (if ((t132 == t134) != ((Int.tmod (wrap64 ((wrap64 ((wrap64 (a0)) * 15)) * (wrap64 (1 + (Int.tmod (wrap64 (a1)) 1000))))) (wrap64 (1 + (Int.tmod (wrap64 (a2)) 1000)))) == 0)) = true then (trustquorumlaw35_AmountRounds.j0 k (wrap64 ((wrap64 (a0)) * 15)) (wrap64 (1 + (Int.tmod (wrap64 (a1)) 1000))) (wrap64 (1 + (Int.tmod (wrap64 (a2)) 1000))) t132 t134 true) else (if (wrap64 (t132 * (wrap64 (1 + (Int.tmod (wrap64 (a2)) 1000))))) > (wrap64 ((wrap64 ((wrap64 (a0)) * 15)) * (wrap64 (1 + (Int.tmod (wrap64 (a1)) 1000))))) then (trustquorumlaw35_AmountRounds.j0 k (wrap64 ((wrap64 (a0)) * 15)) (wrap64 (1 + (Int.tmod (wrap64 (a1)) 1000))) (wrap64 (1 + (Int.tmod (wrap64 (a2)) 1000))) t132 t134 true) else (trustquorumlaw35_AmountRounds.j0 k (wrap64 ((wrap64 (a0)) * 15)) (wrap64 (1 + (Int.tmod (wrap64 (a1)) 1000))) (wrap64 (1 + (Int.tmod (wrap64 (a2)) 1000))) t132 t134 (decide ((wrap64 (t134 * (wrap64 (1 + (Int.tmod (wrap64 (a2)) 1000))))) < (wrap64 ((wrap64 ((wrap64 (a0)) * 15)) * (wrap64 (1 + (Int.tmod (wrap64 (a1)) 1000))))))))))))) else (trustquorumlaw35_AmountRounds.j0 k (wrap64 ((wrap64 (a0)) * 15)) (wrap64 (1 + (Int.tmod (wrap64 (a1)) 1000))) (wrap64 (1 + (Int.tmod (wrap64 (a2)) 1000))) t132 t134 true)) else (trustquorumlaw35_AmountRounds.j0 k (wrap64 ((wrap64 (a0)) * 15)) (wrap64 (1 + (Int.tmod (wrap64 (a1)) 1000))) (wrap64 (1 + (Int.tmod (wrap64 (a2)) 1000))) t132 t134 true)) = some r := H
  have A5 := Aside0.mk A50
  clear A50
  have HC6 := Aside0.mk H
  clear H
  go_enter Try.func3, Try.ntmps3
  go_upto_region 4 with (first | ((with_reducible refine gate_callee (f := 8) rfl ?_); refine goesL_ (some 33) rfl rfl Try.func8 (by kernel_rfl) rfl #[.int .i64 (wrap64 ((wrap64 (a0)) * 15)), .int .i64 (wrap64 (1 + (Int.tmod (wrap64 (a1)) 1000))), .int .i64 (wrap64 (1 + (Int.tmod (wrap64 (a2)) 1000)))] rfl (by (try simp only [List.map_toArray, List.map_cons, List.map_nil]); first | done | rfl | (simp only [List.length_drop, List.length_take]; rfl)) ?_; (with_reducible refine (amount_Down.calls k (wrap64 ((wrap64 (a0)) * 15)) (wrap64 (1 + (Int.tmod (wrap64 (a1)) 1000))) (wrap64 (1 + (Int.tmod (wrap64 (a2)) 1000))) t132 t133 _ A4.out).mono ?_); rintro e w7 ⟨rfl, hb⟩; refine ⟨_, rfl, ?_⟩; have n0_ := Aside0.mk (below_step (by repeat (first | (with_reducible first | exact HB.out | apply below_alloc | apply pw_below_drewN | apply below_drew1) | exact HB.out)) hb); clear HB; have HB := n0_; clear n0_; (try clear hb); (try clear hb2); (try clear hk); (try clear hi)) | ((with_reducible refine gate_callee (f := 9) rfl ?_); refine goesL_ (some 40) rfl rfl Try.func9 (by kernel_rfl) rfl #[.int .i64 (wrap64 ((wrap64 (a0)) * 15)), .int .i64 (wrap64 (1 + (Int.tmod (wrap64 (a1)) 1000))), .int .i64 (wrap64 (1 + (Int.tmod (wrap64 (a2)) 1000)))] rfl (by (try simp only [List.map_toArray, List.map_cons, List.map_nil]); first | done | rfl | (simp only [List.length_drop, List.length_take]; rfl)) ?_; (with_reducible refine (amount_Up.calls k (wrap64 ((wrap64 (a0)) * 15)) (wrap64 (1 + (Int.tmod (wrap64 (a1)) 1000))) (wrap64 (1 + (Int.tmod (wrap64 (a2)) 1000))) t134 t135 _ A5.out).mono ?_); rintro e w8 ⟨rfl, hb⟩; refine ⟨_, rfl, ?_⟩; have n0_ := Aside0.mk (below_step (by repeat (first | (with_reducible first | exact HB.out | apply below_alloc | apply pw_below_drewN | apply below_drew1) | exact HB.out)) hb); clear HB; have HB := n0_; clear n0_; (try clear hb); (try clear hb2); (try clear hk); (try clear hi)))
  (try simp only [Act.put, List.setIfInBounds_toArray, List.set_cons_zero, List.set_cons_succ])
  go_cut [89] (fun v89 wc => ∃ (kq : Nat) (x89_5 : Bool), v89 = .bool x89_5 ∧ Aside0 (trustquorumlaw35_AmountRounds.j0 kq (wrap64 ((wrap64 (a0)) * 15)) (wrap64 (1 + (Int.tmod (wrap64 (a1)) 1000))) (wrap64 (1 + (Int.tmod (wrap64 (a2)) 1000))) t132 t134 x89_5 = some r) ∧ Aside0 (kq ≤ k) ∧ Aside0 (Below w.heap.size w wc))
  case first =>
    have H := HC6.out
    clear HC6
    by_cases c9 : t133 = 0
    · rw [if_pos c9] at H
      have c9b0 : (t133 == 0) = true := beq_iff_eq.mpr c9
      have c9b1 : (t133 != 0) = false := bne_eq_false_iff_eq.mpr c9
      clear c9
      (first | rw [c9b0] | (simp only [i64_w, i32_w]; rw [c9b0]) | skip)
      by_cases c10 : t135 = 0
      · rw [if_pos c10] at H
        have c10b0 : (t135 == 0) = true := beq_iff_eq.mpr c10
        have c10b1 : (t135 != 0) = false := bne_eq_false_iff_eq.mpr c10
        clear c10
        by_cases c11 : t134 < t132
        · rw [if_pos c11] at H
          have c11b0 : decide (t134 < t132) = true := decide_eq_true c11
          clear c11
          have H' := Aside0.mk H
          clear H
          go_wp2
          go_meet
          case rel => exact ⟨_, (true), (by first | rfl | (simp; done) | (simp [*]; done)), H', ⟨by first | omega | exact Nat.le_refl _⟩, ⟨by repeat (first | (with_reducible first | exact HB.out | apply below_alloc | apply pw_below_drewN | apply below_drew1) | exact HB.out)⟩⟩
        · rw [if_neg c11] at H
          have c11b0 : decide (t134 < t132) = false := decide_eq_false c11
          clear c11
          by_cases c12 : t134 > (wrap64 (t132 + 1))
          · rw [if_pos c12] at H
            have c12b0 : decide ((wrap64 (t132 + 1)) < t134) = true := decide_eq_true c12
            clear c12
            have H' := Aside0.mk H
            clear H
            go_wp2
            go_meet
            case rel => exact ⟨_, (true), (by first | rfl | (simp; done) | (simp [*]; done)), H', ⟨by first | omega | exact Nat.le_refl _⟩, ⟨by repeat (first | (with_reducible first | exact HB.out | apply below_alloc | apply pw_below_drewN | apply below_drew1) | exact HB.out)⟩⟩
          · rw [if_neg c12] at H
            have c12b0 : decide ((wrap64 (t132 + 1)) < t134) = false := decide_eq_false c12
            clear c12
            by_cases c13 : (wrap64 (1 + (Int.tmod (wrap64 (a2)) 1000))) = 0
            · rw [if_pos c13] at H
              exact absurd H (by simp)
            · rw [if_neg c13] at H
              have c13b0 : ((wrap64 (1 + (Int.tmod (wrap64 (a2)) 1000))) == 0) = false := beq_eq_false_iff_ne.mpr c13
              have c13b1 : ((wrap64 (1 + (Int.tmod (wrap64 (a2)) 1000))) != 0) = true := bne_iff_ne.mpr c13
              by_cases c14 : ((t132 == t134) != ((Int.tmod (wrap64 ((wrap64 ((wrap64 (a0)) * 15)) * (wrap64 (1 + (Int.tmod (wrap64 (a1)) 1000))))) (wrap64 (1 + (Int.tmod (wrap64 (a2)) 1000)))) == 0)) = true
              · rw [if_pos c14] at H
                have c14b0 : ((t132 == t134) != ((Int.tmod (wrap64 ((wrap64 ((wrap64 (a0)) * 15)) * (wrap64 (1 + (Int.tmod (wrap64 (a1)) 1000))))) (wrap64 (1 + (Int.tmod (wrap64 (a2)) 1000)))) == 0)) = true := c14
                (try (have c14b1 : decide ((t132 == t134) = ((Int.tmod (wrap64 ((wrap64 ((wrap64 (a0)) * 15)) * (wrap64 (1 + (Int.tmod (wrap64 (a1)) 1000))))) (wrap64 (1 + (Int.tmod (wrap64 (a2)) 1000)))) == 0)) = false := by simpa using c14))
                (try (have c14b2 : ((t132 == t134) == ((Int.tmod (wrap64 ((wrap64 ((wrap64 (a0)) * 15)) * (wrap64 (1 + (Int.tmod (wrap64 (a1)) 1000))))) (wrap64 (1 + (Int.tmod (wrap64 (a2)) 1000)))) == 0)) = false := by simpa using c14))
                (try (have c14b3 : ¬ ((t132 == t134) = ((Int.tmod (wrap64 ((wrap64 ((wrap64 (a0)) * 15)) * (wrap64 (1 + (Int.tmod (wrap64 (a1)) 1000))))) (wrap64 (1 + (Int.tmod (wrap64 (a2)) 1000)))) == 0)) := by simpa using c14))
                clear c14
                have H' := Aside0.mk H
                clear H
                go_wp2
                go_meet
                case rel => exact ⟨_, (true), (by first | rfl | (simp; done) | (simp [*]; done)), H', ⟨by first | omega | exact Nat.le_refl _⟩, ⟨by repeat (first | (with_reducible first | exact HB.out | apply below_alloc | apply pw_below_drewN | apply below_drew1) | exact HB.out)⟩⟩
              · rw [if_neg c14] at H
                have c14b0 : ((t132 == t134) != ((Int.tmod (wrap64 ((wrap64 ((wrap64 (a0)) * 15)) * (wrap64 (1 + (Int.tmod (wrap64 (a1)) 1000))))) (wrap64 (1 + (Int.tmod (wrap64 (a2)) 1000)))) == 0)) = false := by simpa using c14
                (try (have c14b1 : decide ((t132 == t134) = ((Int.tmod (wrap64 ((wrap64 ((wrap64 (a0)) * 15)) * (wrap64 (1 + (Int.tmod (wrap64 (a1)) 1000))))) (wrap64 (1 + (Int.tmod (wrap64 (a2)) 1000)))) == 0)) = true := by simpa using c14))
                (try (have c14b2 : ((t132 == t134) == ((Int.tmod (wrap64 ((wrap64 ((wrap64 (a0)) * 15)) * (wrap64 (1 + (Int.tmod (wrap64 (a1)) 1000))))) (wrap64 (1 + (Int.tmod (wrap64 (a2)) 1000)))) == 0)) = true := by simpa using c14))
                clear c14
                by_cases c15 : (wrap64 (t132 * (wrap64 (1 + (Int.tmod (wrap64 (a2)) 1000))))) > (wrap64 ((wrap64 ((wrap64 (a0)) * 15)) * (wrap64 (1 + (Int.tmod (wrap64 (a1)) 1000)))))
                · rw [if_pos c15] at H
                  have c15b0 : decide ((wrap64 ((wrap64 ((wrap64 (a0)) * 15)) * (wrap64 (1 + (Int.tmod (wrap64 (a1)) 1000))))) < (wrap64 (t132 * (wrap64 (1 + (Int.tmod (wrap64 (a2)) 1000)))))) = true := decide_eq_true c15
                  clear c15
                  have H' := Aside0.mk H
                  clear H
                  go_wp2
                  go_meet
                  case rel => exact ⟨_, (true), (by first | rfl | (simp; done) | (simp [*]; done)), H', ⟨by first | omega | exact Nat.le_refl _⟩, ⟨by repeat (first | (with_reducible first | exact HB.out | apply below_alloc | apply pw_below_drewN | apply below_drew1) | exact HB.out)⟩⟩
                · rw [if_neg c15] at H
                  have c15b0 : decide ((wrap64 ((wrap64 ((wrap64 (a0)) * 15)) * (wrap64 (1 + (Int.tmod (wrap64 (a1)) 1000))))) < (wrap64 (t132 * (wrap64 (1 + (Int.tmod (wrap64 (a2)) 1000)))))) = false := decide_eq_false c15
                  clear c15
                  have H' := Aside0.mk H
                  clear H
                  go_wp2
                  go_meet
                  case rel => exact ⟨_, (decide ((wrap64 (t134 * (wrap64 (1 + (Int.tmod (wrap64 (a2)) 1000))))) < (wrap64 ((wrap64 ((wrap64 (a0)) * 15)) * (wrap64 (1 + (Int.tmod (wrap64 (a1)) 1000))))))), (by first | rfl | (simp; done) | (simp [*]; done)), H', ⟨by first | omega | exact Nat.le_refl _⟩, ⟨by repeat (first | (with_reducible first | exact HB.out | apply below_alloc | apply pw_below_drewN | apply below_drew1) | exact HB.out)⟩⟩
      · rw [if_neg c10] at H
        have c10b0 : (t135 == 0) = false := beq_eq_false_iff_ne.mpr c10
        have c10b1 : (t135 != 0) = true := bne_iff_ne.mpr c10
        have H' := Aside0.mk H
        clear H
        go_wp2
        go_meet
        case rel => exact ⟨_, (true), (by first | rfl | (simp; done) | (simp [*]; done)), H', ⟨by first | omega | exact Nat.le_refl _⟩, ⟨by repeat (first | (with_reducible first | exact HB.out | apply below_alloc | apply pw_below_drewN | apply below_drew1) | exact HB.out)⟩⟩
    · rw [if_neg c9] at H
      have c9b0 : (t133 == 0) = false := beq_eq_false_iff_ne.mpr c9
      have c9b1 : (t133 != 0) = true := bne_iff_ne.mpr c9
      (first | rw [c9b0] | (simp only [i64_w, i32_w]; rw [c9b0]) | skip)
      have H' := Aside0.mk H
      clear H
      go_wp2
      go_meet
      case rel => exact ⟨_, (true), (by first | rfl | (simp; done) | (simp [*]; done)), H', ⟨by first | omega | exact Nat.le_refl _⟩, ⟨by repeat (first | (with_reducible first | exact HB.out | apply below_alloc | apply pw_below_drewN | apply below_drew1) | exact HB.out)⟩⟩
  case rest =>
    clear HC6
    try clear c1
    try clear p2
    try clear c3
    try clear p6
    try clear c8
    try clear c9
    try clear c9b0
    try clear c9b1
    try clear c10
    try clear c10b0
    try clear c10b1
    try clear c11
    try clear c11b0
    try clear c12
    try clear c12b0
    try clear c13
    try clear c13b0
    try clear c13b1
    try clear c14
    try clear c14b0
    try clear c14b1
    try clear c14b2
    try clear c15
    try clear c15b0
    obtain ⟨kq, x89_5, rfl, HA, HJ5, HB⟩ := hcut
    cases kq with
    | zero => exact absurd HA.out (by simp [trustquorumlaw35_AmountRounds.j0])
    | succ kj5 =>
      have H := HA.out
      clear HA
      simp only [trustquorumlaw35_AmountRounds.j0] at H
      by_cases c16 : x89_5 = true
      · subst c16
        have H1 : (some false) = some r := by rw [if_pos rfl] at H; exact H
        clear H
        have H := H1
        clear H1
        obtain rfl := Option.some.inj H
        go_wp2
        go_ret
        exact ⟨by first | rfl | (simp [errW_none, errW_some] <;> rfl) | (simp [*, errW_none, errW_some] <;> rfl), by repeat (first | (with_reducible first | exact HB.out | apply below_alloc | apply pw_below_drewN | apply below_drew1) | exact HB.out)⟩
      · replace c16 := Bool.eq_false_iff.mpr c16
        subst c16
        have H1 : ((amount_Down.f kj5 t132 (wrap64 (1 + (Int.tmod (wrap64 (a2)) 1000))) (wrap64 (1 + (Int.tmod (wrap64 (a1)) 1000)))).bind fun bt136 => ((amount_Up.f kj5 t134 (wrap64 (1 + (Int.tmod (wrap64 (a2)) 1000))) (wrap64 (1 + (Int.tmod (wrap64 (a1)) 1000)))).bind fun bt138 => (if bt136.2 = 0 then (if bt138.2 = 0 then (if bt136.1 ≤ (wrap64 ((wrap64 (a0)) * 15)) then (if bt138.1 ≥ (wrap64 ((wrap64 (a0)) * 15)) then ((trustquorumlaw35_sane.f kj5).bind fun t140 => (some t140)) else (some false)) else (some false)) else (some false)) else (some false)))) = some r := by rw [if_neg (show ¬ (false = true) by decide)] at H; exact H
        clear H
        have H := H1
        clear H1
        replace H := Option.bind_eq_some_iff.mp H
        obtain ⟨⟨t136, t137⟩, A170, H⟩ := H
        replace H : ((amount_Up.f kj5 t134 (wrap64 (1 + (Int.tmod (wrap64 (a2)) 1000))) (wrap64 (1 + (Int.tmod (wrap64 (a1)) 1000)))).bind fun bt138 => (if t137 = 0 then (if bt138.2 = 0 then (if t136 ≤ (wrap64 ((wrap64 (a0)) * 15)) then (if bt138.1 ≥ (wrap64 ((wrap64 (a0)) * 15)) then ((trustquorumlaw35_sane.f kj5).bind fun t140 => (some t140)) else (some false)) else (some false)) else (some false)) else (some false))) = some r := H
        have A17 := Aside0.mk A170
        clear A170
        replace H := Option.bind_eq_some_iff.mp H
        obtain ⟨⟨t138, t139⟩, A180, H⟩ := H
        replace H : (if t137 = 0 then (if t139 = 0 then (if t136 ≤ (wrap64 ((wrap64 (a0)) * 15)) then (if t138 ≥ (wrap64 ((wrap64 (a0)) * 15)) then ((trustquorumlaw35_sane.f kj5).bind fun t140 => (some t140)) else (some false)) else (some false)) else (some false)) else (some false)) = some r := H
        have A18 := Aside0.mk A180
        clear A180
        by_cases c19 : t137 = 0
        · rw [if_pos c19] at H
          have c19b0 : (t137 == 0) = true := beq_iff_eq.mpr c19
          have c19b1 : (t137 != 0) = false := bne_eq_false_iff_eq.mpr c19
          clear c19
          by_cases c20 : t139 = 0
          · rw [if_pos c20] at H
            have c20b0 : (t139 == 0) = true := beq_iff_eq.mpr c20
            have c20b1 : (t139 != 0) = false := bne_eq_false_iff_eq.mpr c20
            clear c20
            by_cases c21 : t136 ≤ (wrap64 ((wrap64 (a0)) * 15))
            · rw [if_pos c21] at H
              have c21b0 : decide (t136 ≤ (wrap64 ((wrap64 (a0)) * 15))) = true := decide_eq_true c21
              clear c21
              by_cases c22 : t138 ≥ (wrap64 ((wrap64 (a0)) * 15))
              · rw [if_pos c22] at H
                have c22b0 : decide ((wrap64 ((wrap64 (a0)) * 15)) ≤ t138) = true := decide_eq_true c22
                clear c22
                replace H := Option.bind_eq_some_iff.mp H
                obtain ⟨t140, A230, H⟩ := H
                replace H : (some t140) = some r := H
                have A23 := Aside0.mk A230
                clear A230
                obtain rfl := Option.some.inj H
                go_wp2_with (first | ((with_reducible refine gate_callee (f := 8) rfl ?_); refine goesL_ (some 94) rfl rfl Try.func8 (by kernel_rfl) rfl #[.int .i64 t132, .int .i64 (wrap64 (1 + (Int.tmod (wrap64 (a2)) 1000))), .int .i64 (wrap64 (1 + (Int.tmod (wrap64 (a1)) 1000)))] rfl (by (try simp only [List.map_toArray, List.map_cons, List.map_nil]); first | done | rfl | (simp only [List.length_drop, List.length_take]; rfl)) ?_; (with_reducible refine (amount_Down.calls kj5 t132 (wrap64 (1 + (Int.tmod (wrap64 (a2)) 1000))) (wrap64 (1 + (Int.tmod (wrap64 (a1)) 1000))) t136 t137 _ A17.out).mono ?_); rintro e w24 ⟨rfl, hb⟩; refine ⟨_, rfl, ?_⟩; have n0_ := Aside0.mk (below_step (by repeat (first | (with_reducible first | exact HB.out | apply below_alloc | apply pw_below_drewN | apply below_drew1) | exact HB.out)) hb); clear HB; have HB := n0_; clear n0_; (try clear hb); (try clear hb2); (try clear hk); (try clear hi)) | ((with_reducible refine gate_callee (f := 9) rfl ?_); refine goesL_ (some 101) rfl rfl Try.func9 (by kernel_rfl) rfl #[.int .i64 t134, .int .i64 (wrap64 (1 + (Int.tmod (wrap64 (a2)) 1000))), .int .i64 (wrap64 (1 + (Int.tmod (wrap64 (a1)) 1000)))] rfl (by (try simp only [List.map_toArray, List.map_cons, List.map_nil]); first | done | rfl | (simp only [List.length_drop, List.length_take]; rfl)) ?_; (with_reducible refine (amount_Up.calls kj5 t134 (wrap64 (1 + (Int.tmod (wrap64 (a2)) 1000))) (wrap64 (1 + (Int.tmod (wrap64 (a1)) 1000))) t138 t139 _ A18.out).mono ?_); rintro e w25 ⟨rfl, hb⟩; refine ⟨_, rfl, ?_⟩; have n0_ := Aside0.mk (below_step (by repeat (first | (with_reducible first | exact HB.out | apply below_alloc | apply pw_below_drewN | apply below_drew1) | exact HB.out)) hb); clear HB; have HB := n0_; clear n0_; (try clear hb); (try clear hb2); (try clear hk); (try clear hi)) | (go_at_call 10; (with_reducible refine (trustquorumlaw35_sane.calls kj5  t140 _ A23.out).mono ?_); rintro e w26 ⟨rfl, hb⟩; have n0_ := Aside0.mk (below_step (by repeat (first | (with_reducible first | exact HB.out | apply below_alloc | apply pw_below_drewN | apply below_drew1) | exact HB.out)) hb); clear HB; have HB := n0_; clear n0_; (try clear hb); (try clear hb2); (try clear hk); (try clear hi)))
                go_ret
                exact ⟨by first | rfl | (simp [errW_none, errW_some] <;> rfl) | (simp [*, errW_none, errW_some] <;> rfl), by repeat (first | (with_reducible first | exact HB.out | apply below_alloc | apply pw_below_drewN | apply below_drew1) | exact HB.out)⟩
              · rw [if_neg c22] at H
                have c22b0 : decide ((wrap64 ((wrap64 (a0)) * 15)) ≤ t138) = false := decide_eq_false c22
                clear c22
                obtain rfl := Option.some.inj H
                go_wp2_with (first | ((with_reducible refine gate_callee (f := 8) rfl ?_); refine goesL_ (some 94) rfl rfl Try.func8 (by kernel_rfl) rfl #[.int .i64 t132, .int .i64 (wrap64 (1 + (Int.tmod (wrap64 (a2)) 1000))), .int .i64 (wrap64 (1 + (Int.tmod (wrap64 (a1)) 1000)))] rfl (by (try simp only [List.map_toArray, List.map_cons, List.map_nil]); first | done | rfl | (simp only [List.length_drop, List.length_take]; rfl)) ?_; (with_reducible refine (amount_Down.calls kj5 t132 (wrap64 (1 + (Int.tmod (wrap64 (a2)) 1000))) (wrap64 (1 + (Int.tmod (wrap64 (a1)) 1000))) t136 t137 _ A17.out).mono ?_); rintro e w27 ⟨rfl, hb⟩; refine ⟨_, rfl, ?_⟩; have n0_ := Aside0.mk (below_step (by repeat (first | (with_reducible first | exact HB.out | apply below_alloc | apply pw_below_drewN | apply below_drew1) | exact HB.out)) hb); clear HB; have HB := n0_; clear n0_; (try clear hb); (try clear hb2); (try clear hk); (try clear hi)) | ((with_reducible refine gate_callee (f := 9) rfl ?_); refine goesL_ (some 101) rfl rfl Try.func9 (by kernel_rfl) rfl #[.int .i64 t134, .int .i64 (wrap64 (1 + (Int.tmod (wrap64 (a2)) 1000))), .int .i64 (wrap64 (1 + (Int.tmod (wrap64 (a1)) 1000)))] rfl (by (try simp only [List.map_toArray, List.map_cons, List.map_nil]); first | done | rfl | (simp only [List.length_drop, List.length_take]; rfl)) ?_; (with_reducible refine (amount_Up.calls kj5 t134 (wrap64 (1 + (Int.tmod (wrap64 (a2)) 1000))) (wrap64 (1 + (Int.tmod (wrap64 (a1)) 1000))) t138 t139 _ A18.out).mono ?_); rintro e w28 ⟨rfl, hb⟩; refine ⟨_, rfl, ?_⟩; have n0_ := Aside0.mk (below_step (by repeat (first | (with_reducible first | exact HB.out | apply below_alloc | apply pw_below_drewN | apply below_drew1) | exact HB.out)) hb); clear HB; have HB := n0_; clear n0_; (try clear hb); (try clear hb2); (try clear hk); (try clear hi)))
                go_ret
                exact ⟨by first | rfl | (simp [errW_none, errW_some] <;> rfl) | (simp [*, errW_none, errW_some] <;> rfl), by repeat (first | (with_reducible first | exact HB.out | apply below_alloc | apply pw_below_drewN | apply below_drew1) | exact HB.out)⟩
            · rw [if_neg c21] at H
              have c21b0 : decide (t136 ≤ (wrap64 ((wrap64 (a0)) * 15))) = false := decide_eq_false c21
              clear c21
              obtain rfl := Option.some.inj H
              go_wp2_with (first | ((with_reducible refine gate_callee (f := 8) rfl ?_); refine goesL_ (some 94) rfl rfl Try.func8 (by kernel_rfl) rfl #[.int .i64 t132, .int .i64 (wrap64 (1 + (Int.tmod (wrap64 (a2)) 1000))), .int .i64 (wrap64 (1 + (Int.tmod (wrap64 (a1)) 1000)))] rfl (by (try simp only [List.map_toArray, List.map_cons, List.map_nil]); first | done | rfl | (simp only [List.length_drop, List.length_take]; rfl)) ?_; (with_reducible refine (amount_Down.calls kj5 t132 (wrap64 (1 + (Int.tmod (wrap64 (a2)) 1000))) (wrap64 (1 + (Int.tmod (wrap64 (a1)) 1000))) t136 t137 _ A17.out).mono ?_); rintro e w29 ⟨rfl, hb⟩; refine ⟨_, rfl, ?_⟩; have n0_ := Aside0.mk (below_step (by repeat (first | (with_reducible first | exact HB.out | apply below_alloc | apply pw_below_drewN | apply below_drew1) | exact HB.out)) hb); clear HB; have HB := n0_; clear n0_; (try clear hb); (try clear hb2); (try clear hk); (try clear hi)) | ((with_reducible refine gate_callee (f := 9) rfl ?_); refine goesL_ (some 101) rfl rfl Try.func9 (by kernel_rfl) rfl #[.int .i64 t134, .int .i64 (wrap64 (1 + (Int.tmod (wrap64 (a2)) 1000))), .int .i64 (wrap64 (1 + (Int.tmod (wrap64 (a1)) 1000)))] rfl (by (try simp only [List.map_toArray, List.map_cons, List.map_nil]); first | done | rfl | (simp only [List.length_drop, List.length_take]; rfl)) ?_; (with_reducible refine (amount_Up.calls kj5 t134 (wrap64 (1 + (Int.tmod (wrap64 (a2)) 1000))) (wrap64 (1 + (Int.tmod (wrap64 (a1)) 1000))) t138 t139 _ A18.out).mono ?_); rintro e w30 ⟨rfl, hb⟩; refine ⟨_, rfl, ?_⟩; have n0_ := Aside0.mk (below_step (by repeat (first | (with_reducible first | exact HB.out | apply below_alloc | apply pw_below_drewN | apply below_drew1) | exact HB.out)) hb); clear HB; have HB := n0_; clear n0_; (try clear hb); (try clear hb2); (try clear hk); (try clear hi)))
              go_ret
              exact ⟨by first | rfl | (simp [errW_none, errW_some] <;> rfl) | (simp [*, errW_none, errW_some] <;> rfl), by repeat (first | (with_reducible first | exact HB.out | apply below_alloc | apply pw_below_drewN | apply below_drew1) | exact HB.out)⟩
          · rw [if_neg c20] at H
            have c20b0 : (t139 == 0) = false := beq_eq_false_iff_ne.mpr c20
            have c20b1 : (t139 != 0) = true := bne_iff_ne.mpr c20
            obtain rfl := Option.some.inj H
            go_wp2_with (first | ((with_reducible refine gate_callee (f := 8) rfl ?_); refine goesL_ (some 94) rfl rfl Try.func8 (by kernel_rfl) rfl #[.int .i64 t132, .int .i64 (wrap64 (1 + (Int.tmod (wrap64 (a2)) 1000))), .int .i64 (wrap64 (1 + (Int.tmod (wrap64 (a1)) 1000)))] rfl (by (try simp only [List.map_toArray, List.map_cons, List.map_nil]); first | done | rfl | (simp only [List.length_drop, List.length_take]; rfl)) ?_; (with_reducible refine (amount_Down.calls kj5 t132 (wrap64 (1 + (Int.tmod (wrap64 (a2)) 1000))) (wrap64 (1 + (Int.tmod (wrap64 (a1)) 1000))) t136 t137 _ A17.out).mono ?_); rintro e w31 ⟨rfl, hb⟩; refine ⟨_, rfl, ?_⟩; have n0_ := Aside0.mk (below_step (by repeat (first | (with_reducible first | exact HB.out | apply below_alloc | apply pw_below_drewN | apply below_drew1) | exact HB.out)) hb); clear HB; have HB := n0_; clear n0_; (try clear hb); (try clear hb2); (try clear hk); (try clear hi)) | ((with_reducible refine gate_callee (f := 9) rfl ?_); refine goesL_ (some 101) rfl rfl Try.func9 (by kernel_rfl) rfl #[.int .i64 t134, .int .i64 (wrap64 (1 + (Int.tmod (wrap64 (a2)) 1000))), .int .i64 (wrap64 (1 + (Int.tmod (wrap64 (a1)) 1000)))] rfl (by (try simp only [List.map_toArray, List.map_cons, List.map_nil]); first | done | rfl | (simp only [List.length_drop, List.length_take]; rfl)) ?_; (with_reducible refine (amount_Up.calls kj5 t134 (wrap64 (1 + (Int.tmod (wrap64 (a2)) 1000))) (wrap64 (1 + (Int.tmod (wrap64 (a1)) 1000))) t138 t139 _ A18.out).mono ?_); rintro e w32 ⟨rfl, hb⟩; refine ⟨_, rfl, ?_⟩; have n0_ := Aside0.mk (below_step (by repeat (first | (with_reducible first | exact HB.out | apply below_alloc | apply pw_below_drewN | apply below_drew1) | exact HB.out)) hb); clear HB; have HB := n0_; clear n0_; (try clear hb); (try clear hb2); (try clear hk); (try clear hi)))
            go_ret
            exact ⟨by first | rfl | (simp [errW_none, errW_some] <;> rfl) | (simp [*, errW_none, errW_some] <;> rfl), by repeat (first | (with_reducible first | exact HB.out | apply below_alloc | apply pw_below_drewN | apply below_drew1) | exact HB.out)⟩
        · rw [if_neg c19] at H
          have c19b0 : (t137 == 0) = false := beq_eq_false_iff_ne.mpr c19
          have c19b1 : (t137 != 0) = true := bne_iff_ne.mpr c19
          obtain rfl := Option.some.inj H
          go_wp2_with (first | ((with_reducible refine gate_callee (f := 8) rfl ?_); refine goesL_ (some 94) rfl rfl Try.func8 (by kernel_rfl) rfl #[.int .i64 t132, .int .i64 (wrap64 (1 + (Int.tmod (wrap64 (a2)) 1000))), .int .i64 (wrap64 (1 + (Int.tmod (wrap64 (a1)) 1000)))] rfl (by (try simp only [List.map_toArray, List.map_cons, List.map_nil]); first | done | rfl | (simp only [List.length_drop, List.length_take]; rfl)) ?_; (with_reducible refine (amount_Down.calls kj5 t132 (wrap64 (1 + (Int.tmod (wrap64 (a2)) 1000))) (wrap64 (1 + (Int.tmod (wrap64 (a1)) 1000))) t136 t137 _ A17.out).mono ?_); rintro e w33 ⟨rfl, hb⟩; refine ⟨_, rfl, ?_⟩; have n0_ := Aside0.mk (below_step (by repeat (first | (with_reducible first | exact HB.out | apply below_alloc | apply pw_below_drewN | apply below_drew1) | exact HB.out)) hb); clear HB; have HB := n0_; clear n0_; (try clear hb); (try clear hb2); (try clear hk); (try clear hi)) | ((with_reducible refine gate_callee (f := 9) rfl ?_); refine goesL_ (some 101) rfl rfl Try.func9 (by kernel_rfl) rfl #[.int .i64 t134, .int .i64 (wrap64 (1 + (Int.tmod (wrap64 (a2)) 1000))), .int .i64 (wrap64 (1 + (Int.tmod (wrap64 (a1)) 1000)))] rfl (by (try simp only [List.map_toArray, List.map_cons, List.map_nil]); first | done | rfl | (simp only [List.length_drop, List.length_take]; rfl)) ?_; (with_reducible refine (amount_Up.calls kj5 t134 (wrap64 (1 + (Int.tmod (wrap64 (a2)) 1000))) (wrap64 (1 + (Int.tmod (wrap64 (a1)) 1000))) t138 t139 _ A18.out).mono ?_); rintro e w34 ⟨rfl, hb⟩; refine ⟨_, rfl, ?_⟩; have n0_ := Aside0.mk (below_step (by repeat (first | (with_reducible first | exact HB.out | apply below_alloc | apply pw_below_drewN | apply below_drew1) | exact HB.out)) hb); clear HB; have HB := n0_; clear n0_; (try clear hb); (try clear hb2); (try clear hk); (try clear hi)))
          go_ret
          exact ⟨by first | rfl | (simp [errW_none, errW_some] <;> rfl) | (simp [*, errW_none, errW_some] <;> rfl), by repeat (first | (with_reducible first | exact HB.out | apply below_alloc | apply pw_below_drewN | apply below_drew1) | exact HB.out)⟩

/-- THE ONE PURE STATEMENT of trustquorumlaw35_AmountRounds: yours. -/
def trustquorumlaw35_AmountRounds.Pure : Prop := ∀ (a0 : Int) (a1 : Int) (a2 : Int), (Lit.int .u16 a0).wf = true → (Lit.int .u16 a1).wf = true → (Lit.int .u16 a2).wf = true → ∃ k, trustquorumlaw35_AmountRounds.f k a0 a1 a2 = some true
theorem trustquorumlaw35_AmountRounds.walk (P : trustquorumlaw35_AmountRounds.Pure) (a0 : Int) (a1 : Int) (a2 : Int) (w : World) (w0 : (Lit.int .u16 a0).wf = true) (w1 : (Lit.int .u16 a1).wf = true) (w2 : (Lit.int .u16 a2).wf = true) :
    Calls Try.prog 3 #[.int .u16 a0, .int .u16 a1, .int .u16 a2] w fun e w' => e = .returned (.bool true) ∧ Below w.heap.size w w' := by
  obtain ⟨k, h⟩ := P a0 a1 a2 w0 w1 w2
  refine (trustquorumlaw35_AmountRounds.calls k a0 a1 a2 true w h).mono ?_
  rintro e w' ⟨rfl, hd⟩
  exact ⟨rfl, hd⟩

end Go.Proofs.Ytkiebhjbnnnikaa.QAmountRounds
