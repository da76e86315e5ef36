/- Lean functions that answer as the Go functions do which the law reaches, and proofs that the Go code comes to exactly these answers. Conditions: those that each theorem names. -/
import Derived.Test.YtkiebhjbnnnikaaQAmountPricesx0
import Derived.Test.YtkiebhjbnnnikaaQAmountPricesx2
namespace Go.Proofs.Ytkiebhjbnnnikaa.QAmountPrices
open Go.RowKit Go.Proofs.YtkiebhjbnnnikaaW.PrintWords Go.Proofs.YtkiebhjbnnnikaaW.PrintLast Go.Proofs.YtkiebhjbnnnikaaW.PrintMore
attribute [local go_sem] max2_int min2_int max_two min_two max_three min_three max_four min_four   -- for this text's walks alone
set_option linter.unusedVariables false
set_option linter.unusedSimpArgs false

/-! ### trustquorumlaw35_sane: function 10 -/
def trustquorumlaw35_sane.f (k : Nat)  : Option (Bool) := (amount_Down.f k 10 1 3).bind fun bt123 => ((amount_Up.f k 10 1 3).bind fun bt125 => ((amount_Reduce.f k 4 6).bind fun bt127 => (if bt123.2 = 0 then (if bt125.2 = 0 then (if bt123.1 = 3 then (if bt125.1 = 4 then (if bt127.1 = 2 then (if bt127.2 = 3 then ((amount_Compare.f 1 2 2 3).bind fun t129 => (if t129 = (-1) then ((amount_Asset.f (⟨#[]⟩ : ByteArray) 0).bind fun t130 => (if t130 = true then ((amount_Native.f (⟨#[]⟩ : ByteArray) 0).bind fun t131 => (some t131)) else (some false))) else (some false))) else (some false)) else (some false)) else (some false)) else (some false)) else (some false)) else (some false))))
theorem trustquorumlaw35_sane.mono : ∀ k, LeO (trustquorumlaw35_sane.f k ) (trustquorumlaw35_sane.f (k + 1) ) := by
  intro  k
  unfold trustquorumlaw35_sane.f
  repeat' first
      | (with_reducible exact amount_Down.mono _ _ _ _)
      | (with_reducible exact amount_Reduce.mono _ _ _)
      | (with_reducible exact amount_Up.mono _ _ _ _)
      | (with_reducible exact LeO.refl _)
      | (with_reducible exact LeO.none _)
      | (with_reducible refine LeO.ite ?_ ?_)
      | (with_reducible refine LeO.bind ?_ (fun _ => ?_))
      | exact amount_Down.mono _ _ _ _
      | exact amount_Reduce.mono _ _ _
      | exact amount_Up.mono _ _ _ _
      | exact LeO.none _
      | refine LeO.ite ?_ ?_
      | refine LeO.bind ?_ (fun _ => ?_)
set_option maxHeartbeats 8000000 in
set_option maxRecDepth 100000 in
theorem trustquorumlaw35_sane.calls (k : Nat)  (r : Bool) (w : World) (h : trustquorumlaw35_sane.f k  = some r) :
    Calls Try.prog 10 #[] w fun e w' => e = .returned (.bool r) ∧ Below w.heap.size w w' := by
  have hu38 := Try.underlying38
  have HB := Aside0.mk (Below.refl w.heap.size w)
  have H : ((amount_Down.f k 10 1 3).bind fun bt123 => ((amount_Up.f k 10 1 3).bind fun bt125 => ((amount_Reduce.f k 4 6).bind fun bt127 => (if bt123.2 = 0 then (if bt125.2 = 0 then (if bt123.1 = 3 then (if bt125.1 = 4 then (if bt127.1 = 2 then (if bt127.2 = 3 then ((amount_Compare.f 1 2 2 3).bind fun t129 => (if t129 = (-1) then ((amount_Asset.f (⟨#[]⟩ : ByteArray) 0).bind fun t130 => (if t130 = true then ((amount_Native.f (⟨#[]⟩ : ByteArray) 0).bind fun t131 => (some t131)) else (some false))) else (some false))) else (some false)) else (some false)) else (some false)) else (some false)) else (some false)) else (some false))))) = some r := h
  clear h
  replace H := Option.bind_eq_some_iff.mp H
  obtain ⟨⟨t123, t124⟩, A10, H⟩ := H
  replace H : ((amount_Up.f k 10 1 3).bind fun bt125 => ((amount_Reduce.f k 4 6).bind fun bt127 => (if t124 = 0 then (if bt125.2 = 0 then (if t123 = 3 then (if bt125.1 = 4 then (if bt127.1 = 2 then (if bt127.2 = 3 then ((amount_Compare.f 1 2 2 3).bind fun t129 => (if t129 = (-1) then ((amount_Asset.f (⟨#[]⟩ : ByteArray) 0).bind fun t130 => (if t130 = true then ((amount_Native.f (⟨#[]⟩ : ByteArray) 0).bind fun t131 => (some t131)) else (some false))) else (some false))) else (some false)) else (some false)) else (some false)) else (some false)) else (some false)) else (some false)))) = some r := H
  have A1 := Aside0.mk A10
  clear A10
  replace H := Option.bind_eq_some_iff.mp H
  obtain ⟨⟨t125, t126⟩, A20, H⟩ := H
  replace H : ((amount_Reduce.f k 4 6).bind fun bt127 => (if t124 = 0 then (if t126 = 0 then (if t123 = 3 then (if t125 = 4 then (if bt127.1 = 2 then (if bt127.2 = 3 then ((amount_Compare.f 1 2 2 3).bind fun t129 => (if t129 = (-1) then ((amount_Asset.f (⟨#[]⟩ : ByteArray) 0).bind fun t130 => (if t130 = true then ((amount_Native.f (⟨#[]⟩ : ByteArray) 0).bind fun t131 => (some t131)) else (some false))) else (some false))) else (some false)) else (some false)) else (some false)) else (some false)) else (some false)) else (some false))) = some r := H
  have A2 := Aside0.mk A20
  clear A20
  replace H := Option.bind_eq_some_iff.mp H
  obtain ⟨⟨t127, t128⟩, A30, H⟩ := H
  replace H : (if t124 = 0 then (if t126 = 0 then (if t123 = 3 then (if t125 = 4 then (if t127 = 2 then (if t128 = 3 then ((amount_Compare.f 1 2 2 3).bind fun t129 => (if t129 = (-1) then ((amount_Asset.f (⟨#[]⟩ : ByteArray) 0).bind fun t130 => (if t130 = true then ((amount_Native.f (⟨#[]⟩ : ByteArray) 0).bind fun t131 => (some t131)) else (some false))) else (some false))) else (some false)) else (some false)) else (some false)) else (some false)) else (some false)) else (some false)) = some r := H
  have A3 := Aside0.mk A30
  clear A30
  by_cases c4 : t124 = 0
  · rw [if_pos c4] at H
    have c4b0 : (t124 == 0) = true := beq_iff_eq.mpr c4
    have c4b1 : (t124 != 0) = false := bne_eq_false_iff_eq.mpr c4
    clear c4
    by_cases c5 : t126 = 0
    · rw [if_pos c5] at H
      have c5b0 : (t126 == 0) = true := beq_iff_eq.mpr c5
      have c5b1 : (t126 != 0) = false := bne_eq_false_iff_eq.mpr c5
      clear c5
      by_cases c6 : t123 = 3
      · rw [if_pos c6] at H
        have c6b0 : (t123 == 3) = true := beq_iff_eq.mpr c6
        have c6b1 : (t123 != 3) = false := bne_eq_false_iff_eq.mpr c6
        clear c6
        by_cases c7 : t125 = 4
        · rw [if_pos c7] at H
          have c7b0 : (t125 == 4) = true := beq_iff_eq.mpr c7
          have c7b1 : (t125 != 4) = false := bne_eq_false_iff_eq.mpr c7
          clear c7
          by_cases c8 : t127 = 2
          · rw [if_pos c8] at H
            have c8b0 : (t127 == 2) = true := beq_iff_eq.mpr c8
            have c8b1 : (t127 != 2) = false := bne_eq_false_iff_eq.mpr c8
            clear c8
            by_cases c9 : t128 = 3
            · rw [if_pos c9] at H
              have c9b0 : (t128 == 3) = true := beq_iff_eq.mpr c9
              have c9b1 : (t128 != 3) = false := bne_eq_false_iff_eq.mpr c9
              clear c9
              replace H := Option.bind_eq_some_iff.mp H
              obtain ⟨t129, A100, H⟩ := H
              replace H : (if t129 = (-1) then ((amount_Asset.f (⟨#[]⟩ : ByteArray) 0).bind fun t130 => (if t130 = true then ((amount_Native.f (⟨#[]⟩ : ByteArray) 0).bind fun t131 => (some t131)) else (some false))) else (some false)) = some r := H
              have A10 := Aside0.mk A100
              clear A100
              by_cases c11 : t129 = (-1)
              · rw [if_pos c11] at H
                have c11b0 : (t129 == (-1)) = true := beq_iff_eq.mpr c11
                have c11b1 : (t129 != (-1)) = false := bne_eq_false_iff_eq.mpr c11
                clear c11
                replace H := Option.bind_eq_some_iff.mp H
                obtain ⟨t130, A120, H⟩ := H
                replace H : (if t130 = true then ((amount_Native.f (⟨#[]⟩ : ByteArray) 0).bind fun t131 => (some t131)) else (some false)) = some r := H
                have A12 := Aside0.mk A120
                clear A120
                by_cases c13 : t130 = true
                · subst c13
                  have H1 : ((amount_Native.f (⟨#[]⟩ : ByteArray) 0).bind fun t131 => (some t131)) = some r := by rw [if_pos rfl] at H; exact H
                  clear H
                  have H := H1
                  clear H1
                  replace H := Option.bind_eq_some_iff.mp H
                  obtain ⟨t131, A140, H⟩ := H
                  replace H : (some t131) = some r := H
                  have A14 := Aside0.mk A140
                  clear A140
                  obtain rfl := Option.some.inj H
                  go_enter Try.func10, Try.ntmps10
                  go_wp2_with (first | ((with_reducible refine gate_callee (f := 8) rfl ?_); refine goesL_ (some 8) rfl rfl Try.func8 (by kernel_rfl) rfl #[.int .i64 10, .int .i64 1, .int .i64 3] rfl (by (try simp only [List.map_toArray, List.map_cons, List.map_nil]); first | done | rfl | (simp only [List.length_drop, List.length_take]; rfl)) ?_; (with_reducible refine (amount_Down.calls k 10 1 3 t123 t124 _ A1.out).mono ?_); rintro e w15 ⟨rfl, hb⟩; refine ⟨_, rfl, ?_⟩; have n0_ := Aside0.mk (below_step (by repeat (first | (with_reducible first | exact HB.out | apply below_alloc | apply pw_below_drewN | apply below_drew1) | exact HB.out)) hb); clear HB; have HB := n0_; clear n0_; (try clear hb); (try clear hb2); (try clear hk); (try clear hi)) | ((with_reducible refine gate_callee (f := 9) rfl ?_); refine goesL_ (some 12) rfl rfl Try.func9 (by kernel_rfl) rfl #[.int .i64 10, .int .i64 1, .int .i64 3] rfl (by (try simp only [List.map_toArray, List.map_cons, List.map_nil]); first | done | rfl | (simp only [List.length_drop, List.length_take]; rfl)) ?_; (with_reducible refine (amount_Up.calls k 10 1 3 t125 t126 _ A2.out).mono ?_); rintro e w16 ⟨rfl, hb⟩; refine ⟨_, rfl, ?_⟩; have n0_ := Aside0.mk (below_step (by repeat (first | (with_reducible first | exact HB.out | apply below_alloc | apply pw_below_drewN | apply below_drew1) | exact HB.out)) hb); clear HB; have HB := n0_; clear n0_; (try clear hb); (try clear hb2); (try clear hk); (try clear hi)) | ((with_reducible refine gate_callee (f := 11) rfl ?_); refine goesL_ (some 16) rfl rfl Try.func11 (by kernel_rfl) rfl #[.int .i64 4, .int .i64 6] rfl (by (try simp only [List.map_toArray, List.map_cons, List.map_nil]); first | done | rfl | (simp only [List.length_drop, List.length_take]; rfl)) ?_; (with_reducible refine (amount_Reduce.calls k 4 6 t127 t128 _ A3.out).mono ?_); rintro e w' ⟨rfl, ⟨nd, rfl⟩⟩; refine ⟨_, rfl, ?_⟩) | (go_at_call 12; (with_reducible refine (amount_Compare.calls 1 2 2 3 t129 _ A10.out).mono ?_); rintro e w' ⟨rfl, ⟨nd, rfl⟩⟩) | (go_at_call 18; (with_reducible refine (amount_Asset.calls (⟨#[]⟩ : ByteArray) 0 true _ A12.out).mono ?_); rintro e w17 ⟨rfl, hb⟩; have n0_ := Aside0.mk (below_step (by repeat (first | (with_reducible first | exact HB.out | apply below_alloc | apply pw_below_drewN | apply below_drew1) | exact HB.out)) hb); clear HB; have HB := n0_; clear n0_; (try clear hb); (try clear hb2); (try clear hk); (try clear hi)) | (go_at_call 19; (with_reducible refine (amount_Native.calls (⟨#[]⟩ : ByteArray) 0 t131 _ A14.out).mono ?_); rintro e w18 ⟨rfl, hb⟩; have n0_ := Aside0.mk (below_step (by repeat (first | (with_reducible first | exact HB.out | apply below_alloc | apply pw_below_drewN | apply below_drew1) | exact HB.out)) hb); clear HB; have HB := n0_; clear n0_; (try clear hb); (try clear hb2); (try clear hk); (try clear hi)))
                  go_ret
                  exact ⟨by first | rfl | (simp [errW_none, errW_some] <;> rfl) | (simp [*, errW_none, errW_some] <;> rfl), by repeat (first | (with_reducible first | exact HB.out | apply below_alloc | apply pw_below_drewN | apply below_drew1) | exact HB.out)⟩
                · replace c13 := Bool.eq_false_iff.mpr c13
                  subst c13
                  have H1 : (some false) = some r := by rw [if_neg (show ¬ (false = true) by decide)] at H; exact H
                  clear H
                  have H := H1
                  clear H1
                  obtain rfl := Option.some.inj H
                  go_enter Try.func10, Try.ntmps10
                  go_wp2_with (first | ((with_reducible refine gate_callee (f := 8) rfl ?_); refine goesL_ (some 8) rfl rfl Try.func8 (by kernel_rfl) rfl #[.int .i64 10, .int .i64 1, .int .i64 3] rfl (by (try simp only [List.map_toArray, List.map_cons, List.map_nil]); first | done | rfl | (simp only [List.length_drop, List.length_take]; rfl)) ?_; (with_reducible refine (amount_Down.calls k 10 1 3 t123 t124 _ A1.out).mono ?_); rintro e w19 ⟨rfl, hb⟩; refine ⟨_, rfl, ?_⟩; have n0_ := Aside0.mk (below_step (by repeat (first | (with_reducible first | exact HB.out | apply below_alloc | apply pw_below_drewN | apply below_drew1) | exact HB.out)) hb); clear HB; have HB := n0_; clear n0_; (try clear hb); (try clear hb2); (try clear hk); (try clear hi)) | ((with_reducible refine gate_callee (f := 9) rfl ?_); refine goesL_ (some 12) rfl rfl Try.func9 (by kernel_rfl) rfl #[.int .i64 10, .int .i64 1, .int .i64 3] rfl (by (try simp only [List.map_toArray, List.map_cons, List.map_nil]); first | done | rfl | (simp only [List.length_drop, List.length_take]; rfl)) ?_; (with_reducible refine (amount_Up.calls k 10 1 3 t125 t126 _ A2.out).mono ?_); rintro e w20 ⟨rfl, hb⟩; refine ⟨_, rfl, ?_⟩; have n0_ := Aside0.mk (below_step (by repeat (first | (with_reducible first | exact HB.out | apply below_alloc | apply pw_below_drewN | apply below_drew1) | exact HB.out)) hb); clear HB; have HB := n0_; clear n0_; (try clear hb); (try clear hb2); (try clear hk); (try clear hi)) | ((with_reducible refine gate_callee (f := 11) rfl ?_); refine goesL_ (some 16) rfl rfl Try.func11 (by kernel_rfl) rfl #[.int .i64 4, .int .i64 6] rfl (by (try simp only [List.map_toArray, List.map_cons, List.map_nil]); first | done | rfl | (simp only [List.length_drop, List.length_take]; rfl)) ?_; (with_reducible refine (amount_Reduce.calls k 4 6 t127 t128 _ A3.out).mono ?_); rintro e w' ⟨rfl, ⟨nd, rfl⟩⟩; refine ⟨_, rfl, ?_⟩) | (go_at_call 12; (with_reducible refine (amount_Compare.calls 1 2 2 3 t129 _ A10.out).mono ?_); rintro e w' ⟨rfl, ⟨nd, rfl⟩⟩) | (go_at_call 18; (with_reducible refine (amount_Asset.calls (⟨#[]⟩ : ByteArray) 0 false _ A12.out).mono ?_); rintro e w21 ⟨rfl, hb⟩; have n0_ := Aside0.mk (below_step (by repeat (first | (with_reducible first | exact HB.out | apply below_alloc | apply pw_below_drewN | apply below_drew1) | exact HB.out)) hb); clear HB; have HB := n0_; clear n0_; (try clear hb); (try clear hb2); (try clear hk); (try clear hi)))
                  go_ret
                  exact ⟨by first | rfl | (simp [errW_none, errW_some] <;> rfl) | (simp [*, errW_none, errW_some] <;> rfl), by repeat (first | (with_reducible first | exact HB.out | apply below_alloc | apply pw_below_drewN | apply below_drew1) | exact HB.out)⟩
              · rw [if_neg c11] at H
                have c11b0 : (t129 == (-1)) = false := beq_eq_false_iff_ne.mpr c11
                have c11b1 : (t129 != (-1)) = true := bne_iff_ne.mpr c11
                obtain rfl := Option.some.inj H
                go_enter Try.func10, Try.ntmps10
                go_wp2_with (first | ((with_reducible refine gate_callee (f := 8) rfl ?_); refine goesL_ (some 8) rfl rfl Try.func8 (by kernel_rfl) rfl #[.int .i64 10, .int .i64 1, .int .i64 3] rfl (by (try simp only [List.map_toArray, List.map_cons, List.map_nil]); first | done | rfl | (simp only [List.length_drop, List.length_take]; rfl)) ?_; (with_reducible refine (amount_Down.calls k 10 1 3 t123 t124 _ A1.out).mono ?_); rintro e w22 ⟨rfl, hb⟩; refine ⟨_, rfl, ?_⟩; have n0_ := Aside0.mk (below_step (by repeat (first | (with_reducible first | exact HB.out | apply below_alloc | apply pw_below_drewN | apply below_drew1) | exact HB.out)) hb); clear HB; have HB := n0_; clear n0_; (try clear hb); (try clear hb2); (try clear hk); (try clear hi)) | ((with_reducible refine gate_callee (f := 9) rfl ?_); refine goesL_ (some 12) rfl rfl Try.func9 (by kernel_rfl) rfl #[.int .i64 10, .int .i64 1, .int .i64 3] rfl (by (try simp only [List.map_toArray, List.map_cons, List.map_nil]); first | done | rfl | (simp only [List.length_drop, List.length_take]; rfl)) ?_; (with_reducible refine (amount_Up.calls k 10 1 3 t125 t126 _ A2.out).mono ?_); rintro e w23 ⟨rfl, hb⟩; refine ⟨_, rfl, ?_⟩; have n0_ := Aside0.mk (below_step (by repeat (first | (with_reducible first | exact HB.out | apply below_alloc | apply pw_below_drewN | apply below_drew1) | exact HB.out)) hb); clear HB; have HB := n0_; clear n0_; (try clear hb); (try clear hb2); (try clear hk); (try clear hi)) | ((with_reducible refine gate_callee (f := 11) rfl ?_); refine goesL_ (some 16) rfl rfl Try.func11 (by kernel_rfl) rfl #[.int .i64 4, .int .i64 6] rfl (by (try simp only [List.map_toArray, List.map_cons, List.map_nil]); first | done | rfl | (simp only [List.length_drop, List.length_take]; rfl)) ?_; (with_reducible refine (amount_Reduce.calls k 4 6 t127 t128 _ A3.out).mono ?_); rintro e w' ⟨rfl, ⟨nd, rfl⟩⟩; refine ⟨_, rfl, ?_⟩) | (go_at_call 12; (with_reducible refine (amount_Compare.calls 1 2 2 3 t129 _ A10.out).mono ?_); rintro e w' ⟨rfl, ⟨nd, rfl⟩⟩))
                go_ret
                exact ⟨by first | rfl | (simp [errW_none, errW_some] <;> rfl) | (simp [*, errW_none, errW_some] <;> rfl), by repeat (first | (with_reducible first | exact HB.out | apply below_alloc | apply pw_below_drewN | apply below_drew1) | exact HB.out)⟩
            · rw [if_neg c9] at H
              have c9b0 : (t128 == 3) = false := beq_eq_false_iff_ne.mpr c9
              have c9b1 : (t128 != 3) = true := bne_iff_ne.mpr c9
              obtain rfl := Option.some.inj H
              go_enter Try.func10, Try.ntmps10
              go_wp2_with (first | ((with_reducible refine gate_callee (f := 8) rfl ?_); refine goesL_ (some 8) rfl rfl Try.func8 (by kernel_rfl) rfl #[.int .i64 10, .int .i64 1, .int .i64 3] rfl (by (try simp only [List.map_toArray, List.map_cons, List.map_nil]); first | done | rfl | (simp only [List.length_drop, List.length_take]; rfl)) ?_; (with_reducible refine (amount_Down.calls k 10 1 3 t123 t124 _ A1.out).mono ?_); rintro e w24 ⟨rfl, hb⟩; refine ⟨_, rfl, ?_⟩; have n0_ := Aside0.mk (below_step (by repeat (first | (with_reducible first | exact HB.out | apply below_alloc | apply pw_below_drewN | apply below_drew1) | exact HB.out)) hb); clear HB; have HB := n0_; clear n0_; (try clear hb); (try clear hb2); (try clear hk); (try clear hi)) | ((with_reducible refine gate_callee (f := 9) rfl ?_); refine goesL_ (some 12) rfl rfl Try.func9 (by kernel_rfl) rfl #[.int .i64 10, .int .i64 1, .int .i64 3] rfl (by (try simp only [List.map_toArray, List.map_cons, List.map_nil]); first | done | rfl | (simp only [List.length_drop, List.length_take]; rfl)) ?_; (with_reducible refine (amount_Up.calls k 10 1 3 t125 t126 _ A2.out).mono ?_); rintro e w25 ⟨rfl, hb⟩; refine ⟨_, rfl, ?_⟩; have n0_ := Aside0.mk (below_step (by repeat (first | (with_reducible first | exact HB.out | apply below_alloc | apply pw_below_drewN | apply below_drew1) | exact HB.out)) hb); clear HB; have HB := n0_; clear n0_; (try clear hb); (try clear hb2); (try clear hk); (try clear hi)) | ((with_reducible refine gate_callee (f := 11) rfl ?_); refine goesL_ (some 16) rfl rfl Try.func11 (by kernel_rfl) rfl #[.int .i64 4, .int .i64 6] rfl (by (try simp only [List.map_toArray, List.map_cons, List.map_nil]); first | done | rfl | (simp only [List.length_drop, List.length_take]; rfl)) ?_; (with_reducible refine (amount_Reduce.calls k 4 6 t127 t128 _ A3.out).mono ?_); rintro e w' ⟨rfl, ⟨nd, rfl⟩⟩; refine ⟨_, rfl, ?_⟩))
              go_ret
              exact ⟨by first | rfl | (simp [errW_none, errW_some] <;> rfl) | (simp [*, errW_none, errW_some] <;> rfl), by repeat (first | (with_reducible first | exact HB.out | apply below_alloc | apply pw_below_drewN | apply below_drew1) | exact HB.out)⟩
          · rw [if_neg c8] at H
            have c8b0 : (t127 == 2) = false := beq_eq_false_iff_ne.mpr c8
            have c8b1 : (t127 != 2) = true := bne_iff_ne.mpr c8
            obtain rfl := Option.some.inj H
            go_enter Try.func10, Try.ntmps10
            go_wp2_with (first | ((with_reducible refine gate_callee (f := 8) rfl ?_); refine goesL_ (some 8) rfl rfl Try.func8 (by kernel_rfl) rfl #[.int .i64 10, .int .i64 1, .int .i64 3] rfl (by (try simp only [List.map_toArray, List.map_cons, List.map_nil]); first | done | rfl | (simp only [List.length_drop, List.length_take]; rfl)) ?_; (with_reducible refine (amount_Down.calls k 10 1 3 t123 t124 _ A1.out).mono ?_); rintro e w26 ⟨rfl, hb⟩; refine ⟨_, rfl, ?_⟩; have n0_ := Aside0.mk (below_step (by repeat (first | (with_reducible first | exact HB.out | apply below_alloc | apply pw_below_drewN | apply below_drew1) | exact HB.out)) hb); clear HB; have HB := n0_; clear n0_; (try clear hb); (try clear hb2); (try clear hk); (try clear hi)) | ((with_reducible refine gate_callee (f := 9) rfl ?_); refine goesL_ (some 12) rfl rfl Try.func9 (by kernel_rfl) rfl #[.int .i64 10, .int .i64 1, .int .i64 3] rfl (by (try simp only [List.map_toArray, List.map_cons, List.map_nil]); first | done | rfl | (simp only [List.length_drop, List.length_take]; rfl)) ?_; (with_reducible refine (amount_Up.calls k 10 1 3 t125 t126 _ A2.out).mono ?_); rintro e w27 ⟨rfl, hb⟩; refine ⟨_, rfl, ?_⟩; have n0_ := Aside0.mk (below_step (by repeat (first | (with_reducible first | exact HB.out | apply below_alloc | apply pw_below_drewN | apply below_drew1) | exact HB.out)) hb); clear HB; have HB := n0_; clear n0_; (try clear hb); (try clear hb2); (try clear hk); (try clear hi)) | ((with_reducible refine gate_callee (f := 11) rfl ?_); refine goesL_ (some 16) rfl rfl Try.func11 (by kernel_rfl) rfl #[.int .i64 4, .int .i64 6] rfl (by (try simp only [List.map_toArray, List.map_cons, List.map_nil]); first | done | rfl | (simp only [List.length_drop, List.length_take]; rfl)) ?_; (with_reducible refine (amount_Reduce.calls k 4 6 t127 t128 _ A3.out).mono ?_); rintro e w' ⟨rfl, ⟨nd, rfl⟩⟩; refine ⟨_, rfl, ?_⟩))
            go_ret
            exact ⟨by first | rfl | (simp [errW_none, errW_some] <;> rfl) | (simp [*, errW_none, errW_some] <;> rfl), by repeat (first | (with_reducible first | exact HB.out | apply below_alloc | apply pw_below_drewN | apply below_drew1) | exact HB.out)⟩
        · rw [if_neg c7] at H
          have c7b0 : (t125 == 4) = false := beq_eq_false_iff_ne.mpr c7
          have c7b1 : (t125 != 4) = true := bne_iff_ne.mpr c7
          obtain rfl := Option.some.inj H
          go_enter Try.func10, Try.ntmps10
          go_wp2_with (first | ((with_reducible refine gate_callee (f := 8) rfl ?_); refine goesL_ (some 8) rfl rfl Try.func8 (by kernel_rfl) rfl #[.int .i64 10, .int .i64 1, .int .i64 3] rfl (by (try simp only [List.map_toArray, List.map_cons, List.map_nil]); first | done | rfl | (simp only [List.length_drop, List.length_take]; rfl)) ?_; (with_reducible refine (amount_Down.calls k 10 1 3 t123 t124 _ A1.out).mono ?_); rintro e w28 ⟨rfl, hb⟩; refine ⟨_, rfl, ?_⟩; have n0_ := Aside0.mk (below_step (by repeat (first | (with_reducible first | exact HB.out | apply below_alloc | apply pw_below_drewN | apply below_drew1) | exact HB.out)) hb); clear HB; have HB := n0_; clear n0_; (try clear hb); (try clear hb2); (try clear hk); (try clear hi)) | ((with_reducible refine gate_callee (f := 9) rfl ?_); refine goesL_ (some 12) rfl rfl Try.func9 (by kernel_rfl) rfl #[.int .i64 10, .int .i64 1, .int .i64 3] rfl (by (try simp only [List.map_toArray, List.map_cons, List.map_nil]); first | done | rfl | (simp only [List.length_drop, List.length_take]; rfl)) ?_; (with_reducible refine (amount_Up.calls k 10 1 3 t125 t126 _ A2.out).mono ?_); rintro e w29 ⟨rfl, hb⟩; refine ⟨_, rfl, ?_⟩; have n0_ := Aside0.mk (below_step (by repeat (first | (with_reducible first | exact HB.out | apply below_alloc | apply pw_below_drewN | apply below_drew1) | exact HB.out)) hb); clear HB; have HB := n0_; clear n0_; (try clear hb); (try clear hb2); (try clear hk); (try clear hi)) | ((with_reducible refine gate_callee (f := 11) rfl ?_); refine goesL_ (some 16) rfl rfl Try.func11 (by kernel_rfl) rfl #[.int .i64 4, .int .i64 6] rfl (by (try simp only [List.map_toArray, List.map_cons, List.map_nil]); first | done | rfl | (simp only [List.length_drop, List.length_take]; rfl)) ?_; (with_reducible refine (amount_Reduce.calls k 4 6 t127 t128 _ A3.out).mono ?_); rintro e w' ⟨rfl, ⟨nd, rfl⟩⟩; refine ⟨_, rfl, ?_⟩))
          go_ret
          exact ⟨by first | rfl | (simp [errW_none, errW_some] <;> rfl) | (simp [*, errW_none, errW_some] <;> rfl), by repeat (first | (with_reducible first | exact HB.out | apply below_alloc | apply pw_below_drewN | apply below_drew1) | exact HB.out)⟩
      · rw [if_neg c6] at H
        have c6b0 : (t123 == 3) = false := beq_eq_false_iff_ne.mpr c6
        have c6b1 : (t123 != 3) = true := bne_iff_ne.mpr c6
        obtain rfl := Option.some.inj H
        go_enter Try.func10, Try.ntmps10
        go_wp2_with (first | ((with_reducible refine gate_callee (f := 8) rfl ?_); refine goesL_ (some 8) rfl rfl Try.func8 (by kernel_rfl) rfl #[.int .i64 10, .int .i64 1, .int .i64 3] rfl (by (try simp only [List.map_toArray, List.map_cons, List.map_nil]); first | done | rfl | (simp only [List.length_drop, List.length_take]; rfl)) ?_; (with_reducible refine (amount_Down.calls k 10 1 3 t123 t124 _ A1.out).mono ?_); rintro e w30 ⟨rfl, hb⟩; refine ⟨_, rfl, ?_⟩; have n0_ := Aside0.mk (below_step (by repeat (first | (with_reducible first | exact HB.out | apply below_alloc | apply pw_below_drewN | apply below_drew1) | exact HB.out)) hb); clear HB; have HB := n0_; clear n0_; (try clear hb); (try clear hb2); (try clear hk); (try clear hi)) | ((with_reducible refine gate_callee (f := 9) rfl ?_); refine goesL_ (some 12) rfl rfl Try.func9 (by kernel_rfl) rfl #[.int .i64 10, .int .i64 1, .int .i64 3] rfl (by (try simp only [List.map_toArray, List.map_cons, List.map_nil]); first | done | rfl | (simp only [List.length_drop, List.length_take]; rfl)) ?_; (with_reducible refine (amount_Up.calls k 10 1 3 t125 t126 _ A2.out).mono ?_); rintro e w31 ⟨rfl, hb⟩; refine ⟨_, rfl, ?_⟩; have n0_ := Aside0.mk (below_step (by repeat (first | (with_reducible first | exact HB.out | apply below_alloc | apply pw_below_drewN | apply below_drew1) | exact HB.out)) hb); clear HB; have HB := n0_; clear n0_; (try clear hb); (try clear hb2); (try clear hk); (try clear hi)) | ((with_reducible refine gate_callee (f := 11) rfl ?_); refine goesL_ (some 16) rfl rfl Try.func11 (by kernel_rfl) rfl #[.int .i64 4, .int .i64 6] rfl (by (try simp only [List.map_toArray, List.map_cons, List.map_nil]); first | done | rfl | (simp only [List.length_drop, List.length_take]; rfl)) ?_; (with_reducible refine (amount_Reduce.calls k 4 6 t127 t128 _ A3.out).mono ?_); rintro e w' ⟨rfl, ⟨nd, rfl⟩⟩; refine ⟨_, rfl, ?_⟩))
        go_ret
        exact ⟨by first | rfl | (simp [errW_none, errW_some] <;> rfl) | (simp [*, errW_none, errW_some] <;> rfl), by repeat (first | (with_reducible first | exact HB.out | apply below_alloc | apply pw_below_drewN | apply below_drew1) | exact HB.out)⟩
    · rw [if_neg c5] at H
      have c5b0 : (t126 == 0) = false := beq_eq_false_iff_ne.mpr c5
      have c5b1 : (t126 != 0) = true := bne_iff_ne.mpr c5
      obtain rfl := Option.some.inj H
      go_enter Try.func10, Try.ntmps10
      go_wp2_with (first | ((with_reducible refine gate_callee (f := 8) rfl ?_); refine goesL_ (some 8) rfl rfl Try.func8 (by kernel_rfl) rfl #[.int .i64 10, .int .i64 1, .int .i64 3] rfl (by (try simp only [List.map_toArray, List.map_cons, List.map_nil]); first | done | rfl | (simp only [List.length_drop, List.length_take]; rfl)) ?_; (with_reducible refine (amount_Down.calls k 10 1 3 t123 t124 _ A1.out).mono ?_); rintro e w32 ⟨rfl, hb⟩; refine ⟨_, rfl, ?_⟩; have n0_ := Aside0.mk (below_step (by repeat (first | (with_reducible first | exact HB.out | apply below_alloc | apply pw_below_drewN | apply below_drew1) | exact HB.out)) hb); clear HB; have HB := n0_; clear n0_; (try clear hb); (try clear hb2); (try clear hk); (try clear hi)) | ((with_reducible refine gate_callee (f := 9) rfl ?_); refine goesL_ (some 12) rfl rfl Try.func9 (by kernel_rfl) rfl #[.int .i64 10, .int .i64 1, .int .i64 3] rfl (by (try simp only [List.map_toArray, List.map_cons, List.map_nil]); first | done | rfl | (simp only [List.length_drop, List.length_take]; rfl)) ?_; (with_reducible refine (amount_Up.calls k 10 1 3 t125 t126 _ A2.out).mono ?_); rintro e w33 ⟨rfl, hb⟩; refine ⟨_, rfl, ?_⟩; have n0_ := Aside0.mk (below_step (by repeat (first | (with_reducible first | exact HB.out | apply below_alloc | apply pw_below_drewN | apply below_drew1) | exact HB.out)) hb); clear HB; have HB := n0_; clear n0_; (try clear hb); (try clear hb2); (try clear hk); (try clear hi)) | ((with_reducible refine gate_callee (f := 11) rfl ?_); refine goesL_ (some 16) rfl rfl Try.func11 (by kernel_rfl) rfl #[.int .i64 4, .int .i64 6] rfl (by (try simp only [List.map_toArray, List.map_cons, List.map_nil]); first | done | rfl | (simp only [List.length_drop, List.length_take]; rfl)) ?_; (with_reducible refine (amount_Reduce.calls k 4 6 t127 t128 _ A3.out).mono ?_); rintro e w' ⟨rfl, ⟨nd, rfl⟩⟩; refine ⟨_, rfl, ?_⟩))
      go_ret
      exact ⟨by first | rfl | (simp [errW_none, errW_some] <;> rfl) | (simp [*, errW_none, errW_some] <;> rfl), by repeat (first | (with_reducible first | exact HB.out | apply below_alloc | apply pw_below_drewN | apply below_drew1) | exact HB.out)⟩
  · rw [if_neg c4] at H
    have c4b0 : (t124 == 0) = false := beq_eq_false_iff_ne.mpr c4
    have c4b1 : (t124 != 0) = true := bne_iff_ne.mpr c4
    obtain rfl := Option.some.inj H
    go_enter Try.func10, Try.ntmps10
    go_wp2_with (first | ((with_reducible refine gate_callee (f := 8) rfl ?_); refine goesL_ (some 8) rfl rfl Try.func8 (by kernel_rfl) rfl #[.int .i64 10, .int .i64 1, .int .i64 3] rfl (by (try simp only [List.map_toArray, List.map_cons, List.map_nil]); first | done | rfl | (simp only [List.length_drop, List.length_take]; rfl)) ?_; (with_reducible refine (amount_Down.calls k 10 1 3 t123 t124 _ A1.out).mono ?_); rintro e w34 ⟨rfl, hb⟩; refine ⟨_, rfl, ?_⟩; have n0_ := Aside0.mk (below_step (by repeat (first | (with_reducible first | exact HB.out | apply below_alloc | apply pw_below_drewN | apply below_drew1) | exact HB.out)) hb); clear HB; have HB := n0_; clear n0_; (try clear hb); (try clear hb2); (try clear hk); (try clear hi)) | ((with_reducible refine gate_callee (f := 9) rfl ?_); refine goesL_ (some 12) rfl rfl Try.func9 (by kernel_rfl) rfl #[.int .i64 10, .int .i64 1, .int .i64 3] rfl (by (try simp only [List.map_toArray, List.map_cons, List.map_nil]); first | done | rfl | (simp only [List.length_drop, List.length_take]; rfl)) ?_; (with_reducible refine (amount_Up.calls k 10 1 3 t125 t126 _ A2.out).mono ?_); rintro e w35 ⟨rfl, hb⟩; refine ⟨_, rfl, ?_⟩; have n0_ := Aside0.mk (below_step (by repeat (first | (with_reducible first | exact HB.out | apply below_alloc | apply pw_below_drewN | apply below_drew1) | exact HB.out)) hb); clear HB; have HB := n0_; clear n0_; (try clear hb); (try clear hb2); (try clear hk); (try clear hi)) | ((with_reducible refine gate_callee (f := 11) rfl ?_); refine goesL_ (some 16) rfl rfl Try.func11 (by kernel_rfl) rfl #[.int .i64 4, .int .i64 6] rfl (by (try simp only [List.map_toArray, List.map_cons, List.map_nil]); first | done | rfl | (simp only [List.length_drop, List.length_take]; rfl)) ?_; (with_reducible refine (amount_Reduce.calls k 4 6 t127 t128 _ A3.out).mono ?_); rintro e w' ⟨rfl, ⟨nd, rfl⟩⟩; refine ⟨_, rfl, ?_⟩))
    go_ret
    exact ⟨by first | rfl | (simp [errW_none, errW_some] <;> rfl) | (simp [*, errW_none, errW_some] <;> rfl), by repeat (first | (with_reducible first | exact HB.out | apply below_alloc | apply pw_below_drewN | apply below_drew1) | exact HB.out)⟩

/-! ### amount_Add: function 13 -/
def amount_Add.f (k : Nat) (a0 : Int) (a1 : Int) : Option (Int × Int) := (amount_checked.f k (wrap64 (a0 + a1)) (([a0, a1] : List Int))).bind fun bt135 => (some (bt135.1, bt135.2))
theorem amount_Add.mono : ∀ a0 a1 k, LeO (amount_Add.f k a0 a1) (amount_Add.f (k + 1) a0 a1) := by
  intro a0 a1 k
  unfold amount_Add.f
  repeat' first
      | (with_reducible exact amount_checked.mono _ _ _)
      | (with_reducible exact LeO.refl _)
      | (with_reducible exact LeO.none _)
      | (with_reducible refine LeO.ite ?_ ?_)
      | (with_reducible refine LeO.bind ?_ (fun _ => ?_))
      | exact amount_checked.mono _ _ _
      | exact LeO.none _
      | refine LeO.ite ?_ ?_
      | refine LeO.bind ?_ (fun _ => ?_)
set_option maxHeartbeats 8000000 in
set_option maxRecDepth 100000 in
theorem amount_Add.calls (k : Nat) (a0 : Int) (a1 : Int) (r1 : Int) (r2 : Int) (w : World) (h : amount_Add.f k a0 a1 = some (r1, r2)) :
    Calls Try.prog 13 #[.int .i64 a0, .int .i64 a1] w fun e w' => e = .returned (.tuple #[.int .i64 r1, .int .i64 r2]) ∧ Below w.heap.size w w' := by
  have HB := Aside0.mk (Below.refl w.heap.size w)
  have H : ((amount_checked.f k (wrap64 (a0 + a1)) (([a0, a1] : List Int))).bind fun bt135 => (some (bt135.1, bt135.2))) = some (r1, r2) := h
  clear h
  obtain ⟨y132, hy132⟩ : ∃ y_ : List Int, y_ = (([a0, a1] : List Int)) := ⟨_, rfl⟩
  replace H : ((amount_checked.f k (wrap64 (a0 + a1)) y132).bind fun bt135 => (some (bt135.1, bt135.2))) = some (r1, r2) := by first | (rw [hy132]; with_reducible exact H) | (have H2_ := (Option.bind_some _ _).symm.trans H; rw [hy132]; with_reducible exact H2_) | (have H2_ := (Option.bind_some _ _).symm.trans H; with_reducible exact H2_) | with_reducible exact H | (rw [hy132]; exact H) | exact H
  have Ny132 := Aside0.mk hy132
  clear hy132
  replace H := Option.bind_eq_some_iff.mp H
  obtain ⟨⟨t135, t136⟩, A30, H⟩ := H
  replace H : (some (t135, t136)) = some (r1, r2) := H
  have A3 := Aside0.mk A30
  clear A30
  simp only [Option.some.injEq, Prod.mk.injEq] at H
  obtain ⟨rfl, rfl⟩ := H
  go_enter Try.func13, Try.ntmps13
  go_wp2_with (first | ((with_reducible refine gate_dst (N := 11) rfl ?_); refine Kd.R_lit (Kd.int .i64) _ 3 ?hg (N := 11) ?hd (xs := ([a0, a1] : List Int)) (inner := [.int .i64 a0, .int .i64 a1]) (ok := fun _ => True) (okp := fun _ => True) ?hr ?hp (fun _ hk => hk) trivial (Below.refl _ _) (Nat.le_refl _) (by simp) ?_; (case hd => rfl); (case hg => rfl); (case hr => first | (go_simp; done) | (go_simp; rfl)); (case hp => exact (Reps.one (show Kd.M (Kd.int .i64) _ _ _ a0 [.int .i64 a0] from rfl) (Reps.one (show Kd.M (Kd.int .i64) _ _ _ a1 [.int .i64 a1] from rfl) (Reps.none _ _)))); intro v133 w4 ho5 hb hg_ hnew_; clear hg_ hnew_; (first | rw [← Ny132.out] at ho5 | (simp only [Int.reduceToNat] at ho5; rw [← Ny132.out] at ho5)); have n0_ := Aside0.mk (Kd.R_lower ho5 (below_size (by repeat (first | (with_reducible first | exact HB.out | apply below_alloc | apply pw_below_drewN | apply below_drew1) | exact HB.out)))); have n1_ := Aside0.mk (below_step (by repeat (first | (with_reducible first | exact HB.out | apply below_alloc | apply pw_below_drewN | apply below_drew1) | exact HB.out)) hb); clear HB; have HO134 := n0_; have HB := n1_; clear n0_ n1_; clear hb ho5; obtain ⟨Ao6, co6, eo6⟩ := Kd.R_slice HO134.out; subst eo6) | ((with_reducible refine gate_callee (f := 38) rfl ?_); refine goesL_ (some 12) rfl rfl Try.func38 (by kernel_rfl) rfl #[.int .i64 (wrap64 (a0 + a1)), .slice Ao6 y132.length co6] rfl (by (try simp only [List.map_toArray, List.map_cons, List.map_nil]); first | done | rfl | (simp only [List.length_drop, List.length_take]; rfl)) ?_; (with_reducible refine (amount_checked.calls k (wrap64 (a0 + a1)) (fun k_ => some k_ = (.slice Ao6 y132.length co6 : Value).ownBlock) (.slice Ao6 y132.length co6) y132 t135 t136 w _ ?side1 ?side2 A3.out).mono ?_); (case side1 => repeat (first | (with_reducible first | exact HB.out | apply below_alloc | apply pw_below_drewN | apply below_drew1) | exact HB.out)); (case side2 => exact Kd.R_tight rfl HO134.out); rintro e w7 ⟨rfl, hb, hkp⟩; refine ⟨_, rfl, ?_⟩; have n0_ := Aside0.mk (hb); clear HB; clear HO134; have HB := n0_; clear n0_; (try clear hb); (try clear hkp)))
  go_ret2
  exact ⟨by first | rfl | (simp [errW_none, errW_some] <;> rfl) | (simp [*, errW_none, errW_some] <;> rfl), by repeat (first | (with_reducible first | exact HB.out | apply below_alloc | apply pw_below_drewN | apply below_drew1) | exact HB.out)⟩

/-! ### amount_Sub: function 14 -/
def amount_Sub.f (k : Nat) (a0 : Int) (a1 : Int) : Option (Int × Int) := (amount_checked.f k (wrap64 (a0 - a1)) (([a0, a1] : List Int))).bind fun bt140 => (some (bt140.1, bt140.2))
theorem amount_Sub.mono : ∀ a0 a1 k, LeO (amount_Sub.f k a0 a1) (amount_Sub.f (k + 1) a0 a1) := by
  intro a0 a1 k
  unfold amount_Sub.f
  repeat' first
      | (with_reducible exact amount_checked.mono _ _ _)
      | (with_reducible exact LeO.refl _)
      | (with_reducible exact LeO.none _)
      | (with_reducible refine LeO.ite ?_ ?_)
      | (with_reducible refine LeO.bind ?_ (fun _ => ?_))
      | exact amount_checked.mono _ _ _
      | exact LeO.none _
      | refine LeO.ite ?_ ?_
      | refine LeO.bind ?_ (fun _ => ?_)
set_option maxHeartbeats 8000000 in
set_option maxRecDepth 100000 in
theorem amount_Sub.calls (k : Nat) (a0 : Int) (a1 : Int) (r1 : Int) (r2 : Int) (w : World) (h : amount_Sub.f k a0 a1 = some (r1, r2)) :
    Calls Try.prog 14 #[.int .i64 a0, .int .i64 a1] w fun e w' => e = .returned (.tuple #[.int .i64 r1, .int .i64 r2]) ∧ Below w.heap.size w w' := by
  have HB := Aside0.mk (Below.refl w.heap.size w)
  have H : ((amount_checked.f k (wrap64 (a0 - a1)) (([a0, a1] : List Int))).bind fun bt140 => (some (bt140.1, bt140.2))) = some (r1, r2) := h
  clear h
  obtain ⟨y137, hy137⟩ : ∃ y_ : List Int, y_ = (([a0, a1] : List Int)) := ⟨_, rfl⟩
  replace H : ((amount_checked.f k (wrap64 (a0 - a1)) y137).bind fun bt140 => (some (bt140.1, bt140.2))) = some (r1, r2) := by first | (rw [hy137]; with_reducible exact H) | (have H2_ := (Option.bind_some _ _).symm.trans H; rw [hy137]; with_reducible exact H2_) | (have H2_ := (Option.bind_some _ _).symm.trans H; with_reducible exact H2_) | with_reducible exact H | (rw [hy137]; exact H) | exact H
  have Ny137 := Aside0.mk hy137
  clear hy137
  replace H := Option.bind_eq_some_iff.mp H
  obtain ⟨⟨t140, t141⟩, A30, H⟩ := H
  replace H : (some (t140, t141)) = some (r1, r2) := H
  have A3 := Aside0.mk A30
  clear A30
  simp only [Option.some.injEq, Prod.mk.injEq] at H
  obtain ⟨rfl, rfl⟩ := H
  go_enter Try.func14, Try.ntmps14
  go_wp2_with (first | ((with_reducible refine gate_dst (N := 11) rfl ?_); refine Kd.R_lit (Kd.int .i64) _ 3 ?hg (N := 11) ?hd (xs := ([a0, a1] : List Int)) (inner := [.int .i64 a0, .int .i64 a1]) (ok := fun _ => True) (okp := fun _ => True) ?hr ?hp (fun _ hk => hk) trivial (Below.refl _ _) (Nat.le_refl _) (by simp) ?_; (case hd => rfl); (case hg => rfl); (case hr => first | (go_simp; done) | (go_simp; rfl)); (case hp => exact (Reps.one (show Kd.M (Kd.int .i64) _ _ _ a0 [.int .i64 a0] from rfl) (Reps.one (show Kd.M (Kd.int .i64) _ _ _ a1 [.int .i64 a1] from rfl) (Reps.none _ _)))); intro v138 w4 ho5 hb hg_ hnew_; clear hg_ hnew_; (first | rw [← Ny137.out] at ho5 | (simp only [Int.reduceToNat] at ho5; rw [← Ny137.out] at ho5)); have n0_ := Aside0.mk (Kd.R_lower ho5 (below_size (by repeat (first | (with_reducible first | exact HB.out | apply below_alloc | apply pw_below_drewN | apply below_drew1) | exact HB.out)))); have n1_ := Aside0.mk (below_step (by repeat (first | (with_reducible first | exact HB.out | apply below_alloc | apply pw_below_drewN | apply below_drew1) | exact HB.out)) hb); clear HB; have HO139 := n0_; have HB := n1_; clear n0_ n1_; clear hb ho5; obtain ⟨Ao6, co6, eo6⟩ := Kd.R_slice HO139.out; subst eo6) | ((with_reducible refine gate_callee (f := 38) rfl ?_); refine goesL_ (some 12) rfl rfl Try.func38 (by kernel_rfl) rfl #[.int .i64 (wrap64 (a0 - a1)), .slice Ao6 y137.length co6] rfl (by (try simp only [List.map_toArray, List.map_cons, List.map_nil]); first | done | rfl | (simp only [List.length_drop, List.length_take]; rfl)) ?_; (with_reducible refine (amount_checked.calls k (wrap64 (a0 - a1)) (fun k_ => some k_ = (.slice Ao6 y137.length co6 : Value).ownBlock) (.slice Ao6 y137.length co6) y137 t140 t141 w _ ?side1 ?side2 A3.out).mono ?_); (case side1 => repeat (first | (with_reducible first | exact HB.out | apply below_alloc | apply pw_below_drewN | apply below_drew1) | exact HB.out)); (case side2 => exact Kd.R_tight rfl HO139.out); rintro e w7 ⟨rfl, hb, hkp⟩; refine ⟨_, rfl, ?_⟩; have n0_ := Aside0.mk (hb); clear HB; clear HO139; have HB := n0_; clear n0_; (try clear hb); (try clear hkp)))
  go_ret2
  exact ⟨by first | rfl | (simp [errW_none, errW_some] <;> rfl) | (simp [*, errW_none, errW_some] <;> rfl), by repeat (first | (with_reducible first | exact HB.out | apply below_alloc | apply pw_below_drewN | apply below_drew1) | exact HB.out)⟩

/-! ### trustquorumlaw35_AmountPrices: function 5 -/
def trustquorumlaw35_AmountPrices.j0 : Nat → Int → Int → Int → Int → Int → Int → Int → Bool → Option (Bool)
  | 0, _, _, _, _, _, _, _, _ => none
  | k + 1, x4, x11, x12, x13, x14, x15, x16, x80 => if x80 = true then (some false) else ((amount_Reduce.f k (wrap64 (x11 * (wrap64 (1 + (Int.tmod (wrap64 (x4)) 10))))) (wrap64 (x12 * (wrap64 (1 + (Int.tmod (wrap64 (x4)) 10)))))).bind fun bt147 => ((amount_Add.f k x11 x13).bind fun bt149 => ((amount_Sub.f k bt149.1 x13).bind fun bt151 => (if bt147.1 = x15 then (if bt147.2 = x16 then (if bt149.2 = 0 then (if bt151.2 = 0 then (if bt151.1 = x11 then ((amount_Compare.f x11 x12 x13 x14).bind fun t153 => (if ((decide (t153 < 0)) == (decide ((wrap64 (x11 * x14)) < (wrap64 (x13 * x12))))) = true then ((trustquorumlaw35_sane.f k).bind fun t154 => (some t154)) else (some false))) else (some false)) else (some false)) else (some false)) else (some false)) else (some false)))))
def trustquorumlaw35_AmountPrices.f (k : Nat) (a0 : Int) (a1 : Int) (a2 : Int) (a3 : Int) (a4 : Int) : Option (Bool) := (amount_Reduce.f k (wrap64 (1 + (wrap64 (a0)))) (wrap64 (1 + (wrap64 (a1))))).bind fun bt142 => ((amount_Compare.f (wrap64 (1 + (wrap64 (a0)))) (wrap64 (1 + (wrap64 (a1)))) bt142.1 bt142.2).bind fun t144 => (if t144 = 0 then ((amount_Compare.f (wrap64 (1 + (wrap64 (a0)))) (wrap64 (1 + (wrap64 (a1)))) (wrap64 (1 + (wrap64 (a2)))) (wrap64 (1 + (wrap64 (a3))))).bind fun t145 => ((amount_Compare.f (wrap64 (1 + (wrap64 (a2)))) (wrap64 (1 + (wrap64 (a3)))) (wrap64 (1 + (wrap64 (a0)))) (wrap64 (1 + (wrap64 (a1))))).bind fun t146 => (if t145 = (wrap64 (-t146)) then (if bt142.1 > (wrap64 (1 + (wrap64 (a0)))) then (trustquorumlaw35_AmountPrices.j0 k a4 (wrap64 (1 + (wrap64 (a0)))) (wrap64 (1 + (wrap64 (a1)))) (wrap64 (1 + (wrap64 (a2)))) (wrap64 (1 + (wrap64 (a3)))) bt142.1 bt142.2 true) else (if bt142.2 > (wrap64 (1 + (wrap64 (a1)))) then (trustquorumlaw35_AmountPrices.j0 k a4 (wrap64 (1 + (wrap64 (a0)))) (wrap64 (1 + (wrap64 (a1)))) (wrap64 (1 + (wrap64 (a2)))) (wrap64 (1 + (wrap64 (a3)))) bt142.1 bt142.2 true) else (trustquorumlaw35_AmountPrices.j0 k a4 (wrap64 (1 + (wrap64 (a0)))) (wrap64 (1 + (wrap64 (a1)))) (wrap64 (1 + (wrap64 (a2)))) (wrap64 (1 + (wrap64 (a3)))) bt142.1 bt142.2 ((wrap64 (bt142.1 * (wrap64 (1 + (wrap64 (a1)))))) != (wrap64 (bt142.2 * (wrap64 (1 + (wrap64 (a0)))))))))) else (trustquorumlaw35_AmountPrices.j0 k a4 (wrap64 (1 + (wrap64 (a0)))) (wrap64 (1 + (wrap64 (a1)))) (wrap64 (1 + (wrap64 (a2)))) (wrap64 (1 + (wrap64 (a3)))) bt142.1 bt142.2 true)))) else (trustquorumlaw35_AmountPrices.j0 k a4 (wrap64 (1 + (wrap64 (a0)))) (wrap64 (1 + (wrap64 (a1)))) (wrap64 (1 + (wrap64 (a2)))) (wrap64 (1 + (wrap64 (a3)))) bt142.1 bt142.2 true)))
theorem trustquorumlaw35_AmountPrices.mono_l : ∀ k, (∀ y0 y1 y2 y3 y4 y5 y6 y7, LeO (trustquorumlaw35_AmountPrices.j0 k y0 y1 y2 y3 y4 y5 y6 y7) (trustquorumlaw35_AmountPrices.j0 (k + 1) y0 y1 y2 y3 y4 y5 y6 y7))
  | 0 => fun _ _ _ _ _ _ _ _ r h => by simp [trustquorumlaw35_AmountPrices.j0] at h
  | k + 1 => by
    have ih0 := trustquorumlaw35_AmountPrices.mono_l k
    · intro y0 y1 y2 y3 y4 y5 y6 y7
      unfold trustquorumlaw35_AmountPrices.j0
      repeat' first
      | (with_reducible exact ih0 _ _ _ _ _ _ _ _)
      | (with_reducible exact amount_Add.mono _ _ _)
      | (with_reducible exact amount_Reduce.mono _ _ _)
      | (with_reducible exact amount_Sub.mono _ _ _)
      | (with_reducible exact trustquorumlaw35_sane.mono _)
      | (with_reducible exact LeO.refl _)
      | (with_reducible exact LeO.none _)
      | (with_reducible refine LeO.ite ?_ ?_)
      | (with_reducible refine LeO.bind ?_ (fun _ => ?_))
      | exact ih0 _ _ _ _ _ _ _ _
      | exact amount_Add.mono _ _ _
      | exact amount_Reduce.mono _ _ _
      | exact amount_Sub.mono _ _ _
      | exact trustquorumlaw35_sane.mono _
      | exact LeO.none _
      | refine LeO.ite ?_ ?_
      | refine LeO.bind ?_ (fun _ => ?_)
theorem trustquorumlaw35_AmountPrices.mono : ∀ a0 a1 a2 a3 a4 k, LeO (trustquorumlaw35_AmountPrices.f k a0 a1 a2 a3 a4) (trustquorumlaw35_AmountPrices.f (k + 1) a0 a1 a2 a3 a4) := by
  intro a0 a1 a2 a3 a4 k
  have ih0 := trustquorumlaw35_AmountPrices.mono_l k
  unfold trustquorumlaw35_AmountPrices.f
  repeat' first
      | (with_reducible exact ih0 _ _ _ _ _ _ _ _)
      | (with_reducible exact amount_Add.mono _ _ _)
      | (with_reducible exact amount_Reduce.mono _ _ _)
      | (with_reducible exact amount_Sub.mono _ _ _)
      | (with_reducible exact trustquorumlaw35_sane.mono _)
      | (with_reducible exact LeO.refl _)
      | (with_reducible exact LeO.none _)
      | (with_reducible refine LeO.ite ?_ ?_)
      | (with_reducible refine LeO.bind ?_ (fun _ => ?_))
      | exact ih0 _ _ _ _ _ _ _ _
      | exact amount_Add.mono _ _ _
      | exact amount_Reduce.mono _ _ _
      | exact amount_Sub.mono _ _ _
      | exact trustquorumlaw35_sane.mono _
      | exact LeO.none _
      | refine LeO.ite ?_ ?_
      | refine LeO.bind ?_ (fun _ => ?_)
set_option maxHeartbeats 8000000 in
set_option maxRecDepth 100000 in
theorem trustquorumlaw35_AmountPrices.calls (k : Nat) (a0 : Int) (a1 : Int) (a2 : Int) (a3 : Int) (a4 : Int) (r : Bool) (w : World) (h : trustquorumlaw35_AmountPrices.f k a0 a1 a2 a3 a4 = some r) :
    Calls Try.prog 5 #[.int .u16 a0, .int .u16 a1, .int .u16 a2, .int .u16 a3, .int .u8 a4] w fun e w' => e = .returned (.bool r) ∧ Below w.heap.size w w' := by
  have HB := Aside0.mk (Below.refl w.heap.size w)
  have H : ((amount_Reduce.f k (wrap64 (1 + (wrap64 (a0)))) (wrap64 (1 + (wrap64 (a1))))).bind fun bt142 => ((amount_Compare.f (wrap64 (1 + (wrap64 (a0)))) (wrap64 (1 + (wrap64 (a1)))) bt142.1 bt142.2).bind fun t144 => (if t144 = 0 then ((amount_Compare.f (wrap64 (1 + (wrap64 (a0)))) (wrap64 (1 + (wrap64 (a1)))) (wrap64 (1 + (wrap64 (a2)))) (wrap64 (1 + (wrap64 (a3))))).bind fun t145 => ((amount_Compare.f (wrap64 (1 + (wrap64 (a2)))) (wrap64 (1 + (wrap64 (a3)))) (wrap64 (1 + (wrap64 (a0)))) (wrap64 (1 + (wrap64 (a1))))).bind fun t146 => (if t145 = (wrap64 (-t146)) then (if bt142.1 > (wrap64 (1 + (wrap64 (a0)))) then (trustquorumlaw35_AmountPrices.j0 k a4 (wrap64 (1 + (wrap64 (a0)))) (wrap64 (1 + (wrap64 (a1)))) (wrap64 (1 + (wrap64 (a2)))) (wrap64 (1 + (wrap64 (a3)))) bt142.1 bt142.2 true) else (if bt142.2 > (wrap64 (1 + (wrap64 (a1)))) then (trustquorumlaw35_AmountPrices.j0 k a4 (wrap64 (1 + (wrap64 (a0)))) (wrap64 (1 + (wrap64 (a1)))) (wrap64 (1 + (wrap64 (a2)))) (wrap64 (1 + (wrap64 (a3)))) bt142.1 bt142.2 true) else (trustquorumlaw35_AmountPrices.j0 k a4 (wrap64 (1 + (wrap64 (a0)))) (wrap64 (1 + (wrap64 (a1)))) (wrap64 (1 + (wrap64 (a2)))) (wrap64 (1 + (wrap64 (a3)))) bt142.1 bt142.2 ((wrap64 (bt142.1 * (wrap64 (1 + (wrap64 (a1)))))) != (wrap64 (bt142.2 * (wrap64 (1 + (wrap64 (a0)))))))))) else (trustquorumlaw35_AmountPrices.j0 k a4 (wrap64 (1 + (wrap64 (a0)))) (wrap64 (1 + (wrap64 (a1)))) (wrap64 (1 + (wrap64 (a2)))) (wrap64 (1 + (wrap64 (a3)))) bt142.1 bt142.2 true)))) else (trustquorumlaw35_AmountPrices.j0 k a4 (wrap64 (1 + (wrap64 (a0)))) (wrap64 (1 + (wrap64 (a1)))) (wrap64 (1 + (wrap64 (a2)))) (wrap64 (1 + (wrap64 (a3)))) bt142.1 bt142.2 true)))) = some r := h
  clear h
  replace H := Option.bind_eq_some_iff.mp H
  obtain ⟨⟨t142, t143⟩, A60, H⟩ := H
  replace H : ((amount_Compare.f (wrap64 (1 + (wrap64 (a0)))) (wrap64 (1 + (wrap64 (a1)))) t142 t143).bind fun t144 => (if t144 = 0 then ((amount_Compare.f (wrap64 (1 + (wrap64 (a0)))) (wrap64 (1 + (wrap64 (a1)))) (wrap64 (1 + (wrap64 (a2)))) (wrap64 (1 + (wrap64 (a3))))).bind fun t145 => ((amount_Compare.f (wrap64 (1 + (wrap64 (a2)))) (wrap64 (1 + (wrap64 (a3)))) (wrap64 (1 + (wrap64 (a0)))) (wrap64 (1 + (wrap64 (a1))))).bind fun t146 => (if t145 = (wrap64 (-t146)) then (if t142 > (wrap64 (1 + (wrap64 (a0)))) then (trustquorumlaw35_AmountPrices.j0 k a4 (wrap64 (1 + (wrap64 (a0)))) (wrap64 (1 + (wrap64 (a1)))) (wrap64 (1 + (wrap64 (a2)))) (wrap64 (1 + (wrap64 (a3)))) t142 t143 true) else (if t143 > (wrap64 (1 + (wrap64 (a1)))) then (trustquorumlaw35_AmountPrices.j0 k a4 (wrap64 (1 + (wrap64 (a0)))) (wrap64 (1 + (wrap64 (a1)))) (wrap64 (1 + (wrap64 (a2)))) (wrap64 (1 + (wrap64 (a3)))) t142 t143 true) else (trustquorumlaw35_AmountPrices.j0 k a4 (wrap64 (1 + (wrap64 (a0)))) (wrap64 (1 + (wrap64 (a1)))) (wrap64 (1 + (wrap64 (a2)))) (wrap64 (1 + (wrap64 (a3)))) t142 t143 ((wrap64 (t142 * (wrap64 (1 + (wrap64 (a1)))))) != (wrap64 (t143 * (wrap64 (1 + (wrap64 (a0)))))))))) else (trustquorumlaw35_AmountPrices.j0 k a4 (wrap64 (1 + (wrap64 (a0)))) (wrap64 (1 + (wrap64 (a1)))) (wrap64 (1 + (wrap64 (a2)))) (wrap64 (1 + (wrap64 (a3)))) t142 t143 true)))) else (trustquorumlaw35_AmountPrices.j0 k a4 (wrap64 (1 + (wrap64 (a0)))) (wrap64 (1 + (wrap64 (a1)))) (wrap64 (1 + (wrap64 (a2)))) (wrap64 (1 + (wrap64 (a3)))) t142 t143 true))) = some r := H
  have A6 := Aside0.mk A60
  clear A60
  have HC7 := Aside0.mk H
  clear H
  go_enter Try.func5, Try.ntmps5
  go_upto_region 3 with (first | ((with_reducible refine gate_callee (f := 11) rfl ?_); refine goesL_ (some 39) rfl rfl Try.func11 (by kernel_rfl) rfl #[.int .i64 (wrap64 (1 + (wrap64 (a0)))), .int .i64 (wrap64 (1 + (wrap64 (a1))))] rfl (by (try simp only [List.map_toArray, List.map_cons, List.map_nil]); first | done | rfl | (simp only [List.length_drop, List.length_take]; rfl)) ?_; (with_reducible refine (amount_Reduce.calls k (wrap64 (1 + (wrap64 (a0)))) (wrap64 (1 + (wrap64 (a1)))) t142 t143 _ A6.out).mono ?_); rintro e w' ⟨rfl, ⟨nd, rfl⟩⟩; refine ⟨_, rfl, ?_⟩))
  (try simp only [Act.put, List.setIfInBounds_toArray, List.set_cons_zero, List.set_cons_succ])
  go_cut [80] (fun v80 wc => ∃ (kq : Nat) (x80_6 : Bool), v80 = .bool x80_6 ∧ Aside0 (trustquorumlaw35_AmountPrices.j0 kq a4 (wrap64 (1 + (wrap64 (a0)))) (wrap64 (1 + (wrap64 (a1)))) (wrap64 (1 + (wrap64 (a2)))) (wrap64 (1 + (wrap64 (a3)))) t142 t143 x80_6 = some r) ∧ Aside0 (kq ≤ k) ∧ Aside0 (Below w.heap.size w wc))
  case first =>
    have H := HC7.out
    clear HC7
    replace H := Option.bind_eq_some_iff.mp H
    obtain ⟨t144, A80, H⟩ := H
    replace H : (if t144 = 0 then ((amount_Compare.f (wrap64 (1 + (wrap64 (a0)))) (wrap64 (1 + (wrap64 (a1)))) (wrap64 (1 + (wrap64 (a2)))) (wrap64 (1 + (wrap64 (a3))))).bind fun t145 => ((amount_Compare.f (wrap64 (1 + (wrap64 (a2)))) (wrap64 (1 + (wrap64 (a3)))) (wrap64 (1 + (wrap64 (a0)))) (wrap64 (1 + (wrap64 (a1))))).bind fun t146 => (if t145 = (wrap64 (-t146)) then (if t142 > (wrap64 (1 + (wrap64 (a0)))) then (trustquorumlaw35_AmountPrices.j0 k a4 (wrap64 (1 + (wrap64 (a0)))) (wrap64 (1 + (wrap64 (a1)))) (wrap64 (1 + (wrap64 (a2)))) (wrap64 (1 + (wrap64 (a3)))) t142 t143 true) else (if t143 > (wrap64 (1 + (wrap64 (a1)))) then (trustquorumlaw35_AmountPrices.j0 k a4 (wrap64 (1 + (wrap64 (a0)))) (wrap64 (1 + (wrap64 (a1)))) (wrap64 (1 + (wrap64 (a2)))) (wrap64 (1 + (wrap64 (a3)))) t142 t143 true) else (trustquorumlaw35_AmountPrices.j0 k a4 (wrap64 (1 + (wrap64 (a0)))) (wrap64 (1 + (wrap64 (a1)))) (wrap64 (1 + (wrap64 (a2)))) (wrap64 (1 + (wrap64 (a3)))) t142 t143 ((wrap64 (t142 * (wrap64 (1 + (wrap64 (a1)))))) != (wrap64 (t143 * (wrap64 (1 + (wrap64 (a0)))))))))) else (trustquorumlaw35_AmountPrices.j0 k a4 (wrap64 (1 + (wrap64 (a0)))) (wrap64 (1 + (wrap64 (a1)))) (wrap64 (1 + (wrap64 (a2)))) (wrap64 (1 + (wrap64 (a3)))) t142 t143 true)))) else (trustquorumlaw35_AmountPrices.j0 k a4 (wrap64 (1 + (wrap64 (a0)))) (wrap64 (1 + (wrap64 (a1)))) (wrap64 (1 + (wrap64 (a2)))) (wrap64 (1 + (wrap64 (a3)))) t142 t143 true)) = some r := H
    have A8 := Aside0.mk A80
    clear A80
    by_cases c9 : t144 = 0
    · rw [if_pos c9] at H
      have c9b0 : (t144 == 0) = true := beq_iff_eq.mpr c9
      have c9b1 : (t144 != 0) = false := bne_eq_false_iff_eq.mpr c9
      clear c9
      (first | rw [c9b0] | (simp only [i64_w, i32_w]; rw [c9b0]) | skip)
      replace H := Option.bind_eq_some_iff.mp H
      obtain ⟨t145, A100, H⟩ := H
      replace H : ((amount_Compare.f (wrap64 (1 + (wrap64 (a2)))) (wrap64 (1 + (wrap64 (a3)))) (wrap64 (1 + (wrap64 (a0)))) (wrap64 (1 + (wrap64 (a1))))).bind fun t146 => (if t145 = (wrap64 (-t146)) then (if t142 > (wrap64 (1 + (wrap64 (a0)))) then (trustquorumlaw35_AmountPrices.j0 k a4 (wrap64 (1 + (wrap64 (a0)))) (wrap64 (1 + (wrap64 (a1)))) (wrap64 (1 + (wrap64 (a2)))) (wrap64 (1 + (wrap64 (a3)))) t142 t143 true) else (if t143 > (wrap64 (1 + (wrap64 (a1)))) then (trustquorumlaw35_AmountPrices.j0 k a4 (wrap64 (1 + (wrap64 (a0)))) (wrap64 (1 + (wrap64 (a1)))) (wrap64 (1 + (wrap64 (a2)))) (wrap64 (1 + (wrap64 (a3)))) t142 t143 true) else (trustquorumlaw35_AmountPrices.j0 k a4 (wrap64 (1 + (wrap64 (a0)))) (wrap64 (1 + (wrap64 (a1)))) (wrap64 (1 + (wrap64 (a2)))) (wrap64 (1 + (wrap64 (a3)))) t142 t143 ((wrap64 (t142 * (wrap64 (1 + (wrap64 (a1)))))) != (wrap64 (t143 * (wrap64 (1 + (wrap64 (a0)))))))))) else (trustquorumlaw35_AmountPrices.j0 k a4 (wrap64 (1 + (wrap64 (a0)))) (wrap64 (1 + (wrap64 (a1)))) (wrap64 (1 + (wrap64 (a2)))) (wrap64 (1 + (wrap64 (a3)))) t142 t143 true))) = some r := H
      have A10 := Aside0.mk A100
      clear A100
      replace H := Option.bind_eq_some_iff.mp H
      obtain ⟨t146, A110, H⟩ := H
      replace H : (if t145 = (wrap64 (-t146)) then (if t142 > (wrap64 (1 + (wrap64 (a0)))) then (trustquorumlaw35_AmountPrices.j0 k a4 (wrap64 (1 + (wrap64 (a0)))) (wrap64 (1 + (wrap64 (a1)))) (wrap64 (1 + (wrap64 (a2)))) (wrap64 (1 + (wrap64 (a3)))) t142 t143 true) else (if t143 > (wrap64 (1 + (wrap64 (a1)))) then (trustquorumlaw35_AmountPrices.j0 k a4 (wrap64 (1 + (wrap64 (a0)))) (wrap64 (1 + (wrap64 (a1)))) (wrap64 (1 + (wrap64 (a2)))) (wrap64 (1 + (wrap64 (a3)))) t142 t143 true) else (trustquorumlaw35_AmountPrices.j0 k a4 (wrap64 (1 + (wrap64 (a0)))) (wrap64 (1 + (wrap64 (a1)))) (wrap64 (1 + (wrap64 (a2)))) (wrap64 (1 + (wrap64 (a3)))) t142 t143 ((wrap64 (t142 * (wrap64 (1 + (wrap64 (a1)))))) != (wrap64 (t143 * (wrap64 (1 + (wrap64 (a0)))))))))) else (trustquorumlaw35_AmountPrices.j0 k a4 (wrap64 (1 + (wrap64 (a0)))) (wrap64 (1 + (wrap64 (a1)))) (wrap64 (1 + (wrap64 (a2)))) (wrap64 (1 + (wrap64 (a3)))) t142 t143 true)) = some r := H
      have A11 := Aside0.mk A110
      clear A110
      by_cases c12 : t145 = (wrap64 (-t146))
      · rw [if_pos c12] at H
        have c12b0 : (t145 == (wrap64 (-t146))) = true := beq_iff_eq.mpr c12
        have c12b1 : (t145 != (wrap64 (-t146))) = false := bne_eq_false_iff_eq.mpr c12
        clear c12
        by_cases c13 : t142 > (wrap64 (1 + (wrap64 (a0))))
        · rw [if_pos c13] at H
          have c13b0 : decide ((wrap64 (1 + (wrap64 (a0)))) < t142) = true := decide_eq_true c13
          clear c13
          have H' := Aside0.mk H
          clear H
          go_wp2_with (first | ((with_reducible refine gate_callee (f := 12) rfl ?_); refine goesL_ (some 46) rfl rfl Try.func12 (by kernel_rfl) rfl #[.int .i64 (wrap64 (1 + (wrap64 (a0)))), .int .i64 (wrap64 (1 + (wrap64 (a1)))), .int .i64 t142, .int .i64 t143] rfl (by (try simp only [List.map_toArray, List.map_cons, List.map_nil]); first | done | rfl | (simp only [List.length_drop, List.length_take]; rfl)) ?_; (with_reducible refine (amount_Compare.calls (wrap64 (1 + (wrap64 (a0)))) (wrap64 (1 + (wrap64 (a1)))) t142 t143 t144 _ A8.out).mono ?_); rintro e w' ⟨rfl, ⟨nd, rfl⟩⟩; refine ⟨_, rfl, ?_⟩) | (go_at_call 12; (with_reducible refine (amount_Compare.calls (wrap64 (1 + (wrap64 (a0)))) (wrap64 (1 + (wrap64 (a1)))) (wrap64 (1 + (wrap64 (a2)))) (wrap64 (1 + (wrap64 (a3)))) t145 _ A10.out).mono ?_); rintro e w' ⟨rfl, ⟨nd, rfl⟩⟩) | (go_at_call 12; (with_reducible refine (amount_Compare.calls (wrap64 (1 + (wrap64 (a2)))) (wrap64 (1 + (wrap64 (a3)))) (wrap64 (1 + (wrap64 (a0)))) (wrap64 (1 + (wrap64 (a1)))) t146 _ A11.out).mono ?_); rintro e w' ⟨rfl, ⟨nd, rfl⟩⟩))
          go_meet
          case rel => exact ⟨_, (true), (by first | rfl | (simp; done) | (simp [*]; done)), H', ⟨by first | omega | exact Nat.le_refl _⟩, ⟨by repeat (first | (with_reducible first | exact HB.out | apply below_alloc | apply pw_below_drewN | apply below_drew1) | exact HB.out)⟩⟩
        · rw [if_neg c13] at H
          have c13b0 : decide ((wrap64 (1 + (wrap64 (a0)))) < t142) = false := decide_eq_false c13
          clear c13
          by_cases c14 : t143 > (wrap64 (1 + (wrap64 (a1))))
          · rw [if_pos c14] at H
            have c14b0 : decide ((wrap64 (1 + (wrap64 (a1)))) < t143) = true := decide_eq_true c14
            clear c14
            have H' := Aside0.mk H
            clear H
            go_wp2_with (first | ((with_reducible refine gate_callee (f := 12) rfl ?_); refine goesL_ (some 46) rfl rfl Try.func12 (by kernel_rfl) rfl #[.int .i64 (wrap64 (1 + (wrap64 (a0)))), .int .i64 (wrap64 (1 + (wrap64 (a1)))), .int .i64 t142, .int .i64 t143] rfl (by (try simp only [List.map_toArray, List.map_cons, List.map_nil]); first | done | rfl | (simp only [List.length_drop, List.length_take]; rfl)) ?_; (with_reducible refine (amount_Compare.calls (wrap64 (1 + (wrap64 (a0)))) (wrap64 (1 + (wrap64 (a1)))) t142 t143 t144 _ A8.out).mono ?_); rintro e w' ⟨rfl, ⟨nd, rfl⟩⟩; refine ⟨_, rfl, ?_⟩) | (go_at_call 12; (with_reducible refine (amount_Compare.calls (wrap64 (1 + (wrap64 (a0)))) (wrap64 (1 + (wrap64 (a1)))) (wrap64 (1 + (wrap64 (a2)))) (wrap64 (1 + (wrap64 (a3)))) t145 _ A10.out).mono ?_); rintro e w' ⟨rfl, ⟨nd, rfl⟩⟩) | (go_at_call 12; (with_reducible refine (amount_Compare.calls (wrap64 (1 + (wrap64 (a2)))) (wrap64 (1 + (wrap64 (a3)))) (wrap64 (1 + (wrap64 (a0)))) (wrap64 (1 + (wrap64 (a1)))) t146 _ A11.out).mono ?_); rintro e w' ⟨rfl, ⟨nd, rfl⟩⟩))
            go_meet
            case rel => exact ⟨_, (true), (by first | rfl | (simp; done) | (simp [*]; done)), H', ⟨by first | omega | exact Nat.le_refl _⟩, ⟨by repeat (first | (with_reducible first | exact HB.out | apply below_alloc | apply pw_below_drewN | apply below_drew1) | exact HB.out)⟩⟩
          · rw [if_neg c14] at H
            have c14b0 : decide ((wrap64 (1 + (wrap64 (a1)))) < t143) = false := decide_eq_false c14
            clear c14
            have H' := Aside0.mk H
            clear H
            go_wp2_with (first | ((with_reducible refine gate_callee (f := 12) rfl ?_); refine goesL_ (some 46) rfl rfl Try.func12 (by kernel_rfl) rfl #[.int .i64 (wrap64 (1 + (wrap64 (a0)))), .int .i64 (wrap64 (1 + (wrap64 (a1)))), .int .i64 t142, .int .i64 t143] rfl (by (try simp only [List.map_toArray, List.map_cons, List.map_nil]); first | done | rfl | (simp only [List.length_drop, List.length_take]; rfl)) ?_; (with_reducible refine (amount_Compare.calls (wrap64 (1 + (wrap64 (a0)))) (wrap64 (1 + (wrap64 (a1)))) t142 t143 t144 _ A8.out).mono ?_); rintro e w' ⟨rfl, ⟨nd, rfl⟩⟩; refine ⟨_, rfl, ?_⟩) | (go_at_call 12; (with_reducible refine (amount_Compare.calls (wrap64 (1 + (wrap64 (a0)))) (wrap64 (1 + (wrap64 (a1)))) (wrap64 (1 + (wrap64 (a2)))) (wrap64 (1 + (wrap64 (a3)))) t145 _ A10.out).mono ?_); rintro e w' ⟨rfl, ⟨nd, rfl⟩⟩) | (go_at_call 12; (with_reducible refine (amount_Compare.calls (wrap64 (1 + (wrap64 (a2)))) (wrap64 (1 + (wrap64 (a3)))) (wrap64 (1 + (wrap64 (a0)))) (wrap64 (1 + (wrap64 (a1)))) t146 _ A11.out).mono ?_); rintro e w' ⟨rfl, ⟨nd, rfl⟩⟩))
            go_meet
            case rel => exact ⟨_, (((wrap64 (t142 * (wrap64 (1 + (wrap64 (a1)))))) != (wrap64 (t143 * (wrap64 (1 + (wrap64 (a0)))))))), (by first | rfl | (simp; done) | (simp [*]; done)), H', ⟨by first | omega | exact Nat.le_refl _⟩, ⟨by repeat (first | (with_reducible first | exact HB.out | apply below_alloc | apply pw_below_drewN | apply below_drew1) | exact HB.out)⟩⟩
      · rw [if_neg c12] at H
        have c12b0 : (t145 == (wrap64 (-t146))) = false := beq_eq_false_iff_ne.mpr c12
        have c12b1 : (t145 != (wrap64 (-t146))) = true := bne_iff_ne.mpr c12
        have H' := Aside0.mk H
        clear H
        go_wp2_with (first | ((with_reducible refine gate_callee (f := 12) rfl ?_); refine goesL_ (some 46) rfl rfl Try.func12 (by kernel_rfl) rfl #[.int .i64 (wrap64 (1 + (wrap64 (a0)))), .int .i64 (wrap64 (1 + (wrap64 (a1)))), .int .i64 t142, .int .i64 t143] rfl (by (try simp only [List.map_toArray, List.map_cons, List.map_nil]); first | done | rfl | (simp only [List.length_drop, List.length_take]; rfl)) ?_; (with_reducible refine (amount_Compare.calls (wrap64 (1 + (wrap64 (a0)))) (wrap64 (1 + (wrap64 (a1)))) t142 t143 t144 _ A8.out).mono ?_); rintro e w' ⟨rfl, ⟨nd, rfl⟩⟩; refine ⟨_, rfl, ?_⟩) | (go_at_call 12; (with_reducible refine (amount_Compare.calls (wrap64 (1 + (wrap64 (a0)))) (wrap64 (1 + (wrap64 (a1)))) (wrap64 (1 + (wrap64 (a2)))) (wrap64 (1 + (wrap64 (a3)))) t145 _ A10.out).mono ?_); rintro e w' ⟨rfl, ⟨nd, rfl⟩⟩) | (go_at_call 12; (with_reducible refine (amount_Compare.calls (wrap64 (1 + (wrap64 (a2)))) (wrap64 (1 + (wrap64 (a3)))) (wrap64 (1 + (wrap64 (a0)))) (wrap64 (1 + (wrap64 (a1)))) t146 _ A11.out).mono ?_); rintro e w' ⟨rfl, ⟨nd, rfl⟩⟩))
        go_meet
        case rel => exact ⟨_, (true), (by first | rfl | (simp; done) | (simp [*]; done)), H', ⟨by first | omega | exact Nat.le_refl _⟩, ⟨by repeat (first | (with_reducible first | exact HB.out | apply below_alloc | apply pw_below_drewN | apply below_drew1) | exact HB.out)⟩⟩
    · rw [if_neg c9] at H
      have c9b0 : (t144 == 0) = false := beq_eq_false_iff_ne.mpr c9
      have c9b1 : (t144 != 0) = true := bne_iff_ne.mpr c9
      (first | rw [c9b0] | (simp only [i64_w, i32_w]; rw [c9b0]) | skip)
      have H' := Aside0.mk H
      clear H
      go_wp2_with (first | ((with_reducible refine gate_callee (f := 12) rfl ?_); refine goesL_ (some 46) rfl rfl Try.func12 (by kernel_rfl) rfl #[.int .i64 (wrap64 (1 + (wrap64 (a0)))), .int .i64 (wrap64 (1 + (wrap64 (a1)))), .int .i64 t142, .int .i64 t143] rfl (by (try simp only [List.map_toArray, List.map_cons, List.map_nil]); first | done | rfl | (simp only [List.length_drop, List.length_take]; rfl)) ?_; (with_reducible refine (amount_Compare.calls (wrap64 (1 + (wrap64 (a0)))) (wrap64 (1 + (wrap64 (a1)))) t142 t143 t144 _ A8.out).mono ?_); rintro e w' ⟨rfl, ⟨nd, rfl⟩⟩; refine ⟨_, rfl, ?_⟩))
      go_meet
      case rel => exact ⟨_, (true), (by first | rfl | (simp; done) | (simp [*]; done)), H', ⟨by first | omega | exact Nat.le_refl _⟩, ⟨by repeat (first | (with_reducible first | exact HB.out | apply below_alloc | apply pw_below_drewN | apply below_drew1) | exact HB.out)⟩⟩
  case rest =>
    clear HC7
    try clear c1
    try clear p2
    try clear c5
    try clear p6
    try clear c9
    try clear c9b0
    try clear c9b1
    try clear c11
    try clear c12
    try clear c12b0
    try clear c12b1
    try clear c13
    try clear c13b0
    try clear c14
    try clear c14b0
    obtain ⟨kq, x80_6, rfl, HA, HJ6, HB⟩ := hcut
    cases kq with
    | zero => exact absurd HA.out (by simp [trustquorumlaw35_AmountPrices.j0])
    | succ kj6 =>
      have H := HA.out
      clear HA
      simp only [trustquorumlaw35_AmountPrices.j0] at H
      by_cases c15 : x80_6 = true
      · subst c15
        have H1 : (some false) = some r := by rw [if_pos rfl] at H; exact H
        clear H
        have H := H1
        clear H1
        obtain rfl := Option.some.inj H
        go_wp2
        go_ret
        exact ⟨by first | rfl | (simp [errW_none, errW_some] <;> rfl) | (simp [*, errW_none, errW_some] <;> rfl), by repeat (first | (with_reducible first | exact HB.out | apply below_alloc | apply pw_below_drewN | apply below_drew1) | exact HB.out)⟩
      · replace c15 := Bool.eq_false_iff.mpr c15
        subst c15
        have H1 : ((amount_Reduce.f kj6 (wrap64 ((wrap64 (1 + (wrap64 (a0)))) * (wrap64 (1 + (Int.tmod (wrap64 (a4)) 10))))) (wrap64 ((wrap64 (1 + (wrap64 (a1)))) * (wrap64 (1 + (Int.tmod (wrap64 (a4)) 10)))))).bind fun bt147 => ((amount_Add.f kj6 (wrap64 (1 + (wrap64 (a0)))) (wrap64 (1 + (wrap64 (a2))))).bind fun bt149 => ((amount_Sub.f kj6 bt149.1 (wrap64 (1 + (wrap64 (a2))))).bind fun bt151 => (if bt147.1 = t142 then (if bt147.2 = t143 then (if bt149.2 = 0 then (if bt151.2 = 0 then (if bt151.1 = (wrap64 (1 + (wrap64 (a0)))) then ((amount_Compare.f (wrap64 (1 + (wrap64 (a0)))) (wrap64 (1 + (wrap64 (a1)))) (wrap64 (1 + (wrap64 (a2)))) (wrap64 (1 + (wrap64 (a3))))).bind fun t153 => (if ((decide (t153 < 0)) == (decide ((wrap64 ((wrap64 (1 + (wrap64 (a0)))) * (wrap64 (1 + (wrap64 (a3)))))) < (wrap64 ((wrap64 (1 + (wrap64 (a2)))) * (wrap64 (1 + (wrap64 (a1))))))))) = true then ((trustquorumlaw35_sane.f kj6).bind fun t154 => (some t154)) else (some false))) else (some false)) else (some false)) else (some false)) else (some false)) else (some false))))) = some r := by rw [if_neg (show ¬ (false = true) by decide)] at H; exact H
        clear H
        have H := H1
        clear H1
        replace H := Option.bind_eq_some_iff.mp H
        obtain ⟨⟨t147, t148⟩, A160, H⟩ := H
        replace H : ((amount_Add.f kj6 (wrap64 (1 + (wrap64 (a0)))) (wrap64 (1 + (wrap64 (a2))))).bind fun bt149 => ((amount_Sub.f kj6 bt149.1 (wrap64 (1 + (wrap64 (a2))))).bind fun bt151 => (if t147 = t142 then (if t148 = t143 then (if bt149.2 = 0 then (if bt151.2 = 0 then (if bt151.1 = (wrap64 (1 + (wrap64 (a0)))) then ((amount_Compare.f (wrap64 (1 + (wrap64 (a0)))) (wrap64 (1 + (wrap64 (a1)))) (wrap64 (1 + (wrap64 (a2)))) (wrap64 (1 + (wrap64 (a3))))).bind fun t153 => (if ((decide (t153 < 0)) == (decide ((wrap64 ((wrap64 (1 + (wrap64 (a0)))) * (wrap64 (1 + (wrap64 (a3)))))) < (wrap64 ((wrap64 (1 + (wrap64 (a2)))) * (wrap64 (1 + (wrap64 (a1))))))))) = true then ((trustquorumlaw35_sane.f kj6).bind fun t154 => (some t154)) else (some false))) else (some false)) else (some false)) else (some false)) else (some false)) else (some false)))) = some r := H
        have A16 := Aside0.mk A160
        clear A160
        replace H := Option.bind_eq_some_iff.mp H
        obtain ⟨⟨t149, t150⟩, A170, H⟩ := H
        replace H : ((amount_Sub.f kj6 t149 (wrap64 (1 + (wrap64 (a2))))).bind fun bt151 => (if t147 = t142 then (if t148 = t143 then (if t150 = 0 then (if bt151.2 = 0 then (if bt151.1 = (wrap64 (1 + (wrap64 (a0)))) then ((amount_Compare.f (wrap64 (1 + (wrap64 (a0)))) (wrap64 (1 + (wrap64 (a1)))) (wrap64 (1 + (wrap64 (a2)))) (wrap64 (1 + (wrap64 (a3))))).bind fun t153 => (if ((decide (t153 < 0)) == (decide ((wrap64 ((wrap64 (1 + (wrap64 (a0)))) * (wrap64 (1 + (wrap64 (a3)))))) < (wrap64 ((wrap64 (1 + (wrap64 (a2)))) * (wrap64 (1 + (wrap64 (a1))))))))) = true then ((trustquorumlaw35_sane.f kj6).bind fun t154 => (some t154)) else (some false))) else (some false)) else (some false)) else (some false)) else (some false)) else (some false))) = some r := H
        have A17 := Aside0.mk A170
        clear A170
        replace H := Option.bind_eq_some_iff.mp H
        obtain ⟨⟨t151, t152⟩, A180, H⟩ := H
        replace H : (if t147 = t142 then (if t148 = t143 then (if t150 = 0 then (if t152 = 0 then (if t151 = (wrap64 (1 + (wrap64 (a0)))) then ((amount_Compare.f (wrap64 (1 + (wrap64 (a0)))) (wrap64 (1 + (wrap64 (a1)))) (wrap64 (1 + (wrap64 (a2)))) (wrap64 (1 + (wrap64 (a3))))).bind fun t153 => (if ((decide (t153 < 0)) == (decide ((wrap64 ((wrap64 (1 + (wrap64 (a0)))) * (wrap64 (1 + (wrap64 (a3)))))) < (wrap64 ((wrap64 (1 + (wrap64 (a2)))) * (wrap64 (1 + (wrap64 (a1))))))))) = true then ((trustquorumlaw35_sane.f kj6).bind fun t154 => (some t154)) else (some false))) else (some false)) else (some false)) else (some false)) else (some false)) else (some false)) = some r := H
        have A18 := Aside0.mk A180
        clear A180
        by_cases c19 : t147 = t142
        · rw [if_pos c19] at H
          have c19b0 : (t147 == t142) = true := beq_iff_eq.mpr c19
          have c19b1 : (t147 != t142) = false := bne_eq_false_iff_eq.mpr c19
          clear c19
          by_cases c20 : t148 = t143
          · rw [if_pos c20] at H
            have c20b0 : (t148 == t143) = true := beq_iff_eq.mpr c20
            have c20b1 : (t148 != t143) = false := bne_eq_false_iff_eq.mpr c20
            clear c20
            by_cases c21 : t150 = 0
            · rw [if_pos c21] at H
              have c21b0 : (t150 == 0) = true := beq_iff_eq.mpr c21
              have c21b1 : (t150 != 0) = false := bne_eq_false_iff_eq.mpr c21
              clear c21
              by_cases c22 : t152 = 0
              · rw [if_pos c22] at H
                have c22b0 : (t152 == 0) = true := beq_iff_eq.mpr c22
                have c22b1 : (t152 != 0) = false := bne_eq_false_iff_eq.mpr c22
                clear c22
                by_cases c23 : t151 = (wrap64 (1 + (wrap64 (a0))))
                · rw [if_pos c23] at H
                  have c23b0 : (t151 == (wrap64 (1 + (wrap64 (a0))))) = true := beq_iff_eq.mpr c23
                  have c23b1 : (t151 != (wrap64 (1 + (wrap64 (a0))))) = false := bne_eq_false_iff_eq.mpr c23
                  clear c23
                  replace H := Option.bind_eq_some_iff.mp H
                  obtain ⟨t153, A240, H⟩ := H
                  replace H : (if ((decide (t153 < 0)) == (decide ((wrap64 ((wrap64 (1 + (wrap64 (a0)))) * (wrap64 (1 + (wrap64 (a3)))))) < (wrap64 ((wrap64 (1 + (wrap64 (a2)))) * (wrap64 (1 + (wrap64 (a1))))))))) = true then ((trustquorumlaw35_sane.f kj6).bind fun t154 => (some t154)) else (some false)) = some r := H
                  have A24 := Aside0.mk A240
                  clear A240
                  by_cases c25 : ((decide (t153 < 0)) == (decide ((wrap64 ((wrap64 (1 + (wrap64 (a0)))) * (wrap64 (1 + (wrap64 (a3)))))) < (wrap64 ((wrap64 (1 + (wrap64 (a2)))) * (wrap64 (1 + (wrap64 (a1))))))))) = true
                  · rw [if_pos c25] at H
                    have c25b0 : ((decide (t153 < 0)) == (decide ((wrap64 ((wrap64 (1 + (wrap64 (a0)))) * (wrap64 (1 + (wrap64 (a3)))))) < (wrap64 ((wrap64 (1 + (wrap64 (a2)))) * (wrap64 (1 + (wrap64 (a1))))))))) = true := c25
                    (try (have c25b1 : decide ((decide (t153 < 0)) = (decide ((wrap64 ((wrap64 (1 + (wrap64 (a0)))) * (wrap64 (1 + (wrap64 (a3)))))) < (wrap64 ((wrap64 (1 + (wrap64 (a2)))) * (wrap64 (1 + (wrap64 (a1))))))))) = true := by simpa using c25))
                    (try (have c25b2 : ((decide (t153 < 0)) == (decide ((wrap64 ((wrap64 (1 + (wrap64 (a0)))) * (wrap64 (1 + (wrap64 (a3)))))) < (wrap64 ((wrap64 (1 + (wrap64 (a2)))) * (wrap64 (1 + (wrap64 (a1))))))))) = true := by simpa using c25))
                    clear c25
                    replace H := Option.bind_eq_some_iff.mp H
                    obtain ⟨t154, A260, H⟩ := H
                    replace H : (some t154) = some r := H
                    have A26 := Aside0.mk A260
                    clear A260
                    obtain rfl := Option.some.inj H
                    go_wp2_with (first | ((with_reducible refine gate_callee (f := 11) rfl ?_); refine goesL_ (some 92) rfl rfl Try.func11 (by kernel_rfl) rfl #[.int .i64 (wrap64 ((wrap64 (1 + (wrap64 (a0)))) * (wrap64 (1 + (Int.tmod (wrap64 (a4)) 10))))), .int .i64 (wrap64 ((wrap64 (1 + (wrap64 (a1)))) * (wrap64 (1 + (Int.tmod (wrap64 (a4)) 10)))))] rfl (by (try simp only [List.map_toArray, List.map_cons, List.map_nil]); first | done | rfl | (simp only [List.length_drop, List.length_take]; rfl)) ?_; (with_reducible refine (amount_Reduce.calls kj6 (wrap64 ((wrap64 (1 + (wrap64 (a0)))) * (wrap64 (1 + (Int.tmod (wrap64 (a4)) 10))))) (wrap64 ((wrap64 (1 + (wrap64 (a1)))) * (wrap64 (1 + (Int.tmod (wrap64 (a4)) 10))))) t147 t148 _ A16.out).mono ?_); rintro e w' ⟨rfl, ⟨nd, rfl⟩⟩; refine ⟨_, rfl, ?_⟩) | ((with_reducible refine gate_callee (f := 13) rfl ?_); refine goesL_ (some 98) rfl rfl Try.func13 (by kernel_rfl) rfl #[.int .i64 (wrap64 (1 + (wrap64 (a0)))), .int .i64 (wrap64 (1 + (wrap64 (a2))))] rfl (by (try simp only [List.map_toArray, List.map_cons, List.map_nil]); first | done | rfl | (simp only [List.length_drop, List.length_take]; rfl)) ?_; (with_reducible refine (amount_Add.calls kj6 (wrap64 (1 + (wrap64 (a0)))) (wrap64 (1 + (wrap64 (a2)))) t149 t150 _ A17.out).mono ?_); rintro e w27 ⟨rfl, hb⟩; refine ⟨_, rfl, ?_⟩; have n0_ := Aside0.mk (below_step (by repeat (first | (with_reducible first | exact HB.out | apply below_alloc | apply pw_below_drewN | apply below_drew1) | exact HB.out)) hb); clear HB; have HB := n0_; clear n0_; (try clear hb); (try clear hb2); (try clear hk); (try clear hi)) | ((with_reducible refine gate_callee (f := 14) rfl ?_); refine goesL_ (some 104) rfl rfl Try.func14 (by kernel_rfl) rfl #[.int .i64 t149, .int .i64 (wrap64 (1 + (wrap64 (a2))))] rfl (by (try simp only [List.map_toArray, List.map_cons, List.map_nil]); first | done | rfl | (simp only [List.length_drop, List.length_take]; rfl)) ?_; (with_reducible refine (amount_Sub.calls kj6 t149 (wrap64 (1 + (wrap64 (a2)))) t151 t152 _ A18.out).mono ?_); rintro e w28 ⟨rfl, hb⟩; refine ⟨_, rfl, ?_⟩; have n0_ := Aside0.mk (below_step (by repeat (first | (with_reducible first | exact HB.out | apply below_alloc | apply pw_below_drewN | apply below_drew1) | exact HB.out)) hb); clear HB; have HB := n0_; clear n0_; (try clear hb); (try clear hb2); (try clear hk); (try clear hi)) | (go_at_call 12; (with_reducible refine (amount_Compare.calls (wrap64 (1 + (wrap64 (a0)))) (wrap64 (1 + (wrap64 (a1)))) (wrap64 (1 + (wrap64 (a2)))) (wrap64 (1 + (wrap64 (a3)))) t153 _ A24.out).mono ?_); rintro e w' ⟨rfl, ⟨nd, rfl⟩⟩) | (go_at_call 10; (with_reducible refine (trustquorumlaw35_sane.calls kj6  t154 _ A26.out).mono ?_); rintro e w29 ⟨rfl, hb⟩; have n0_ := Aside0.mk (below_step (by repeat (first | (with_reducible first | exact HB.out | apply below_alloc | apply pw_below_drewN | apply below_drew1) | exact HB.out)) hb); clear HB; have HB := n0_; clear n0_; (try clear hb); (try clear hb2); (try clear hk); (try clear hi)))
                    go_ret
                    exact ⟨by first | rfl | (simp [errW_none, errW_some] <;> rfl) | (simp [*, errW_none, errW_some] <;> rfl), by repeat (first | (with_reducible first | exact HB.out | apply below_alloc | apply pw_below_drewN | apply below_drew1) | exact HB.out)⟩
                  · rw [if_neg c25] at H
                    have c25b0 : ((decide (t153 < 0)) == (decide ((wrap64 ((wrap64 (1 + (wrap64 (a0)))) * (wrap64 (1 + (wrap64 (a3)))))) < (wrap64 ((wrap64 (1 + (wrap64 (a2)))) * (wrap64 (1 + (wrap64 (a1))))))))) = false := by simpa using c25
                    (try (have c25b1 : decide ((decide (t153 < 0)) = (decide ((wrap64 ((wrap64 (1 + (wrap64 (a0)))) * (wrap64 (1 + (wrap64 (a3)))))) < (wrap64 ((wrap64 (1 + (wrap64 (a2)))) * (wrap64 (1 + (wrap64 (a1))))))))) = false := by simpa using c25))
                    (try (have c25b2 : ((decide (t153 < 0)) == (decide ((wrap64 ((wrap64 (1 + (wrap64 (a0)))) * (wrap64 (1 + (wrap64 (a3)))))) < (wrap64 ((wrap64 (1 + (wrap64 (a2)))) * (wrap64 (1 + (wrap64 (a1))))))))) = false := by simpa using c25))
                    (try (have c25b3 : ¬ ((decide (t153 < 0)) = (decide ((wrap64 ((wrap64 (1 + (wrap64 (a0)))) * (wrap64 (1 + (wrap64 (a3)))))) < (wrap64 ((wrap64 (1 + (wrap64 (a2)))) * (wrap64 (1 + (wrap64 (a1))))))))) := by simpa using c25))
                    clear c25
                    obtain rfl := Option.some.inj H
                    go_wp2_with (first | ((with_reducible refine gate_callee (f := 11) rfl ?_); refine goesL_ (some 92) rfl rfl Try.func11 (by kernel_rfl) rfl #[.int .i64 (wrap64 ((wrap64 (1 + (wrap64 (a0)))) * (wrap64 (1 + (Int.tmod (wrap64 (a4)) 10))))), .int .i64 (wrap64 ((wrap64 (1 + (wrap64 (a1)))) * (wrap64 (1 + (Int.tmod (wrap64 (a4)) 10)))))] rfl (by (try simp only [List.map_toArray, List.map_cons, List.map_nil]); first | done | rfl | (simp only [List.length_drop, List.length_take]; rfl)) ?_; (with_reducible refine (amount_Reduce.calls kj6 (wrap64 ((wrap64 (1 + (wrap64 (a0)))) * (wrap64 (1 + (Int.tmod (wrap64 (a4)) 10))))) (wrap64 ((wrap64 (1 + (wrap64 (a1)))) * (wrap64 (1 + (Int.tmod (wrap64 (a4)) 10))))) t147 t148 _ A16.out).mono ?_); rintro e w' ⟨rfl, ⟨nd, rfl⟩⟩; refine ⟨_, rfl, ?_⟩) | ((with_reducible refine gate_callee (f := 13) rfl ?_); refine goesL_ (some 98) rfl rfl Try.func13 (by kernel_rfl) rfl #[.int .i64 (wrap64 (1 + (wrap64 (a0)))), .int .i64 (wrap64 (1 + (wrap64 (a2))))] rfl (by (try simp only [List.map_toArray, List.map_cons, List.map_nil]); first | done | rfl | (simp only [List.length_drop, List.length_take]; rfl)) ?_; (with_reducible refine (amount_Add.calls kj6 (wrap64 (1 + (wrap64 (a0)))) (wrap64 (1 + (wrap64 (a2)))) t149 t150 _ A17.out).mono ?_); rintro e w30 ⟨rfl, hb⟩; refine ⟨_, rfl, ?_⟩; have n0_ := Aside0.mk (below_step (by repeat (first | (with_reducible first | exact HB.out | apply below_alloc | apply pw_below_drewN | apply below_drew1) | exact HB.out)) hb); clear HB; have HB := n0_; clear n0_; (try clear hb); (try clear hb2); (try clear hk); (try clear hi)) | ((with_reducible refine gate_callee (f := 14) rfl ?_); refine goesL_ (some 104) rfl rfl Try.func14 (by kernel_rfl) rfl #[.int .i64 t149, .int .i64 (wrap64 (1 + (wrap64 (a2))))] rfl (by (try simp only [List.map_toArray, List.map_cons, List.map_nil]); first | done | rfl | (simp only [List.length_drop, List.length_take]; rfl)) ?_; (with_reducible refine (amount_Sub.calls kj6 t149 (wrap64 (1 + (wrap64 (a2)))) t151 t152 _ A18.out).mono ?_); rintro e w31 ⟨rfl, hb⟩; refine ⟨_, rfl, ?_⟩; have n0_ := Aside0.mk (below_step (by repeat (first | (with_reducible first | exact HB.out | apply below_alloc | apply pw_below_drewN | apply below_drew1) | exact HB.out)) hb); clear HB; have HB := n0_; clear n0_; (try clear hb); (try clear hb2); (try clear hk); (try clear hi)) | (go_at_call 12; (with_reducible refine (amount_Compare.calls (wrap64 (1 + (wrap64 (a0)))) (wrap64 (1 + (wrap64 (a1)))) (wrap64 (1 + (wrap64 (a2)))) (wrap64 (1 + (wrap64 (a3)))) t153 _ A24.out).mono ?_); rintro e w' ⟨rfl, ⟨nd, rfl⟩⟩))
                    go_ret
                    exact ⟨by first | rfl | (simp [errW_none, errW_some] <;> rfl) | (simp [*, errW_none, errW_some] <;> rfl), by repeat (first | (with_reducible first | exact HB.out | apply below_alloc | apply pw_below_drewN | apply below_drew1) | exact HB.out)⟩
                · rw [if_neg c23] at H
                  have c23b0 : (t151 == (wrap64 (1 + (wrap64 (a0))))) = false := beq_eq_false_iff_ne.mpr c23
                  have c23b1 : (t151 != (wrap64 (1 + (wrap64 (a0))))) = true := bne_iff_ne.mpr c23
                  obtain rfl := Option.some.inj H
                  go_wp2_with (first | ((with_reducible refine gate_callee (f := 11) rfl ?_); refine goesL_ (some 92) rfl rfl Try.func11 (by kernel_rfl) rfl #[.int .i64 (wrap64 ((wrap64 (1 + (wrap64 (a0)))) * (wrap64 (1 + (Int.tmod (wrap64 (a4)) 10))))), .int .i64 (wrap64 ((wrap64 (1 + (wrap64 (a1)))) * (wrap64 (1 + (Int.tmod (wrap64 (a4)) 10)))))] rfl (by (try simp only [List.map_toArray, List.map_cons, List.map_nil]); first | done | rfl | (simp only [List.length_drop, List.length_take]; rfl)) ?_; (with_reducible refine (amount_Reduce.calls kj6 (wrap64 ((wrap64 (1 + (wrap64 (a0)))) * (wrap64 (1 + (Int.tmod (wrap64 (a4)) 10))))) (wrap64 ((wrap64 (1 + (wrap64 (a1)))) * (wrap64 (1 + (Int.tmod (wrap64 (a4)) 10))))) t147 t148 _ A16.out).mono ?_); rintro e w' ⟨rfl, ⟨nd, rfl⟩⟩; refine ⟨_, rfl, ?_⟩) | ((with_reducible refine gate_callee (f := 13) rfl ?_); refine goesL_ (some 98) rfl rfl Try.func13 (by kernel_rfl) rfl #[.int .i64 (wrap64 (1 + (wrap64 (a0)))), .int .i64 (wrap64 (1 + (wrap64 (a2))))] rfl (by (try simp only [List.map_toArray, List.map_cons, List.map_nil]); first | done | rfl | (simp only [List.length_drop, List.length_take]; rfl)) ?_; (with_reducible refine (amount_Add.calls kj6 (wrap64 (1 + (wrap64 (a0)))) (wrap64 (1 + (wrap64 (a2)))) t149 t150 _ A17.out).mono ?_); rintro e w32 ⟨rfl, hb⟩; refine ⟨_, rfl, ?_⟩; have n0_ := Aside0.mk (below_step (by repeat (first | (with_reducible first | exact HB.out | apply below_alloc | apply pw_below_drewN | apply below_drew1) | exact HB.out)) hb); clear HB; have HB := n0_; clear n0_; (try clear hb); (try clear hb2); (try clear hk); (try clear hi)) | ((with_reducible refine gate_callee (f := 14) rfl ?_); refine goesL_ (some 104) rfl rfl Try.func14 (by kernel_rfl) rfl #[.int .i64 t149, .int .i64 (wrap64 (1 + (wrap64 (a2))))] rfl (by (try simp only [List.map_toArray, List.map_cons, List.map_nil]); first | done | rfl | (simp only [List.length_drop, List.length_take]; rfl)) ?_; (with_reducible refine (amount_Sub.calls kj6 t149 (wrap64 (1 + (wrap64 (a2)))) t151 t152 _ A18.out).mono ?_); rintro e w33 ⟨rfl, hb⟩; refine ⟨_, rfl, ?_⟩; have n0_ := Aside0.mk (below_step (by repeat (first | (with_reducible first | exact HB.out | apply below_alloc | apply pw_below_drewN | apply below_drew1) | exact HB.out)) hb); clear HB; have HB := n0_; clear n0_; (try clear hb); (try clear hb2); (try clear hk); (try clear hi)))
                  go_ret
                  exact ⟨by first | rfl | (simp [errW_none, errW_some] <;> rfl) | (simp [*, errW_none, errW_some] <;> rfl), by repeat (first | (with_reducible first | exact HB.out | apply below_alloc | apply pw_below_drewN | apply below_drew1) | exact HB.out)⟩
              · rw [if_neg c22] at H
                have c22b0 : (t152 == 0) = false := beq_eq_false_iff_ne.mpr c22
                have c22b1 : (t152 != 0) = true := bne_iff_ne.mpr c22
                obtain rfl := Option.some.inj H
                go_wp2_with (first | ((with_reducible refine gate_callee (f := 11) rfl ?_); refine goesL_ (some 92) rfl rfl Try.func11 (by kernel_rfl) rfl #[.int .i64 (wrap64 ((wrap64 (1 + (wrap64 (a0)))) * (wrap64 (1 + (Int.tmod (wrap64 (a4)) 10))))), .int .i64 (wrap64 ((wrap64 (1 + (wrap64 (a1)))) * (wrap64 (1 + (Int.tmod (wrap64 (a4)) 10)))))] rfl (by (try simp only [List.map_toArray, List.map_cons, List.map_nil]); first | done | rfl | (simp only [List.length_drop, List.length_take]; rfl)) ?_; (with_reducible refine (amount_Reduce.calls kj6 (wrap64 ((wrap64 (1 + (wrap64 (a0)))) * (wrap64 (1 + (Int.tmod (wrap64 (a4)) 10))))) (wrap64 ((wrap64 (1 + (wrap64 (a1)))) * (wrap64 (1 + (Int.tmod (wrap64 (a4)) 10))))) t147 t148 _ A16.out).mono ?_); rintro e w' ⟨rfl, ⟨nd, rfl⟩⟩; refine ⟨_, rfl, ?_⟩) | ((with_reducible refine gate_callee (f := 13) rfl ?_); refine goesL_ (some 98) rfl rfl Try.func13 (by kernel_rfl) rfl #[.int .i64 (wrap64 (1 + (wrap64 (a0)))), .int .i64 (wrap64 (1 + (wrap64 (a2))))] rfl (by (try simp only [List.map_toArray, List.map_cons, List.map_nil]); first | done | rfl | (simp only [List.length_drop, List.length_take]; rfl)) ?_; (with_reducible refine (amount_Add.calls kj6 (wrap64 (1 + (wrap64 (a0)))) (wrap64 (1 + (wrap64 (a2)))) t149 t150 _ A17.out).mono ?_); rintro e w34 ⟨rfl, hb⟩; refine ⟨_, rfl, ?_⟩; have n0_ := Aside0.mk (below_step (by repeat (first | (with_reducible first | exact HB.out | apply below_alloc | apply pw_below_drewN | apply below_drew1) | exact HB.out)) hb); clear HB; have HB := n0_; clear n0_; (try clear hb); (try clear hb2); (try clear hk); (try clear hi)) | ((with_reducible refine gate_callee (f := 14) rfl ?_); refine goesL_ (some 104) rfl rfl Try.func14 (by kernel_rfl) rfl #[.int .i64 t149, .int .i64 (wrap64 (1 + (wrap64 (a2))))] rfl (by (try simp only [List.map_toArray, List.map_cons, List.map_nil]); first | done | rfl | (simp only [List.length_drop, List.length_take]; rfl)) ?_; (with_reducible refine (amount_Sub.calls kj6 t149 (wrap64 (1 + (wrap64 (a2)))) t151 t152 _ A18.out).mono ?_); rintro e w35 ⟨rfl, hb⟩; refine ⟨_, rfl, ?_⟩; have n0_ := Aside0.mk (below_step (by repeat (first | (with_reducible first | exact HB.out | apply below_alloc | apply pw_below_drewN | apply below_drew1) | exact HB.out)) hb); clear HB; have HB := n0_; clear n0_; (try clear hb); (try clear hb2); (try clear hk); (try clear hi)))
                go_ret
                exact ⟨by first | rfl | (simp [errW_none, errW_some] <;> rfl) | (simp [*, errW_none, errW_some] <;> rfl), by repeat (first | (with_reducible first | exact HB.out | apply below_alloc | apply pw_below_drewN | apply below_drew1) | exact HB.out)⟩
            · rw [if_neg c21] at H
              have c21b0 : (t150 == 0) = false := beq_eq_false_iff_ne.mpr c21
              have c21b1 : (t150 != 0) = true := bne_iff_ne.mpr c21
              obtain rfl := Option.some.inj H
              go_wp2_with (first | ((with_reducible refine gate_callee (f := 11) rfl ?_); refine goesL_ (some 92) rfl rfl Try.func11 (by kernel_rfl) rfl #[.int .i64 (wrap64 ((wrap64 (1 + (wrap64 (a0)))) * (wrap64 (1 + (Int.tmod (wrap64 (a4)) 10))))), .int .i64 (wrap64 ((wrap64 (1 + (wrap64 (a1)))) * (wrap64 (1 + (Int.tmod (wrap64 (a4)) 10)))))] rfl (by (try simp only [List.map_toArray, List.map_cons, List.map_nil]); first | done | rfl | (simp only [List.length_drop, List.length_take]; rfl)) ?_; (with_reducible refine (amount_Reduce.calls kj6 (wrap64 ((wrap64 (1 + (wrap64 (a0)))) * (wrap64 (1 + (Int.tmod (wrap64 (a4)) 10))))) (wrap64 ((wrap64 (1 + (wrap64 (a1)))) * (wrap64 (1 + (Int.tmod (wrap64 (a4)) 10))))) t147 t148 _ A16.out).mono ?_); rintro e w' ⟨rfl, ⟨nd, rfl⟩⟩; refine ⟨_, rfl, ?_⟩) | ((with_reducible refine gate_callee (f := 13) rfl ?_); refine goesL_ (some 98) rfl rfl Try.func13 (by kernel_rfl) rfl #[.int .i64 (wrap64 (1 + (wrap64 (a0)))), .int .i64 (wrap64 (1 + (wrap64 (a2))))] rfl (by (try simp only [List.map_toArray, List.map_cons, List.map_nil]); first | done | rfl | (simp only [List.length_drop, List.length_take]; rfl)) ?_; (with_reducible refine (amount_Add.calls kj6 (wrap64 (1 + (wrap64 (a0)))) (wrap64 (1 + (wrap64 (a2)))) t149 t150 _ A17.out).mono ?_); rintro e w36 ⟨rfl, hb⟩; refine ⟨_, rfl, ?_⟩; have n0_ := Aside0.mk (below_step (by repeat (first | (with_reducible first | exact HB.out | apply below_alloc | apply pw_below_drewN | apply below_drew1) | exact HB.out)) hb); clear HB; have HB := n0_; clear n0_; (try clear hb); (try clear hb2); (try clear hk); (try clear hi)) | ((with_reducible refine gate_callee (f := 14) rfl ?_); refine goesL_ (some 104) rfl rfl Try.func14 (by kernel_rfl) rfl #[.int .i64 t149, .int .i64 (wrap64 (1 + (wrap64 (a2))))] rfl (by (try simp only [List.map_toArray, List.map_cons, List.map_nil]); first | done | rfl | (simp only [List.length_drop, List.length_take]; rfl)) ?_; (with_reducible refine (amount_Sub.calls kj6 t149 (wrap64 (1 + (wrap64 (a2)))) t151 t152 _ A18.out).mono ?_); rintro e w37 ⟨rfl, hb⟩; refine ⟨_, rfl, ?_⟩; have n0_ := Aside0.mk (below_step (by repeat (first | (with_reducible first | exact HB.out | apply below_alloc | apply pw_below_drewN | apply below_drew1) | exact HB.out)) hb); clear HB; have HB := n0_; clear n0_; (try clear hb); (try clear hb2); (try clear hk); (try clear hi)))
              go_ret
              exact ⟨by first | rfl | (simp [errW_none, errW_some] <;> rfl) | (simp [*, errW_none, errW_some] <;> rfl), by repeat (first | (with_reducible first | exact HB.out | apply below_alloc | apply pw_below_drewN | apply below_drew1) | exact HB.out)⟩
          · rw [if_neg c20] at H
            have c20b0 : (t148 == t143) = false := beq_eq_false_iff_ne.mpr c20
            have c20b1 : (t148 != t143) = true := bne_iff_ne.mpr c20
            obtain rfl := Option.some.inj H
            go_wp2_with (first | ((with_reducible refine gate_callee (f := 11) rfl ?_); refine goesL_ (some 92) rfl rfl Try.func11 (by kernel_rfl) rfl #[.int .i64 (wrap64 ((wrap64 (1 + (wrap64 (a0)))) * (wrap64 (1 + (Int.tmod (wrap64 (a4)) 10))))), .int .i64 (wrap64 ((wrap64 (1 + (wrap64 (a1)))) * (wrap64 (1 + (Int.tmod (wrap64 (a4)) 10)))))] rfl (by (try simp only [List.map_toArray, List.map_cons, List.map_nil]); first | done | rfl | (simp only [List.length_drop, List.length_take]; rfl)) ?_; (with_reducible refine (amount_Reduce.calls kj6 (wrap64 ((wrap64 (1 + (wrap64 (a0)))) * (wrap64 (1 + (Int.tmod (wrap64 (a4)) 10))))) (wrap64 ((wrap64 (1 + (wrap64 (a1)))) * (wrap64 (1 + (Int.tmod (wrap64 (a4)) 10))))) t147 t148 _ A16.out).mono ?_); rintro e w' ⟨rfl, ⟨nd, rfl⟩⟩; refine ⟨_, rfl, ?_⟩) | ((with_reducible refine gate_callee (f := 13) rfl ?_); refine goesL_ (some 98) rfl rfl Try.func13 (by kernel_rfl) rfl #[.int .i64 (wrap64 (1 + (wrap64 (a0)))), .int .i64 (wrap64 (1 + (wrap64 (a2))))] rfl (by (try simp only [List.map_toArray, List.map_cons, List.map_nil]); first | done | rfl | (simp only [List.length_drop, List.length_take]; rfl)) ?_; (with_reducible refine (amount_Add.calls kj6 (wrap64 (1 + (wrap64 (a0)))) (wrap64 (1 + (wrap64 (a2)))) t149 t150 _ A17.out).mono ?_); rintro e w38 ⟨rfl, hb⟩; refine ⟨_, rfl, ?_⟩; have n0_ := Aside0.mk (below_step (by repeat (first | (with_reducible first | exact HB.out | apply below_alloc | apply pw_below_drewN | apply below_drew1) | exact HB.out)) hb); clear HB; have HB := n0_; clear n0_; (try clear hb); (try clear hb2); (try clear hk); (try clear hi)) | ((with_reducible refine gate_callee (f := 14) rfl ?_); refine goesL_ (some 104) rfl rfl Try.func14 (by kernel_rfl) rfl #[.int .i64 t149, .int .i64 (wrap64 (1 + (wrap64 (a2))))] rfl (by (try simp only [List.map_toArray, List.map_cons, List.map_nil]); first | done | rfl | (simp only [List.length_drop, List.length_take]; rfl)) ?_; (with_reducible refine (amount_Sub.calls kj6 t149 (wrap64 (1 + (wrap64 (a2)))) t151 t152 _ A18.out).mono ?_); rintro e w39 ⟨rfl, hb⟩; refine ⟨_, rfl, ?_⟩; have n0_ := Aside0.mk (below_step (by repeat (first | (with_reducible first | exact HB.out | apply below_alloc | apply pw_below_drewN | apply below_drew1) | exact HB.out)) hb); clear HB; have HB := n0_; clear n0_; (try clear hb); (try clear hb2); (try clear hk); (try clear hi)))
            go_ret
            exact ⟨by first | rfl | (simp [errW_none, errW_some] <;> rfl) | (simp [*, errW_none, errW_some] <;> rfl), by repeat (first | (with_reducible first | exact HB.out | apply below_alloc | apply pw_below_drewN | apply below_drew1) | exact HB.out)⟩
        · rw [if_neg c19] at H
          have c19b0 : (t147 == t142) = false := beq_eq_false_iff_ne.mpr c19
          have c19b1 : (t147 != t142) = true := bne_iff_ne.mpr c19
          obtain rfl := Option.some.inj H
          go_wp2_with (first | ((with_reducible refine gate_callee (f := 11) rfl ?_); refine goesL_ (some 92) rfl rfl Try.func11 (by kernel_rfl) rfl #[.int .i64 (wrap64 ((wrap64 (1 + (wrap64 (a0)))) * (wrap64 (1 + (Int.tmod (wrap64 (a4)) 10))))), .int .i64 (wrap64 ((wrap64 (1 + (wrap64 (a1)))) * (wrap64 (1 + (Int.tmod (wrap64 (a4)) 10)))))] rfl (by (try simp only [List.map_toArray, List.map_cons, List.map_nil]); first | done | rfl | (simp only [List.length_drop, List.length_take]; rfl)) ?_; (with_reducible refine (amount_Reduce.calls kj6 (wrap64 ((wrap64 (1 + (wrap64 (a0)))) * (wrap64 (1 + (Int.tmod (wrap64 (a4)) 10))))) (wrap64 ((wrap64 (1 + (wrap64 (a1)))) * (wrap64 (1 + (Int.tmod (wrap64 (a4)) 10))))) t147 t148 _ A16.out).mono ?_); rintro e w' ⟨rfl, ⟨nd, rfl⟩⟩; refine ⟨_, rfl, ?_⟩) | ((with_reducible refine gate_callee (f := 13) rfl ?_); refine goesL_ (some 98) rfl rfl Try.func13 (by kernel_rfl) rfl #[.int .i64 (wrap64 (1 + (wrap64 (a0)))), .int .i64 (wrap64 (1 + (wrap64 (a2))))] rfl (by (try simp only [List.map_toArray, List.map_cons, List.map_nil]); first | done | rfl | (simp only [List.length_drop, List.length_take]; rfl)) ?_; (with_reducible refine (amount_Add.calls kj6 (wrap64 (1 + (wrap64 (a0)))) (wrap64 (1 + (wrap64 (a2)))) t149 t150 _ A17.out).mono ?_); rintro e w40 ⟨rfl, hb⟩; refine ⟨_, rfl, ?_⟩; have n0_ := Aside0.mk (below_step (by repeat (first | (with_reducible first | exact HB.out | apply below_alloc | apply pw_below_drewN | apply below_drew1) | exact HB.out)) hb); clear HB; have HB := n0_; clear n0_; (try clear hb); (try clear hb2); (try clear hk); (try clear hi)) | ((with_reducible refine gate_callee (f := 14) rfl ?_); refine goesL_ (some 104) rfl rfl Try.func14 (by kernel_rfl) rfl #[.int .i64 t149, .int .i64 (wrap64 (1 + (wrap64 (a2))))] rfl (by (try simp only [List.map_toArray, List.map_cons, List.map_nil]); first | done | rfl | (simp only [List.length_drop, List.length_take]; rfl)) ?_; (with_reducible refine (amount_Sub.calls kj6 t149 (wrap64 (1 + (wrap64 (a2)))) t151 t152 _ A18.out).mono ?_); rintro e w41 ⟨rfl, hb⟩; refine ⟨_, rfl, ?_⟩; have n0_ := Aside0.mk (below_step (by repeat (first | (with_reducible first | exact HB.out | apply below_alloc | apply pw_below_drewN | apply below_drew1) | exact HB.out)) hb); clear HB; have HB := n0_; clear n0_; (try clear hb); (try clear hb2); (try clear hk); (try clear hi)))
          go_ret
          exact ⟨by first | rfl | (simp [errW_none, errW_some] <;> rfl) | (simp [*, errW_none, errW_some] <;> rfl), by repeat (first | (with_reducible first | exact HB.out | apply below_alloc | apply pw_below_drewN | apply below_drew1) | exact HB.out)⟩

/-- THE ONE PURE STATEMENT of trustquorumlaw35_AmountPrices: yours. -/
def trustquorumlaw35_AmountPrices.Pure : Prop := ∀ (a0 : Int) (a1 : Int) (a2 : Int) (a3 : Int) (a4 : Int), (Lit.int .u16 a0).wf = true → (Lit.int .u16 a1).wf = true → (Lit.int .u16 a2).wf = true → (Lit.int .u16 a3).wf = true → (Lit.int .u8 a4).wf = true → ∃ k, trustquorumlaw35_AmountPrices.f k a0 a1 a2 a3 a4 = some true
theorem trustquorumlaw35_AmountPrices.walk (P : trustquorumlaw35_AmountPrices.Pure) (a0 : Int) (a1 : Int) (a2 : Int) (a3 : Int) (a4 : Int) (w : World) (w0 : (Lit.int .u16 a0).wf = true) (w1 : (Lit.int .u16 a1).wf = true) (w2 : (Lit.int .u16 a2).wf = true) (w3 : (Lit.int .u16 a3).wf = true) (w4 : (Lit.int .u8 a4).wf = true) :
    Calls Try.prog 5 #[.int .u16 a0, .int .u16 a1, .int .u16 a2, .int .u16 a3, .int .u8 a4] w fun e w' => e = .returned (.bool true) ∧ Below w.heap.size w w' := by
  obtain ⟨k, h⟩ := P a0 a1 a2 a3 a4 w0 w1 w2 w3 w4
  refine (trustquorumlaw35_AmountPrices.calls k a0 a1 a2 a3 a4 true w h).mono ?_
  rintro e w' ⟨rfl, hd⟩
  exact ⟨rfl, hd⟩

end Go.Proofs.Ytkiebhjbnnnikaa.QAmountPrices
