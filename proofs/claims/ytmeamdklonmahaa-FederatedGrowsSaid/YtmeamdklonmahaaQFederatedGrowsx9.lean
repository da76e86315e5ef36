/- Lean functions that answer as the Go functions do which the law reaches, and proofs that the Go code comes to exactly these answers. Conditions: those that each theorem names. -/
import Derived.Test.YtmeamdklonmahaaQFederatedGrowsx0
import Derived.Test.YtmeamdklonmahaaQFederatedGrowsx1
import Derived.Test.YtmeamdklonmahaaQFederatedGrowsx6
import Derived.Test.YtmeamdklonmahaaQFederatedGrowsx8
namespace Go.Proofs.Ytmeamdklonmahaa.QFederatedGrows
open Go.RowKit Go.Proofs.YtmeamdklonmahaaW.PrintWords Go.Proofs.YtmeamdklonmahaaW.PrintLast Go.Proofs.YtmeamdklonmahaaW.PrintMore
attribute [local go_sem] max2_int min2_int max_two min_two max_three min_three max_four min_four   -- for this text's walks alone
set_option linter.unusedVariables false
set_option linter.unusedSimpArgs false

/-! ### trustquorumlaw18_FederatedGrows: function 3 -/
mutual
def trustquorumlaw18_FederatedGrows.l0 : Nat → Int → List Int → Int → List (S54) → Option (Bool)
  | 0, _, _, _, _ => none
  | k + 1, x5, x371000, x371001, x376000 => if x5 < 12 then ((trustquorummake_Tape_N.f x371000 x371001 8).bind fun bt377 => ((trustquorummake_Tape_N.f x371000 bt377.2 256).bind fun bt379 => ((trustquorummake_Tape_N.f x371000 bt379.2 256).bind fun bt381 => ((trustquorummake_Tape_N.f x371000 bt381.2 256).bind fun bt383 => ((trustquorummake_Tape_N.f x371000 bt383.2 256).bind fun bt385 => ((federated_Accepts.f k x376000 bt377.1 bt379.1 bt381.1).bind fun t387 => (if t387 = true then ((federated_Accepts.f k x376000 bt377.1 (Go.bits .or .i64 bt379.1 bt383.1) (Go.bits .or .i64 bt381.1 bt385.1)).bind fun t388 => (if t388 = true then ((federated_Confirms.f k x376000 bt377.1 bt381.1).bind fun t389 => (if t389 = true then ((federated_Confirms.f k x376000 bt377.1 (Go.bits .or .i64 bt381.1 bt385.1)).bind fun t390 => (trustquorumlaw18_FederatedGrows.j1 k x5 bt377.1 bt381.1 (!t390) x371000 bt385.2 x376000)) else (trustquorumlaw18_FederatedGrows.j1 k x5 bt377.1 bt381.1 false x371000 bt385.2 x376000))) else (trustquorumlaw18_FederatedGrows.j1 k x5 bt377.1 bt381.1 true x371000 bt385.2 x376000))) else ((federated_Confirms.f k x376000 bt377.1 bt381.1).bind fun t391 => (if t391 = true then ((federated_Confirms.f k x376000 bt377.1 (Go.bits .or .i64 bt381.1 bt385.1)).bind fun t392 => (trustquorumlaw18_FederatedGrows.j1 k x5 bt377.1 bt381.1 (!t392) x371000 bt385.2 x376000)) else (trustquorumlaw18_FederatedGrows.j1 k x5 bt377.1 bt381.1 false x371000 bt385.2 x376000)))))))))) else ((trustquorumlaw18_awake.f k).bind fun t376 => (some t376))
def trustquorumlaw18_FederatedGrows.j1 : Nat → Int → Int → Int → Bool → List Int → Int → List (S54) → Option (Bool)
  | 0, _, _, _, _, _, _, _ => none
  | k + 1, x5, x6, x8, x58, x371000, x371001, x376000 => if x58 = true then (some false) else ((federated_Confirms.f k x376000 x6 x8).bind fun t393 => (if t393 = true then ((federated_Accepts.f k x376000 x6 0 x8).bind fun t394 => (if t394 = true then ((federated_Accepts.f k x376000 x6 x8 0).bind fun t395 => (if t395 = true then (trustquorumlaw18_FederatedGrows.l0 k (wrap64 (x5 + 1)) x371000 x371001 x376000) else (some false))) else (some false))) else (trustquorumlaw18_FederatedGrows.l0 k (wrap64 (x5 + 1)) x371000 x371001 x376000)))
end
def trustquorumlaw18_FederatedGrows.f (k : Nat) (l0 : List Int) : Option (Bool) := (trustquorummake_New.f l0).bind fun bt368 => ((trustquorummake_Config.f k bt368.1 bt368.2 8).bind fun bt371 => (trustquorumlaw18_FederatedGrows.l0 k 0 bt368.1 bt371.2 bt371.1))
theorem trustquorumlaw18_FederatedGrows.mono_l : ∀ k, (∀ y0 y1 y2 y3, LeO (trustquorumlaw18_FederatedGrows.l0 k y0 y1 y2 y3) (trustquorumlaw18_FederatedGrows.l0 (k + 1) y0 y1 y2 y3)) ∧ (∀ y0 y1 y2 y3 y4 y5 y6, LeO (trustquorumlaw18_FederatedGrows.j1 k y0 y1 y2 y3 y4 y5 y6) (trustquorumlaw18_FederatedGrows.j1 (k + 1) y0 y1 y2 y3 y4 y5 y6))
  | 0 => ⟨fun _ _ _ _ r h => by simp [trustquorumlaw18_FederatedGrows.l0] at h, fun _ _ _ _ _ _ _ r h => by simp [trustquorumlaw18_FederatedGrows.j1] at h⟩
  | k + 1 => by
    obtain ⟨ih0, ih1⟩ := trustquorumlaw18_FederatedGrows.mono_l k
    refine ⟨?_, ?_⟩
    · intro y0 y1 y2 y3
      unfold trustquorumlaw18_FederatedGrows.l0
      repeat' first
      | (with_reducible exact ih0 _ _ _ _)
      | (with_reducible exact ih1 _ _ _ _ _ _ _)
      | (with_reducible exact federated_Accepts.mono _ _ _ _ _)
      | (with_reducible exact federated_Confirms.mono _ _ _ _)
      | (with_reducible exact trustquorumlaw18_awake.mono _)
      | (with_reducible exact trustquorummake_Config.mono _ _ _ _)
      | (with_reducible exact LeO.refl _)
      | (with_reducible exact LeO.none _)
      | (with_reducible refine LeO.ite ?_ ?_)
      | (with_reducible refine LeO.bind ?_ (fun _ => ?_))
      | exact ih0 _ _ _ _
      | exact ih1 _ _ _ _ _ _ _
      | exact federated_Accepts.mono _ _ _ _ _
      | exact federated_Confirms.mono _ _ _ _
      | exact trustquorumlaw18_awake.mono _
      | exact trustquorummake_Config.mono _ _ _ _
      | exact LeO.none _
      | refine LeO.ite ?_ ?_
      | refine LeO.bind ?_ (fun _ => ?_)
    · intro y0 y1 y2 y3 y4 y5 y6
      unfold trustquorumlaw18_FederatedGrows.j1
      repeat' first
      | (with_reducible exact ih0 _ _ _ _)
      | (with_reducible exact ih1 _ _ _ _ _ _ _)
      | (with_reducible exact federated_Accepts.mono _ _ _ _ _)
      | (with_reducible exact federated_Confirms.mono _ _ _ _)
      | (with_reducible exact trustquorumlaw18_awake.mono _)
      | (with_reducible exact trustquorummake_Config.mono _ _ _ _)
      | (with_reducible exact LeO.refl _)
      | (with_reducible exact LeO.none _)
      | (with_reducible refine LeO.ite ?_ ?_)
      | (with_reducible refine LeO.bind ?_ (fun _ => ?_))
      | exact ih0 _ _ _ _
      | exact ih1 _ _ _ _ _ _ _
      | exact federated_Accepts.mono _ _ _ _ _
      | exact federated_Confirms.mono _ _ _ _
      | exact trustquorumlaw18_awake.mono _
      | exact trustquorummake_Config.mono _ _ _ _
      | exact LeO.none _
      | refine LeO.ite ?_ ?_
      | refine LeO.bind ?_ (fun _ => ?_)
theorem trustquorumlaw18_FederatedGrows.mono : ∀ a0 k, LeO (trustquorumlaw18_FederatedGrows.f k a0) (trustquorumlaw18_FederatedGrows.f (k + 1) a0) := by
  intro a0 k
  obtain ⟨ih0, ih1⟩ := trustquorumlaw18_FederatedGrows.mono_l k
  unfold trustquorumlaw18_FederatedGrows.f
  repeat' first
      | (with_reducible exact ih0 _ _ _ _)
      | (with_reducible exact ih1 _ _ _ _ _ _ _)
      | (with_reducible exact federated_Accepts.mono _ _ _ _ _)
      | (with_reducible exact federated_Confirms.mono _ _ _ _)
      | (with_reducible exact trustquorumlaw18_awake.mono _)
      | (with_reducible exact trustquorummake_Config.mono _ _ _ _)
      | (with_reducible exact LeO.refl _)
      | (with_reducible exact LeO.none _)
      | (with_reducible refine LeO.ite ?_ ?_)
      | (with_reducible refine LeO.bind ?_ (fun _ => ?_))
      | exact ih0 _ _ _ _
      | exact ih1 _ _ _ _ _ _ _
      | exact federated_Accepts.mono _ _ _ _ _
      | exact federated_Confirms.mono _ _ _ _
      | exact trustquorumlaw18_awake.mono _
      | exact trustquorummake_Config.mono _ _ _ _
      | exact LeO.none _
      | refine LeO.ite ?_ ?_
      | refine LeO.bind ?_ (fun _ => ?_)
set_option maxHeartbeats 8000000 in
set_option maxRecDepth 100000 in
theorem trustquorumlaw18_FederatedGrows.calls (k : Nat) (A0 : Option Addr) (c0 : Nat) (l0 : List Int) (r : Bool) (w : World) (hr0 : Kd.C (Kd.int .i64) w A0 l0.length l0) (hc0 : l0.length ≤ c0) (HRT : Aside0 (r = true)) (h : trustquorumlaw18_FederatedGrows.f k l0 = some r) :
    Calls Try.prog 3 #[.slice A0 l0.length c0] w fun e w' => e = .returned (.bool r) ∧ Below w.heap.size w w' := by
  have hu27 := Try.underlying27
  have HR0 := Aside0.mk hr0
  have HC0 := Aside0.mk hc0
  clear hr0 hc0
  have HB := Aside0.mk (Below.refl w.heap.size w)
  have H : ((trustquorummake_New.f l0).bind fun bt368 => ((trustquorummake_Config.f k bt368.1 bt368.2 8).bind fun bt371 => (trustquorumlaw18_FederatedGrows.l0 k 0 bt368.1 bt371.2 bt371.1))) = some r := h
  clear h
  replace H := Option.bind_eq_some_iff.mp H
  obtain ⟨⟨t368, t369⟩, A20, H⟩ := H
  replace H : ((trustquorummake_Config.f k t368 t369 8).bind fun bt371 => (trustquorumlaw18_FederatedGrows.l0 k 0 t368 bt371.2 bt371.1)) = some r := H
  have A2 := Aside0.mk A20
  clear A20
  replace H := Option.bind_eq_some_iff.mp H
  obtain ⟨⟨t371, t374⟩, A30, H⟩ := H
  replace H : (trustquorumlaw18_FederatedGrows.l0 k 0 t368 t374 t371) = some r := H
  have A3 := Aside0.mk A30
  clear A30
  have H' := Aside0.mk H
  clear H
  go_enter Try.func3, Try.ntmps3
  go_wp2_with (first | ((with_reducible refine gate_callee (f := 8) rfl ?_); refine goesL_ (some 12) rfl rfl Try.func8 (by kernel_rfl) rfl #[.slice A0 l0.length c0] rfl (by (try simp only [List.map_toArray, List.map_cons, List.map_nil]); first | done | rfl | (simp only [List.length_drop, List.length_take]; rfl)) ?_; (with_reducible refine (trustquorummake_New.calls _ _ l0 t368 t369 w _ ?side1 ?side2 ?side3 A2.out).mono ?_); (case side1 => repeat (first | (with_reducible first | exact HB.out | apply below_alloc | apply pw_below_drewN | apply below_drew1) | exact HB.out)); (case side2 => exact HR0.out); (case side3 => exact HC0.out); rintro e w4 ⟨g370, rfl, hi, hb, hb2⟩; refine ⟨_, rfl, ?_⟩; have n0_ := Aside0.mk (hb); have n1_ := Aside0.mk (hi); clear HB; have HB := n0_; have HI370 := n1_; clear n0_ n1_; (try clear hb); (try clear hb2); (try clear hk); (try clear hi)) | ((with_reducible refine gate_callee (f := 9) rfl ?_); refine goesL_ (some 14) rfl rfl Try.func9 (by kernel_rfl) rfl #[.pointer (some ⟨g370, 0, none⟩), .int .i64 8] rfl (by (try simp only [List.map_toArray, List.map_cons, List.map_nil]); first | done | rfl | (simp only [List.length_drop, List.length_take]; rfl)) ?_; (with_reducible refine (trustquorummake_Config.calls k g370 t368 t369 8 t371 t374 w _ ?side1 ?side2 A3.out).mono ?_); (case side1 => repeat (first | (with_reducible first | exact HI370.out | apply IsS78.alloc | apply IsS78.drewN | apply IsS78.drew | apply IsS78.set_1) | exact HI370.out)); (case side2 => repeat (first | (with_reducible first | exact HB.out | apply below_alloc | apply pw_below_drewN | apply below_drew1 | refine below_set ?_ (IsS78.ge HI370.out)) | exact HB.out)); rintro e w5 ⟨v372, rfl, ho0, hi, hb, hk⟩; refine ⟨_, rfl, ?_⟩; have n0_ := Aside0.mk (Kd.N_lower (Kd.N_mono (ok' := fun k_ => k_ ≠ g370) ho0 (fun k_ hk_ => (IsS78.fresh (by repeat (first | (with_reducible first | exact HI370.out | apply IsS78.alloc | apply IsS78.drewN | apply IsS78.drew | apply IsS78.set_1) | exact HI370.out)) k_ hk_))) (below_size (by repeat (first | (with_reducible first | exact HB.out | apply below_alloc | apply pw_below_drewN | apply below_drew1 | refine below_set ?_ (IsS78.ge HI370.out)) | exact HB.out)))); have n1_ := Aside0.mk (hb); have n2_ := Aside0.mk (hi); clear HB; clear HI370; have HO373 := n0_; have HB := n1_; have HI370 := n2_; clear n0_ n1_ n2_; (try clear hb); (try clear hb2); (try clear hk); (try clear hi); (try clear ho0)) | ((with_reducible refine gate_dst (N := 4) rfl ?_); refine box_event ?hg (N := 4) ?hd (cs := #[.slice none 0 0]) (t := 27) ?hr ?_; (case hd => rfl); (case hg => rfl); (case hr => first | (go_simp; done) | (go_simp; rfl)); intro gb375 hg w6 hbox hb; have n0_ := Aside0.mk (Kd.N_below (Kd.N_elderB (by (with_reducible repeat (first | apply Kd.N_alloc | apply Kd.N_drewN | apply Kd.N_drew)); exact HO373.out) gb375 (Nat.le_of_eq hg.symm)) hb); have n1_ := Aside0.mk (IsS78.below (by repeat (first | (with_reducible first | exact HI370.out | apply IsS78.alloc | apply IsS78.drewN | apply IsS78.drew | apply IsS78.set_1) | exact HI370.out)) hb); have n2_ := Aside0.mk (below_step (by repeat (first | (with_reducible first | exact HB.out | apply below_alloc | apply pw_below_drewN | apply below_drew1 | refine below_set ?_ (IsS78.ge HI370.out)) | exact HB.out)) hb); have n3_ := Aside0.mk (hbox); have n4_ := Aside0.mk ((by rw [hg]; exact (below_size (by repeat (first | (with_reducible first | exact HB.out | apply below_alloc | apply pw_below_drewN | apply below_drew1 | refine below_set ?_ (IsS78.ge HI370.out)) | exact HB.out))) : w.heap.size ≤ gb375)); have n5_ := Aside0.mk ((by rw [hg]; exact (below_size (by repeat (first | (with_reducible first | exact HB.out | apply below_alloc | apply pw_below_drewN | apply below_drew1 | refine below_set ?_ (IsS78.ge HI370.out)) | exact HB.out))) : w.heap.size ≤ gb375)); have n6_ := Aside0.mk ((by rw [hg]; exact Nat.ne_of_lt (IsS78.lt (show IsS78 w _ g370 t368 t374 from by repeat (first | (with_reducible first | exact HI370.out | apply IsS78.alloc | apply IsS78.drewN | apply IsS78.drew | apply IsS78.set_1) | exact HI370.out))) : g370 ≠ gb375)); have n7_ := Aside0.mk ((by rw [hg]; exact Nat.ne_of_gt (IsS78.lt (show IsS78 w _ g370 t368 t374 from by repeat (first | (with_reducible first | exact HI370.out | apply IsS78.alloc | apply IsS78.drewN | apply IsS78.drew | apply IsS78.set_1) | exact HI370.out))) : gb375 ≠ g370)); clear HO373; clear HI370; clear HB; have HO373 := n0_; have HI370 := n1_; have HB := n2_; have BK375 := n3_; have GW375 := n4_; have GE375 := n5_; have NB370_375 := n6_; have NB375_370 := n7_; clear n0_ n1_ n2_ n3_ n4_ n5_ n6_ n7_; clear hb hbox hg; obtain ⟨Ao7, co7, eo7⟩ := Kd.N_slice HO373.out; subst eo7; have hnb8 := NB375_370.out; have hnc8 := NB370_375.out; have hcz9_0 : w6.cell? ⟨gb375, 0, none⟩ = some (.slice none 0 0) := (blk_cell BK375.out 0).trans rfl; have hfz9_0 := blk_frozen BK375.out 0))
  go_loopg [5] k (fun kq v5 w' => ∃ (x5_1 : Int) (x371001_1 : Int), v5 = .int .i64 x5_1 ∧ Aside0 (trustquorumlaw18_FederatedGrows.l0 kq x5_1 t368 x371001_1 t371 = some r) ∧ Aside0 (kq ≤ k) ∧ Aside0 (Kd.N k54 54 w' w.heap.size (fun k_ => k_ ≠ gb375 ∧ k_ ≠ g370) (.slice Ao7 t371.length co7) t371) ∧ Aside0 (w'.heap[gb375]? = some (.cells #[(.slice Ao7 t371.length co7)] 27 (0, 0))) ∧ Aside0 (IsS78 w w' g370 t368 x371001_1) ∧ Aside0 (Below w.heap.size w w'))
  case atStart => exact ⟨(0), (t374), (by first | rfl | (simp; done) | (simp [*]; done) | (refine congrArg (Value.int .i64) ?_; unfold wrap64; omega)), H', ⟨Nat.le_refl _⟩, ⟨by (with_reducible repeat (first | apply Kd.N_alloc | apply Kd.N_drewN | apply Kd.N_drew)); exact Kd.N_mono (Kd.N_far (p := ⟨gb375, 0, none⟩) (Kd.N_mono HO373.out (fun k_ hk => (⟨hk, hk.2⟩ : _ ∧ k_ ≠ gb375))) (fun _ hk => hk.2) (.slice Ao7 t371.length co7)) (fun _ hk => ⟨hk.1.2, hk.1.1⟩)⟩, ⟨by (with_reducible repeat (first | refine blk_drewN ?_ _ | refine blk_drew ?_ | refine blk_alloc ?_ _)); refine blk_put (cs := #[.slice none 0 0]) ?_ 0 _ rfl; (with_reducible repeat (first | refine blk_drewN ?_ _ | refine blk_drew ?_ | refine blk_alloc ?_ _)); exact BK375.out⟩, ⟨by repeat (first | (with_reducible first | exact HI370.out | apply IsS78.alloc | apply IsS78.drewN | apply IsS78.drew | apply IsS78.set_1 | refine IsS78.far ?_ NB370_375.out _) | exact HI370.out)⟩, ⟨by repeat (first | (with_reducible first | exact HB.out | apply below_alloc | apply pw_below_drewN | apply below_drew1 | refine below_set ?_ (IsS78.ge HI370.out) | refine below_set ?_ GE375.out) | exact HB.out)⟩⟩
  case round =>
    clear H'
    try clear p2
    try clear c3
    try clear p6
    try clear c8
    try clear c9
    try clear hcz9_0
    try clear hfz9_0
    obtain ⟨x5_1, x371001_1, rfl, HA, HK1, HO_376000, BK375, HI370, HB⟩ := hrel
    cases gk with
    | zero => exact absurd HA.out (by simp [trustquorumlaw18_FederatedGrows.l0])
    | succ k1 =>
      have H := HA.out
      clear HA
      simp only [trustquorumlaw18_FederatedGrows.l0] at H
      by_cases c10 : x5_1 < 12
      · rw [if_pos c10] at H
        have c10b0 : decide (x5_1 < 12) = true := decide_eq_true c10
        clear c10
        replace H := Option.bind_eq_some_iff.mp H
        obtain ⟨⟨t377, t378⟩, A110, H⟩ := H
        replace H : ((trustquorummake_Tape_N.f t368 t378 256).bind fun bt379 => ((trustquorummake_Tape_N.f t368 bt379.2 256).bind fun bt381 => ((trustquorummake_Tape_N.f t368 bt381.2 256).bind fun bt383 => ((trustquorummake_Tape_N.f t368 bt383.2 256).bind fun bt385 => ((federated_Accepts.f k1 t371 t377 bt379.1 bt381.1).bind fun t387 => (if t387 = true then ((federated_Accepts.f k1 t371 t377 (Go.bits .or .i64 bt379.1 bt383.1) (Go.bits .or .i64 bt381.1 bt385.1)).bind fun t388 => (if t388 = true then ((federated_Confirms.f k1 t371 t377 bt381.1).bind fun t389 => (if t389 = true then ((federated_Confirms.f k1 t371 t377 (Go.bits .or .i64 bt381.1 bt385.1)).bind fun t390 => (trustquorumlaw18_FederatedGrows.j1 k1 x5_1 t377 bt381.1 (!t390) t368 bt385.2 t371)) else (trustquorumlaw18_FederatedGrows.j1 k1 x5_1 t377 bt381.1 false t368 bt385.2 t371))) else (trustquorumlaw18_FederatedGrows.j1 k1 x5_1 t377 bt381.1 true t368 bt385.2 t371))) else ((federated_Confirms.f k1 t371 t377 bt381.1).bind fun t391 => (if t391 = true then ((federated_Confirms.f k1 t371 t377 (Go.bits .or .i64 bt381.1 bt385.1)).bind fun t392 => (trustquorumlaw18_FederatedGrows.j1 k1 x5_1 t377 bt381.1 (!t392) t368 bt385.2 t371)) else (trustquorumlaw18_FederatedGrows.j1 k1 x5_1 t377 bt381.1 false t368 bt385.2 t371))))))))) = some r := H
        have A11 := Aside0.mk A110
        clear A110
        replace H := Option.bind_eq_some_iff.mp H
        obtain ⟨⟨t379, t380⟩, A120, H⟩ := H
        replace H : ((trustquorummake_Tape_N.f t368 t380 256).bind fun bt381 => ((trustquorummake_Tape_N.f t368 bt381.2 256).bind fun bt383 => ((trustquorummake_Tape_N.f t368 bt383.2 256).bind fun bt385 => ((federated_Accepts.f k1 t371 t377 t379 bt381.1).bind fun t387 => (if t387 = true then ((federated_Accepts.f k1 t371 t377 (Go.bits .or .i64 t379 bt383.1) (Go.bits .or .i64 bt381.1 bt385.1)).bind fun t388 => (if t388 = true then ((federated_Confirms.f k1 t371 t377 bt381.1).bind fun t389 => (if t389 = true then ((federated_Confirms.f k1 t371 t377 (Go.bits .or .i64 bt381.1 bt385.1)).bind fun t390 => (trustquorumlaw18_FederatedGrows.j1 k1 x5_1 t377 bt381.1 (!t390) t368 bt385.2 t371)) else (trustquorumlaw18_FederatedGrows.j1 k1 x5_1 t377 bt381.1 false t368 bt385.2 t371))) else (trustquorumlaw18_FederatedGrows.j1 k1 x5_1 t377 bt381.1 true t368 bt385.2 t371))) else ((federated_Confirms.f k1 t371 t377 bt381.1).bind fun t391 => (if t391 = true then ((federated_Confirms.f k1 t371 t377 (Go.bits .or .i64 bt381.1 bt385.1)).bind fun t392 => (trustquorumlaw18_FederatedGrows.j1 k1 x5_1 t377 bt381.1 (!t392) t368 bt385.2 t371)) else (trustquorumlaw18_FederatedGrows.j1 k1 x5_1 t377 bt381.1 false t368 bt385.2 t371)))))))) = some r := H
        have A12 := Aside0.mk A120
        clear A120
        replace H := Option.bind_eq_some_iff.mp H
        obtain ⟨⟨t381, t382⟩, A130, H⟩ := H
        replace H : ((trustquorummake_Tape_N.f t368 t382 256).bind fun bt383 => ((trustquorummake_Tape_N.f t368 bt383.2 256).bind fun bt385 => ((federated_Accepts.f k1 t371 t377 t379 t381).bind fun t387 => (if t387 = true then ((federated_Accepts.f k1 t371 t377 (Go.bits .or .i64 t379 bt383.1) (Go.bits .or .i64 t381 bt385.1)).bind fun t388 => (if t388 = true then ((federated_Confirms.f k1 t371 t377 t381).bind fun t389 => (if t389 = true then ((federated_Confirms.f k1 t371 t377 (Go.bits .or .i64 t381 bt385.1)).bind fun t390 => (trustquorumlaw18_FederatedGrows.j1 k1 x5_1 t377 t381 (!t390) t368 bt385.2 t371)) else (trustquorumlaw18_FederatedGrows.j1 k1 x5_1 t377 t381 false t368 bt385.2 t371))) else (trustquorumlaw18_FederatedGrows.j1 k1 x5_1 t377 t381 true t368 bt385.2 t371))) else ((federated_Confirms.f k1 t371 t377 t381).bind fun t391 => (if t391 = true then ((federated_Confirms.f k1 t371 t377 (Go.bits .or .i64 t381 bt385.1)).bind fun t392 => (trustquorumlaw18_FederatedGrows.j1 k1 x5_1 t377 t381 (!t392) t368 bt385.2 t371)) else (trustquorumlaw18_FederatedGrows.j1 k1 x5_1 t377 t381 false t368 bt385.2 t371))))))) = some r := H
        have A13 := Aside0.mk A130
        clear A130
        replace H := Option.bind_eq_some_iff.mp H
        obtain ⟨⟨t383, t384⟩, A140, H⟩ := H
        replace H : ((trustquorummake_Tape_N.f t368 t384 256).bind fun bt385 => ((federated_Accepts.f k1 t371 t377 t379 t381).bind fun t387 => (if t387 = true then ((federated_Accepts.f k1 t371 t377 (Go.bits .or .i64 t379 t383) (Go.bits .or .i64 t381 bt385.1)).bind fun t388 => (if t388 = true then ((federated_Confirms.f k1 t371 t377 t381).bind fun t389 => (if t389 = true then ((federated_Confirms.f k1 t371 t377 (Go.bits .or .i64 t381 bt385.1)).bind fun t390 => (trustquorumlaw18_FederatedGrows.j1 k1 x5_1 t377 t381 (!t390) t368 bt385.2 t371)) else (trustquorumlaw18_FederatedGrows.j1 k1 x5_1 t377 t381 false t368 bt385.2 t371))) else (trustquorumlaw18_FederatedGrows.j1 k1 x5_1 t377 t381 true t368 bt385.2 t371))) else ((federated_Confirms.f k1 t371 t377 t381).bind fun t391 => (if t391 = true then ((federated_Confirms.f k1 t371 t377 (Go.bits .or .i64 t381 bt385.1)).bind fun t392 => (trustquorumlaw18_FederatedGrows.j1 k1 x5_1 t377 t381 (!t392) t368 bt385.2 t371)) else (trustquorumlaw18_FederatedGrows.j1 k1 x5_1 t377 t381 false t368 bt385.2 t371)))))) = some r := H
        have A14 := Aside0.mk A140
        clear A140
        replace H := Option.bind_eq_some_iff.mp H
        obtain ⟨⟨t385, t386⟩, A150, H⟩ := H
        replace H : ((federated_Accepts.f k1 t371 t377 t379 t381).bind fun t387 => (if t387 = true then ((federated_Accepts.f k1 t371 t377 (Go.bits .or .i64 t379 t383) (Go.bits .or .i64 t381 t385)).bind fun t388 => (if t388 = true then ((federated_Confirms.f k1 t371 t377 t381).bind fun t389 => (if t389 = true then ((federated_Confirms.f k1 t371 t377 (Go.bits .or .i64 t381 t385)).bind fun t390 => (trustquorumlaw18_FederatedGrows.j1 k1 x5_1 t377 t381 (!t390) t368 t386 t371)) else (trustquorumlaw18_FederatedGrows.j1 k1 x5_1 t377 t381 false t368 t386 t371))) else (trustquorumlaw18_FederatedGrows.j1 k1 x5_1 t377 t381 true t368 t386 t371))) else ((federated_Confirms.f k1 t371 t377 t381).bind fun t391 => (if t391 = true then ((federated_Confirms.f k1 t371 t377 (Go.bits .or .i64 t381 t385)).bind fun t392 => (trustquorumlaw18_FederatedGrows.j1 k1 x5_1 t377 t381 (!t392) t368 t386 t371)) else (trustquorumlaw18_FederatedGrows.j1 k1 x5_1 t377 t381 false t368 t386 t371))))) = some r := H
        have A15 := Aside0.mk A150
        clear A150
        have HC16 := Aside0.mk H
        clear H
        go_upto_region 8 with (first | ((with_reducible refine gate_callee (f := 10) rfl ?_); refine goesL_ (some 20) rfl rfl Try.func10 (by kernel_rfl) rfl #[.pointer (some ⟨g370, 0, none⟩), .int .i64 8] rfl (by (try simp only [List.map_toArray, List.map_cons, List.map_nil]); first | done | rfl | (simp only [List.length_drop, List.length_take]; rfl)) ?_; (with_reducible refine (trustquorummake_Tape_N.calls g370 t368 x371001_1 8 t377 t378 w _ ?side1 ?side2 A11.out).mono ?_); (case side1 => repeat (first | (with_reducible first | exact HI370.out | apply IsS78.alloc | apply IsS78.drewN | apply IsS78.drew | apply IsS78.set_1 | refine IsS78.far ?_ NB370_375.out _) | exact HI370.out)); (case side2 => repeat (first | (with_reducible first | exact HB.out | apply below_alloc | apply pw_below_drewN | apply below_drew1 | refine below_set ?_ (IsS78.ge HI370.out) | refine below_set ?_ GE375.out) | exact HB.out)); rintro e w17 ⟨rfl, hi, hb, hk⟩; refine ⟨_, rfl, ?_⟩; have n0_ := Aside0.mk (Kd.N_mono (Kd.N_keep (Kd.N_mono (ok := fun k_ => (k_ ≠ gb375 ∧ k_ ≠ g370)) (by (with_reducible repeat (first | apply Kd.N_alloc | apply Kd.N_drewN | apply Kd.N_drew)); exact HO_376000.out) (fun k_ hk_ => (⟨hk_, hk_.2⟩ : _ ∧ k_ ≠ g370))) hk (fun _ h => h.2)) (fun _ h => h.1)); have n1_ := Aside0.mk (KeepBut.blk hk (g' := gb375) (o := .cells #[.slice Ao7 t371.length co7] 27 (0, 0)) (by (with_reducible repeat (first | refine blk_drewN ?_ _ | refine blk_drew ?_ | refine blk_alloc ?_ _)); exact BK375.out) NB375_370.out (by simp)); have n2_ := Aside0.mk (hb); have n3_ := Aside0.mk (hi); clear HO_376000; clear BK375; clear HB; clear HI370; have HO_376000 := n0_; have BK375 := n1_; have HB := n2_; have HI370 := n3_; clear n0_ n1_ n2_ n3_; (try clear hb); (try clear hb2); (try clear hk); (try clear hi)) | ((with_reducible refine gate_callee (f := 10) rfl ?_); refine goesL_ (some 22) rfl rfl Try.func10 (by kernel_rfl) rfl #[.pointer (some ⟨g370, 0, none⟩), .int .i64 256] rfl (by (try simp only [List.map_toArray, List.map_cons, List.map_nil]); first | done | rfl | (simp only [List.length_drop, List.length_take]; rfl)) ?_; (with_reducible refine (trustquorummake_Tape_N.calls g370 t368 t378 256 t379 t380 w _ ?side1 ?side2 A12.out).mono ?_); (case side1 => repeat (first | (with_reducible first | exact HI370.out | apply IsS78.alloc | apply IsS78.drewN | apply IsS78.drew | apply IsS78.set_1 | refine IsS78.far ?_ NB370_375.out _) | exact HI370.out)); (case side2 => repeat (first | (with_reducible first | exact HB.out | apply below_alloc | apply pw_below_drewN | apply below_drew1 | refine below_set ?_ (IsS78.ge HI370.out) | refine below_set ?_ GE375.out) | exact HB.out)); rintro e w18 ⟨rfl, hi, hb, hk⟩; refine ⟨_, rfl, ?_⟩; have n0_ := Aside0.mk (Kd.N_mono (Kd.N_keep (Kd.N_mono (ok := fun k_ => (k_ ≠ gb375 ∧ k_ ≠ g370)) (by (with_reducible repeat (first | apply Kd.N_alloc | apply Kd.N_drewN | apply Kd.N_drew)); exact HO_376000.out) (fun k_ hk_ => (⟨hk_, hk_.2⟩ : _ ∧ k_ ≠ g370))) hk (fun _ h => h.2)) (fun _ h => h.1)); have n1_ := Aside0.mk (KeepBut.blk hk (g' := gb375) (o := .cells #[.slice Ao7 t371.length co7] 27 (0, 0)) (by (with_reducible repeat (first | refine blk_drewN ?_ _ | refine blk_drew ?_ | refine blk_alloc ?_ _)); exact BK375.out) NB375_370.out (by simp)); have n2_ := Aside0.mk (hb); have n3_ := Aside0.mk (hi); clear HO_376000; clear BK375; clear HB; clear HI370; have HO_376000 := n0_; have BK375 := n1_; have HB := n2_; have HI370 := n3_; clear n0_ n1_ n2_ n3_; (try clear hb); (try clear hb2); (try clear hk); (try clear hi)) | ((with_reducible refine gate_callee (f := 10) rfl ?_); refine goesL_ (some 24) rfl rfl Try.func10 (by kernel_rfl) rfl #[.pointer (some ⟨g370, 0, none⟩), .int .i64 256] rfl (by (try simp only [List.map_toArray, List.map_cons, List.map_nil]); first | done | rfl | (simp only [List.length_drop, List.length_take]; rfl)) ?_; (with_reducible refine (trustquorummake_Tape_N.calls g370 t368 t380 256 t381 t382 w _ ?side1 ?side2 A13.out).mono ?_); (case side1 => repeat (first | (with_reducible first | exact HI370.out | apply IsS78.alloc | apply IsS78.drewN | apply IsS78.drew | apply IsS78.set_1 | refine IsS78.far ?_ NB370_375.out _) | exact HI370.out)); (case side2 => repeat (first | (with_reducible first | exact HB.out | apply below_alloc | apply pw_below_drewN | apply below_drew1 | refine below_set ?_ (IsS78.ge HI370.out) | refine below_set ?_ GE375.out) | exact HB.out)); rintro e w19 ⟨rfl, hi, hb, hk⟩; refine ⟨_, rfl, ?_⟩; have n0_ := Aside0.mk (Kd.N_mono (Kd.N_keep (Kd.N_mono (ok := fun k_ => (k_ ≠ gb375 ∧ k_ ≠ g370)) (by (with_reducible repeat (first | apply Kd.N_alloc | apply Kd.N_drewN | apply Kd.N_drew)); exact HO_376000.out) (fun k_ hk_ => (⟨hk_, hk_.2⟩ : _ ∧ k_ ≠ g370))) hk (fun _ h => h.2)) (fun _ h => h.1)); have n1_ := Aside0.mk (KeepBut.blk hk (g' := gb375) (o := .cells #[.slice Ao7 t371.length co7] 27 (0, 0)) (by (with_reducible repeat (first | refine blk_drewN ?_ _ | refine blk_drew ?_ | refine blk_alloc ?_ _)); exact BK375.out) NB375_370.out (by simp)); have n2_ := Aside0.mk (hb); have n3_ := Aside0.mk (hi); clear HO_376000; clear BK375; clear HB; clear HI370; have HO_376000 := n0_; have BK375 := n1_; have HB := n2_; have HI370 := n3_; clear n0_ n1_ n2_ n3_; (try clear hb); (try clear hb2); (try clear hk); (try clear hi)) | ((with_reducible refine gate_callee (f := 10) rfl ?_); refine goesL_ (some 27) rfl rfl Try.func10 (by kernel_rfl) rfl #[.pointer (some ⟨g370, 0, none⟩), .int .i64 256] rfl (by (try simp only [List.map_toArray, List.map_cons, List.map_nil]); first | done | rfl | (simp only [List.length_drop, List.length_take]; rfl)) ?_; (with_reducible refine (trustquorummake_Tape_N.calls g370 t368 t382 256 t383 t384 w _ ?side1 ?side2 A14.out).mono ?_); (case side1 => repeat (first | (with_reducible first | exact HI370.out | apply IsS78.alloc | apply IsS78.drewN | apply IsS78.drew | apply IsS78.set_1 | refine IsS78.far ?_ NB370_375.out _) | exact HI370.out)); (case side2 => repeat (first | (with_reducible first | exact HB.out | apply below_alloc | apply pw_below_drewN | apply below_drew1 | refine below_set ?_ (IsS78.ge HI370.out) | refine below_set ?_ GE375.out) | exact HB.out)); rintro e w20 ⟨rfl, hi, hb, hk⟩; refine ⟨_, rfl, ?_⟩; have n0_ := Aside0.mk (Kd.N_mono (Kd.N_keep (Kd.N_mono (ok := fun k_ => (k_ ≠ gb375 ∧ k_ ≠ g370)) (by (with_reducible repeat (first | apply Kd.N_alloc | apply Kd.N_drewN | apply Kd.N_drew)); exact HO_376000.out) (fun k_ hk_ => (⟨hk_, hk_.2⟩ : _ ∧ k_ ≠ g370))) hk (fun _ h => h.2)) (fun _ h => h.1)); have n1_ := Aside0.mk (KeepBut.blk hk (g' := gb375) (o := .cells #[.slice Ao7 t371.length co7] 27 (0, 0)) (by (with_reducible repeat (first | refine blk_drewN ?_ _ | refine blk_drew ?_ | refine blk_alloc ?_ _)); exact BK375.out) NB375_370.out (by simp)); have n2_ := Aside0.mk (hb); have n3_ := Aside0.mk (hi); clear HO_376000; clear BK375; clear HB; clear HI370; have HO_376000 := n0_; have BK375 := n1_; have HB := n2_; have HI370 := n3_; clear n0_ n1_ n2_ n3_; (try clear hb); (try clear hb2); (try clear hk); (try clear hi)) | ((with_reducible refine gate_callee (f := 10) rfl ?_); refine goesL_ (some 31) rfl rfl Try.func10 (by kernel_rfl) rfl #[.pointer (some ⟨g370, 0, none⟩), .int .i64 256] rfl (by (try simp only [List.map_toArray, List.map_cons, List.map_nil]); first | done | rfl | (simp only [List.length_drop, List.length_take]; rfl)) ?_; (with_reducible refine (trustquorummake_Tape_N.calls g370 t368 t384 256 t385 t386 w _ ?side1 ?side2 A15.out).mono ?_); (case side1 => repeat (first | (with_reducible first | exact HI370.out | apply IsS78.alloc | apply IsS78.drewN | apply IsS78.drew | apply IsS78.set_1 | refine IsS78.far ?_ NB370_375.out _) | exact HI370.out)); (case side2 => repeat (first | (with_reducible first | exact HB.out | apply below_alloc | apply pw_below_drewN | apply below_drew1 | refine below_set ?_ (IsS78.ge HI370.out) | refine below_set ?_ GE375.out) | exact HB.out)); rintro e w21 ⟨rfl, hi, hb, hk⟩; refine ⟨_, rfl, ?_⟩; have n0_ := Aside0.mk (Kd.N_mono (Kd.N_keep (Kd.N_mono (ok := fun k_ => (k_ ≠ gb375 ∧ k_ ≠ g370)) (by (with_reducible repeat (first | apply Kd.N_alloc | apply Kd.N_drewN | apply Kd.N_drew)); exact HO_376000.out) (fun k_ hk_ => (⟨hk_, hk_.2⟩ : _ ∧ k_ ≠ g370))) hk (fun _ h => h.2)) (fun _ h => h.1)); have n1_ := Aside0.mk (KeepBut.blk hk (g' := gb375) (o := .cells #[.slice Ao7 t371.length co7] 27 (0, 0)) (by (with_reducible repeat (first | refine blk_drewN ?_ _ | refine blk_drew ?_ | refine blk_alloc ?_ _)); exact BK375.out) NB375_370.out (by simp)); have n2_ := Aside0.mk (hb); have n3_ := Aside0.mk (hi); clear HO_376000; clear BK375; clear HB; clear HI370; have HO_376000 := n0_; have BK375 := n1_; have HB := n2_; have HI370 := n3_; clear n0_ n1_ n2_ n3_; (try clear hb); (try clear hb2); (try clear hk); (try clear hi)))
        (try simp only [Act.put, List.setIfInBounds_toArray, List.set_cons_zero, List.set_cons_succ])
        go_cut [58] (fun v58 wc => ∃ (kq : Nat) (x58_15 : Bool), v58 = .bool x58_15 ∧ Aside0 (trustquorumlaw18_FederatedGrows.j1 kq x5_1 t377 t381 x58_15 t368 t386 t371 = some r) ∧ Aside0 (kq ≤ k1) ∧ Aside0 (Kd.N k54 54 wc w.heap.size (fun k_ => k_ ≠ gb375 ∧ k_ ≠ g370) (.slice Ao7 t371.length co7) t371) ∧ Aside0 (wc.heap[gb375]? = some (.cells #[(.slice Ao7 t371.length co7)] 27 (0, 0))) ∧ Aside0 (IsS78 w wc g370 t368 t386) ∧ Aside0 (Below w.heap.size w wc))
        case first =>
          have H := HC16.out
          clear HC16
          replace H := Option.bind_eq_some_iff.mp H
          obtain ⟨t387, A220, H⟩ := H
          replace H : (if t387 = true then ((federated_Accepts.f k1 t371 t377 (Go.bits .or .i64 t379 t383) (Go.bits .or .i64 t381 t385)).bind fun t388 => (if t388 = true then ((federated_Confirms.f k1 t371 t377 t381).bind fun t389 => (if t389 = true then ((federated_Confirms.f k1 t371 t377 (Go.bits .or .i64 t381 t385)).bind fun t390 => (trustquorumlaw18_FederatedGrows.j1 k1 x5_1 t377 t381 (!t390) t368 t386 t371)) else (trustquorumlaw18_FederatedGrows.j1 k1 x5_1 t377 t381 false t368 t386 t371))) else (trustquorumlaw18_FederatedGrows.j1 k1 x5_1 t377 t381 true t368 t386 t371))) else ((federated_Confirms.f k1 t371 t377 t381).bind fun t391 => (if t391 = true then ((federated_Confirms.f k1 t371 t377 (Go.bits .or .i64 t381 t385)).bind fun t392 => (trustquorumlaw18_FederatedGrows.j1 k1 x5_1 t377 t381 (!t392) t368 t386 t371)) else (trustquorumlaw18_FederatedGrows.j1 k1 x5_1 t377 t381 false t368 t386 t371)))) = some r := H
          have A22 := Aside0.mk A220
          clear A220
          by_cases c23 : t387 = true
          · subst c23
            have H1 : ((federated_Accepts.f k1 t371 t377 (Go.bits .or .i64 t379 t383) (Go.bits .or .i64 t381 t385)).bind fun t388 => (if t388 = true then ((federated_Confirms.f k1 t371 t377 t381).bind fun t389 => (if t389 = true then ((federated_Confirms.f k1 t371 t377 (Go.bits .or .i64 t381 t385)).bind fun t390 => (trustquorumlaw18_FederatedGrows.j1 k1 x5_1 t377 t381 (!t390) t368 t386 t371)) else (trustquorumlaw18_FederatedGrows.j1 k1 x5_1 t377 t381 false t368 t386 t371))) else (trustquorumlaw18_FederatedGrows.j1 k1 x5_1 t377 t381 true t368 t386 t371))) = some r := by rw [if_pos rfl] at H; exact H
            clear H
            have H := H1
            clear H1
            replace H := Option.bind_eq_some_iff.mp H
            obtain ⟨t388, A240, H⟩ := H
            replace H : (if t388 = true then ((federated_Confirms.f k1 t371 t377 t381).bind fun t389 => (if t389 = true then ((federated_Confirms.f k1 t371 t377 (Go.bits .or .i64 t381 t385)).bind fun t390 => (trustquorumlaw18_FederatedGrows.j1 k1 x5_1 t377 t381 (!t390) t368 t386 t371)) else (trustquorumlaw18_FederatedGrows.j1 k1 x5_1 t377 t381 false t368 t386 t371))) else (trustquorumlaw18_FederatedGrows.j1 k1 x5_1 t377 t381 true t368 t386 t371)) = some r := H
            have A24 := Aside0.mk A240
            clear A240
            by_cases c25 : t388 = true
            · subst c25
              have H1 : ((federated_Confirms.f k1 t371 t377 t381).bind fun t389 => (if t389 = true then ((federated_Confirms.f k1 t371 t377 (Go.bits .or .i64 t381 t385)).bind fun t390 => (trustquorumlaw18_FederatedGrows.j1 k1 x5_1 t377 t381 (!t390) t368 t386 t371)) else (trustquorumlaw18_FederatedGrows.j1 k1 x5_1 t377 t381 false t368 t386 t371))) = some r := by rw [if_pos rfl] at H; exact H
              clear H
              have H := H1
              clear H1
              replace H := Option.bind_eq_some_iff.mp H
              obtain ⟨t389, A260, H⟩ := H
              replace H : (if t389 = true then ((federated_Confirms.f k1 t371 t377 (Go.bits .or .i64 t381 t385)).bind fun t390 => (trustquorumlaw18_FederatedGrows.j1 k1 x5_1 t377 t381 (!t390) t368 t386 t371)) else (trustquorumlaw18_FederatedGrows.j1 k1 x5_1 t377 t381 false t368 t386 t371)) = some r := H
              have A26 := Aside0.mk A260
              clear A260
              by_cases c27 : t389 = true
              · subst c27
                have H1 : ((federated_Confirms.f k1 t371 t377 (Go.bits .or .i64 t381 t385)).bind fun t390 => (trustquorumlaw18_FederatedGrows.j1 k1 x5_1 t377 t381 (!t390) t368 t386 t371)) = some r := by rw [if_pos rfl] at H; exact H
                clear H
                have H := H1
                clear H1
                replace H := Option.bind_eq_some_iff.mp H
                obtain ⟨t390, A280, H⟩ := H
                replace H : (trustquorumlaw18_FederatedGrows.j1 k1 x5_1 t377 t381 (!t390) t368 t386 t371) = some r := H
                have A28 := Aside0.mk A280
                clear A280
                have H' := Aside0.mk H
                clear H
                have hnb29 := NB375_370.out
                have hnc29 := NB370_375.out
                have hcz30_0 : w21.cell? ⟨gb375, 0, none⟩ = some (.slice Ao7 t371.length co7) := (blk_cell BK375.out 0).trans rfl
                have hfz30_0 := blk_frozen BK375.out 0
                go_wp2_with (first | ((with_reducible refine gate_callee (f := 11) rfl ?_); refine goesL_ (some 37) rfl rfl Try.func11 (by kernel_rfl) rfl #[.agg #[.slice Ao7 t371.length co7], .int .i64 t377, .int .i64 t379, .int .i64 t381] rfl (by (try simp only [List.map_toArray, List.map_cons, List.map_nil]); first | done | rfl | (simp only [List.length_drop, List.length_take]; rfl)) ?_; (with_reducible refine (federated_Accepts.calls k1 _ _ t371 t377 t379 t381 true _ ?side1 ?side2 A22.out).mono ?_); (case side1 => repeat (first | exact (Kd.N_reads' HO_376000.out).2.2 | (with_reducible refine Kd.C_alloc ?_ _) | (with_reducible refine Kd.C_drewN ?_ _) | (with_reducible refine Kd.C_drew ?_))); (case side2 => exact (Kd.N_reads' HO_376000.out).2.1); rintro e w31 ⟨rfl, hb⟩; refine ⟨_, rfl, ?_⟩; have n0_ := Aside0.mk (Kd.N_below (by (with_reducible repeat (first | apply Kd.N_alloc | apply Kd.N_drewN | apply Kd.N_drew)); exact HO_376000.out) hb); have n1_ := Aside0.mk (blk_below (g := gb375) (o := .cells #[.slice Ao7 t371.length co7] 27 (0, 0)) (by (with_reducible repeat (first | refine blk_drewN ?_ _ | refine blk_drew ?_ | refine blk_alloc ?_ _)); exact BK375.out) hb); have n2_ := Aside0.mk (IsS78.below (by repeat (first | (with_reducible first | exact HI370.out | apply IsS78.alloc | apply IsS78.drewN | apply IsS78.drew | apply IsS78.set_1 | refine IsS78.far ?_ NB370_375.out _) | exact HI370.out)) hb); have n3_ := Aside0.mk (below_step (by repeat (first | (with_reducible first | exact HB.out | apply below_alloc | apply pw_below_drewN | apply below_drew1 | refine below_set ?_ (IsS78.ge HI370.out) | refine below_set ?_ GE375.out) | exact HB.out)) hb); clear HO_376000; clear BK375; clear HI370; clear HB; have HO_376000 := n0_; have BK375 := n1_; have HI370 := n2_; have HB := n3_; clear n0_ n1_ n2_ n3_; (try clear hb); (try clear hb2); (try clear hk); (try clear hi); have hcz32_0 : w31.cell? ⟨gb375, 0, none⟩ = some (.slice Ao7 t371.length co7) := (blk_cell BK375.out 0).trans rfl; have hfz32_0 := blk_frozen BK375.out 0) | (go_at_call 11; (with_reducible refine (federated_Accepts.calls k1 _ _ t371 t377 (Go.bits .or .i64 t379 t383) (Go.bits .or .i64 t381 t385) true _ ?side1 ?side2 A24.out).mono ?_); (case side1 => repeat (first | exact (Kd.N_reads' HO_376000.out).2.2 | (with_reducible refine Kd.C_alloc ?_ _) | (with_reducible refine Kd.C_drewN ?_ _) | (with_reducible refine Kd.C_drew ?_))); (case side2 => exact (Kd.N_reads' HO_376000.out).2.1); rintro e w33 ⟨rfl, hb⟩; have n0_ := Aside0.mk (Kd.N_below (by (with_reducible repeat (first | apply Kd.N_alloc | apply Kd.N_drewN | apply Kd.N_drew)); exact HO_376000.out) hb); have n1_ := Aside0.mk (blk_below (g := gb375) (o := .cells #[.slice Ao7 t371.length co7] 27 (0, 0)) (by (with_reducible repeat (first | refine blk_drewN ?_ _ | refine blk_drew ?_ | refine blk_alloc ?_ _)); exact BK375.out) hb); have n2_ := Aside0.mk (IsS78.below (by repeat (first | (with_reducible first | exact HI370.out | apply IsS78.alloc | apply IsS78.drewN | apply IsS78.drew | apply IsS78.set_1 | refine IsS78.far ?_ NB370_375.out _) | exact HI370.out)) hb); have n3_ := Aside0.mk (below_step (by repeat (first | (with_reducible first | exact HB.out | apply below_alloc | apply pw_below_drewN | apply below_drew1 | refine below_set ?_ (IsS78.ge HI370.out) | refine below_set ?_ GE375.out) | exact HB.out)) hb); clear HO_376000; clear BK375; clear HI370; clear HB; have HO_376000 := n0_; have BK375 := n1_; have HI370 := n2_; have HB := n3_; clear n0_ n1_ n2_ n3_; (try clear hb); (try clear hb2); (try clear hk); (try clear hi); have hcz34_0 : w33.cell? ⟨gb375, 0, none⟩ = some (.slice Ao7 t371.length co7) := (blk_cell BK375.out 0).trans rfl; have hfz34_0 := blk_frozen BK375.out 0) | (go_at_call 12; (with_reducible refine (federated_Confirms.calls k1 _ _ t371 t377 t381 true _ ?side1 ?side2 A26.out).mono ?_); (case side1 => repeat (first | exact (Kd.N_reads' HO_376000.out).2.2 | (with_reducible refine Kd.C_alloc ?_ _) | (with_reducible refine Kd.C_drewN ?_ _) | (with_reducible refine Kd.C_drew ?_))); (case side2 => exact (Kd.N_reads' HO_376000.out).2.1); rintro e w35 ⟨rfl, hb⟩; have n0_ := Aside0.mk (Kd.N_below (by (with_reducible repeat (first | apply Kd.N_alloc | apply Kd.N_drewN | apply Kd.N_drew)); exact HO_376000.out) hb); have n1_ := Aside0.mk (blk_below (g := gb375) (o := .cells #[.slice Ao7 t371.length co7] 27 (0, 0)) (by (with_reducible repeat (first | refine blk_drewN ?_ _ | refine blk_drew ?_ | refine blk_alloc ?_ _)); exact BK375.out) hb); have n2_ := Aside0.mk (IsS78.below (by repeat (first | (with_reducible first | exact HI370.out | apply IsS78.alloc | apply IsS78.drewN | apply IsS78.drew | apply IsS78.set_1 | refine IsS78.far ?_ NB370_375.out _) | exact HI370.out)) hb); have n3_ := Aside0.mk (below_step (by repeat (first | (with_reducible first | exact HB.out | apply below_alloc | apply pw_below_drewN | apply below_drew1 | refine below_set ?_ (IsS78.ge HI370.out) | refine below_set ?_ GE375.out) | exact HB.out)) hb); clear HO_376000; clear BK375; clear HI370; clear HB; have HO_376000 := n0_; have BK375 := n1_; have HI370 := n2_; have HB := n3_; clear n0_ n1_ n2_ n3_; (try clear hb); (try clear hb2); (try clear hk); (try clear hi); have hcz36_0 : w35.cell? ⟨gb375, 0, none⟩ = some (.slice Ao7 t371.length co7) := (blk_cell BK375.out 0).trans rfl; have hfz36_0 := blk_frozen BK375.out 0) | (go_at_call 12; (with_reducible refine (federated_Confirms.calls k1 _ _ t371 t377 (Go.bits .or .i64 t381 t385) t390 _ ?side1 ?side2 A28.out).mono ?_); (case side1 => repeat (first | exact (Kd.N_reads' HO_376000.out).2.2 | (with_reducible refine Kd.C_alloc ?_ _) | (with_reducible refine Kd.C_drewN ?_ _) | (with_reducible refine Kd.C_drew ?_))); (case side2 => exact (Kd.N_reads' HO_376000.out).2.1); rintro e w37 ⟨rfl, hb⟩; have n0_ := Aside0.mk (Kd.N_below (by (with_reducible repeat (first | apply Kd.N_alloc | apply Kd.N_drewN | apply Kd.N_drew)); exact HO_376000.out) hb); have n1_ := Aside0.mk (blk_below (g := gb375) (o := .cells #[.slice Ao7 t371.length co7] 27 (0, 0)) (by (with_reducible repeat (first | refine blk_drewN ?_ _ | refine blk_drew ?_ | refine blk_alloc ?_ _)); exact BK375.out) hb); have n2_ := Aside0.mk (IsS78.below (by repeat (first | (with_reducible first | exact HI370.out | apply IsS78.alloc | apply IsS78.drewN | apply IsS78.drew | apply IsS78.set_1 | refine IsS78.far ?_ NB370_375.out _) | exact HI370.out)) hb); have n3_ := Aside0.mk (below_step (by repeat (first | (with_reducible first | exact HB.out | apply below_alloc | apply pw_below_drewN | apply below_drew1 | refine below_set ?_ (IsS78.ge HI370.out) | refine below_set ?_ GE375.out) | exact HB.out)) hb); clear HO_376000; clear BK375; clear HI370; clear HB; have HO_376000 := n0_; have BK375 := n1_; have HI370 := n2_; have HB := n3_; clear n0_ n1_ n2_ n3_; (try clear hb); (try clear hb2); (try clear hk); (try clear hi)))
                go_meet
                case rel => exact ⟨_, (!t390), (by first | rfl | (simp; done) | (simp [*]; done) | (refine congrArg (Value.int .i64) ?_; unfold wrap64; omega)), H', ⟨by have := HK1.out; first | omega | exact Nat.le_refl _⟩, ⟨by (with_reducible repeat (first | apply Kd.N_alloc | apply Kd.N_drewN | apply Kd.N_drew)); exact HO_376000.out⟩, ⟨by (with_reducible repeat (first | refine blk_drewN ?_ _ | refine blk_drew ?_ | refine blk_alloc ?_ _)); exact BK375.out⟩, ⟨by repeat (first | (with_reducible first | exact HI370.out | apply IsS78.alloc | apply IsS78.drewN | apply IsS78.drew | apply IsS78.set_1 | refine IsS78.far ?_ NB370_375.out _) | exact HI370.out)⟩, ⟨by repeat (first | (with_reducible first | exact HB.out | apply below_alloc | apply pw_below_drewN | apply below_drew1 | refine below_set ?_ (IsS78.ge HI370.out) | refine below_set ?_ GE375.out) | exact HB.out)⟩⟩
              · replace c27 := Bool.eq_false_iff.mpr c27
                subst c27
                have H1 : (trustquorumlaw18_FederatedGrows.j1 k1 x5_1 t377 t381 false t368 t386 t371) = some r := by rw [if_neg (show ¬ (false = true) by decide)] at H; exact H
                clear H
                have H := H1
                clear H1
                have H' := Aside0.mk H
                clear H
                have hnb38 := NB375_370.out
                have hnc38 := NB370_375.out
                have hcz39_0 : w21.cell? ⟨gb375, 0, none⟩ = some (.slice Ao7 t371.length co7) := (blk_cell BK375.out 0).trans rfl
                have hfz39_0 := blk_frozen BK375.out 0
                go_wp2_with (first | ((with_reducible refine gate_callee (f := 11) rfl ?_); refine goesL_ (some 37) rfl rfl Try.func11 (by kernel_rfl) rfl #[.agg #[.slice Ao7 t371.length co7], .int .i64 t377, .int .i64 t379, .int .i64 t381] rfl (by (try simp only [List.map_toArray, List.map_cons, List.map_nil]); first | done | rfl | (simp only [List.length_drop, List.length_take]; rfl)) ?_; (with_reducible refine (federated_Accepts.calls k1 _ _ t371 t377 t379 t381 true _ ?side1 ?side2 A22.out).mono ?_); (case side1 => repeat (first | exact (Kd.N_reads' HO_376000.out).2.2 | (with_reducible refine Kd.C_alloc ?_ _) | (with_reducible refine Kd.C_drewN ?_ _) | (with_reducible refine Kd.C_drew ?_))); (case side2 => exact (Kd.N_reads' HO_376000.out).2.1); rintro e w40 ⟨rfl, hb⟩; refine ⟨_, rfl, ?_⟩; have n0_ := Aside0.mk (Kd.N_below (by (with_reducible repeat (first | apply Kd.N_alloc | apply Kd.N_drewN | apply Kd.N_drew)); exact HO_376000.out) hb); have n1_ := Aside0.mk (blk_below (g := gb375) (o := .cells #[.slice Ao7 t371.length co7] 27 (0, 0)) (by (with_reducible repeat (first | refine blk_drewN ?_ _ | refine blk_drew ?_ | refine blk_alloc ?_ _)); exact BK375.out) hb); have n2_ := Aside0.mk (IsS78.below (by repeat (first | (with_reducible first | exact HI370.out | apply IsS78.alloc | apply IsS78.drewN | apply IsS78.drew | apply IsS78.set_1 | refine IsS78.far ?_ NB370_375.out _) | exact HI370.out)) hb); have n3_ := Aside0.mk (below_step (by repeat (first | (with_reducible first | exact HB.out | apply below_alloc | apply pw_below_drewN | apply below_drew1 | refine below_set ?_ (IsS78.ge HI370.out) | refine below_set ?_ GE375.out) | exact HB.out)) hb); clear HO_376000; clear BK375; clear HI370; clear HB; have HO_376000 := n0_; have BK375 := n1_; have HI370 := n2_; have HB := n3_; clear n0_ n1_ n2_ n3_; (try clear hb); (try clear hb2); (try clear hk); (try clear hi); have hcz41_0 : w40.cell? ⟨gb375, 0, none⟩ = some (.slice Ao7 t371.length co7) := (blk_cell BK375.out 0).trans rfl; have hfz41_0 := blk_frozen BK375.out 0) | (go_at_call 11; (with_reducible refine (federated_Accepts.calls k1 _ _ t371 t377 (Go.bits .or .i64 t379 t383) (Go.bits .or .i64 t381 t385) true _ ?side1 ?side2 A24.out).mono ?_); (case side1 => repeat (first | exact (Kd.N_reads' HO_376000.out).2.2 | (with_reducible refine Kd.C_alloc ?_ _) | (with_reducible refine Kd.C_drewN ?_ _) | (with_reducible refine Kd.C_drew ?_))); (case side2 => exact (Kd.N_reads' HO_376000.out).2.1); rintro e w42 ⟨rfl, hb⟩; have n0_ := Aside0.mk (Kd.N_below (by (with_reducible repeat (first | apply Kd.N_alloc | apply Kd.N_drewN | apply Kd.N_drew)); exact HO_376000.out) hb); have n1_ := Aside0.mk (blk_below (g := gb375) (o := .cells #[.slice Ao7 t371.length co7] 27 (0, 0)) (by (with_reducible repeat (first | refine blk_drewN ?_ _ | refine blk_drew ?_ | refine blk_alloc ?_ _)); exact BK375.out) hb); have n2_ := Aside0.mk (IsS78.below (by repeat (first | (with_reducible first | exact HI370.out | apply IsS78.alloc | apply IsS78.drewN | apply IsS78.drew | apply IsS78.set_1 | refine IsS78.far ?_ NB370_375.out _) | exact HI370.out)) hb); have n3_ := Aside0.mk (below_step (by repeat (first | (with_reducible first | exact HB.out | apply below_alloc | apply pw_below_drewN | apply below_drew1 | refine below_set ?_ (IsS78.ge HI370.out) | refine below_set ?_ GE375.out) | exact HB.out)) hb); clear HO_376000; clear BK375; clear HI370; clear HB; have HO_376000 := n0_; have BK375 := n1_; have HI370 := n2_; have HB := n3_; clear n0_ n1_ n2_ n3_; (try clear hb); (try clear hb2); (try clear hk); (try clear hi); have hcz43_0 : w42.cell? ⟨gb375, 0, none⟩ = some (.slice Ao7 t371.length co7) := (blk_cell BK375.out 0).trans rfl; have hfz43_0 := blk_frozen BK375.out 0) | (go_at_call 12; (with_reducible refine (federated_Confirms.calls k1 _ _ t371 t377 t381 false _ ?side1 ?side2 A26.out).mono ?_); (case side1 => repeat (first | exact (Kd.N_reads' HO_376000.out).2.2 | (with_reducible refine Kd.C_alloc ?_ _) | (with_reducible refine Kd.C_drewN ?_ _) | (with_reducible refine Kd.C_drew ?_))); (case side2 => exact (Kd.N_reads' HO_376000.out).2.1); rintro e w44 ⟨rfl, hb⟩; have n0_ := Aside0.mk (Kd.N_below (by (with_reducible repeat (first | apply Kd.N_alloc | apply Kd.N_drewN | apply Kd.N_drew)); exact HO_376000.out) hb); have n1_ := Aside0.mk (blk_below (g := gb375) (o := .cells #[.slice Ao7 t371.length co7] 27 (0, 0)) (by (with_reducible repeat (first | refine blk_drewN ?_ _ | refine blk_drew ?_ | refine blk_alloc ?_ _)); exact BK375.out) hb); have n2_ := Aside0.mk (IsS78.below (by repeat (first | (with_reducible first | exact HI370.out | apply IsS78.alloc | apply IsS78.drewN | apply IsS78.drew | apply IsS78.set_1 | refine IsS78.far ?_ NB370_375.out _) | exact HI370.out)) hb); have n3_ := Aside0.mk (below_step (by repeat (first | (with_reducible first | exact HB.out | apply below_alloc | apply pw_below_drewN | apply below_drew1 | refine below_set ?_ (IsS78.ge HI370.out) | refine below_set ?_ GE375.out) | exact HB.out)) hb); clear HO_376000; clear BK375; clear HI370; clear HB; have HO_376000 := n0_; have BK375 := n1_; have HI370 := n2_; have HB := n3_; clear n0_ n1_ n2_ n3_; (try clear hb); (try clear hb2); (try clear hk); (try clear hi)))
                go_meet
                case rel => exact ⟨_, (false), (by first | rfl | (simp; done) | (simp [*]; done) | (refine congrArg (Value.int .i64) ?_; unfold wrap64; omega)), H', ⟨by have := HK1.out; first | omega | exact Nat.le_refl _⟩, ⟨by (with_reducible repeat (first | apply Kd.N_alloc | apply Kd.N_drewN | apply Kd.N_drew)); exact HO_376000.out⟩, ⟨by (with_reducible repeat (first | refine blk_drewN ?_ _ | refine blk_drew ?_ | refine blk_alloc ?_ _)); exact BK375.out⟩, ⟨by repeat (first | (with_reducible first | exact HI370.out | apply IsS78.alloc | apply IsS78.drewN | apply IsS78.drew | apply IsS78.set_1 | refine IsS78.far ?_ NB370_375.out _) | exact HI370.out)⟩, ⟨by repeat (first | (with_reducible first | exact HB.out | apply below_alloc | apply pw_below_drewN | apply below_drew1 | refine below_set ?_ (IsS78.ge HI370.out) | refine below_set ?_ GE375.out) | exact HB.out)⟩⟩
            · replace c25 := Bool.eq_false_iff.mpr c25
              subst c25
              have H1 : (trustquorumlaw18_FederatedGrows.j1 k1 x5_1 t377 t381 true t368 t386 t371) = some r := by rw [if_neg (show ¬ (false = true) by decide)] at H; exact H
              clear H
              have H := H1
              clear H1
              have H' := Aside0.mk H
              clear H
              have hnb45 := NB375_370.out
              have hnc45 := NB370_375.out
              have hcz46_0 : w21.cell? ⟨gb375, 0, none⟩ = some (.slice Ao7 t371.length co7) := (blk_cell BK375.out 0).trans rfl
              have hfz46_0 := blk_frozen BK375.out 0
              go_wp2_with (first | ((with_reducible refine gate_callee (f := 11) rfl ?_); refine goesL_ (some 37) rfl rfl Try.func11 (by kernel_rfl) rfl #[.agg #[.slice Ao7 t371.length co7], .int .i64 t377, .int .i64 t379, .int .i64 t381] rfl (by (try simp only [List.map_toArray, List.map_cons, List.map_nil]); first | done | rfl | (simp only [List.length_drop, List.length_take]; rfl)) ?_; (with_reducible refine (federated_Accepts.calls k1 _ _ t371 t377 t379 t381 true _ ?side1 ?side2 A22.out).mono ?_); (case side1 => repeat (first | exact (Kd.N_reads' HO_376000.out).2.2 | (with_reducible refine Kd.C_alloc ?_ _) | (with_reducible refine Kd.C_drewN ?_ _) | (with_reducible refine Kd.C_drew ?_))); (case side2 => exact (Kd.N_reads' HO_376000.out).2.1); rintro e w47 ⟨rfl, hb⟩; refine ⟨_, rfl, ?_⟩; have n0_ := Aside0.mk (Kd.N_below (by (with_reducible repeat (first | apply Kd.N_alloc | apply Kd.N_drewN | apply Kd.N_drew)); exact HO_376000.out) hb); have n1_ := Aside0.mk (blk_below (g := gb375) (o := .cells #[.slice Ao7 t371.length co7] 27 (0, 0)) (by (with_reducible repeat (first | refine blk_drewN ?_ _ | refine blk_drew ?_ | refine blk_alloc ?_ _)); exact BK375.out) hb); have n2_ := Aside0.mk (IsS78.below (by repeat (first | (with_reducible first | exact HI370.out | apply IsS78.alloc | apply IsS78.drewN | apply IsS78.drew | apply IsS78.set_1 | refine IsS78.far ?_ NB370_375.out _) | exact HI370.out)) hb); have n3_ := Aside0.mk (below_step (by repeat (first | (with_reducible first | exact HB.out | apply below_alloc | apply pw_below_drewN | apply below_drew1 | refine below_set ?_ (IsS78.ge HI370.out) | refine below_set ?_ GE375.out) | exact HB.out)) hb); clear HO_376000; clear BK375; clear HI370; clear HB; have HO_376000 := n0_; have BK375 := n1_; have HI370 := n2_; have HB := n3_; clear n0_ n1_ n2_ n3_; (try clear hb); (try clear hb2); (try clear hk); (try clear hi); have hcz48_0 : w47.cell? ⟨gb375, 0, none⟩ = some (.slice Ao7 t371.length co7) := (blk_cell BK375.out 0).trans rfl; have hfz48_0 := blk_frozen BK375.out 0) | (go_at_call 11; (with_reducible refine (federated_Accepts.calls k1 _ _ t371 t377 (Go.bits .or .i64 t379 t383) (Go.bits .or .i64 t381 t385) false _ ?side1 ?side2 A24.out).mono ?_); (case side1 => repeat (first | exact (Kd.N_reads' HO_376000.out).2.2 | (with_reducible refine Kd.C_alloc ?_ _) | (with_reducible refine Kd.C_drewN ?_ _) | (with_reducible refine Kd.C_drew ?_))); (case side2 => exact (Kd.N_reads' HO_376000.out).2.1); rintro e w49 ⟨rfl, hb⟩; have n0_ := Aside0.mk (Kd.N_below (by (with_reducible repeat (first | apply Kd.N_alloc | apply Kd.N_drewN | apply Kd.N_drew)); exact HO_376000.out) hb); have n1_ := Aside0.mk (blk_below (g := gb375) (o := .cells #[.slice Ao7 t371.length co7] 27 (0, 0)) (by (with_reducible repeat (first | refine blk_drewN ?_ _ | refine blk_drew ?_ | refine blk_alloc ?_ _)); exact BK375.out) hb); have n2_ := Aside0.mk (IsS78.below (by repeat (first | (with_reducible first | exact HI370.out | apply IsS78.alloc | apply IsS78.drewN | apply IsS78.drew | apply IsS78.set_1 | refine IsS78.far ?_ NB370_375.out _) | exact HI370.out)) hb); have n3_ := Aside0.mk (below_step (by repeat (first | (with_reducible first | exact HB.out | apply below_alloc | apply pw_below_drewN | apply below_drew1 | refine below_set ?_ (IsS78.ge HI370.out) | refine below_set ?_ GE375.out) | exact HB.out)) hb); clear HO_376000; clear BK375; clear HI370; clear HB; have HO_376000 := n0_; have BK375 := n1_; have HI370 := n2_; have HB := n3_; clear n0_ n1_ n2_ n3_; (try clear hb); (try clear hb2); (try clear hk); (try clear hi)))
              go_meet
              case rel => exact ⟨_, (true), (by first | rfl | (simp; done) | (simp [*]; done) | (refine congrArg (Value.int .i64) ?_; unfold wrap64; omega)), H', ⟨by have := HK1.out; first | omega | exact Nat.le_refl _⟩, ⟨by (with_reducible repeat (first | apply Kd.N_alloc | apply Kd.N_drewN | apply Kd.N_drew)); exact HO_376000.out⟩, ⟨by (with_reducible repeat (first | refine blk_drewN ?_ _ | refine blk_drew ?_ | refine blk_alloc ?_ _)); exact BK375.out⟩, ⟨by repeat (first | (with_reducible first | exact HI370.out | apply IsS78.alloc | apply IsS78.drewN | apply IsS78.drew | apply IsS78.set_1 | refine IsS78.far ?_ NB370_375.out _) | exact HI370.out)⟩, ⟨by repeat (first | (with_reducible first | exact HB.out | apply below_alloc | apply pw_below_drewN | apply below_drew1 | refine below_set ?_ (IsS78.ge HI370.out) | refine below_set ?_ GE375.out) | exact HB.out)⟩⟩
          · replace c23 := Bool.eq_false_iff.mpr c23
            subst c23
            have H1 : ((federated_Confirms.f k1 t371 t377 t381).bind fun t391 => (if t391 = true then ((federated_Confirms.f k1 t371 t377 (Go.bits .or .i64 t381 t385)).bind fun t392 => (trustquorumlaw18_FederatedGrows.j1 k1 x5_1 t377 t381 (!t392) t368 t386 t371)) else (trustquorumlaw18_FederatedGrows.j1 k1 x5_1 t377 t381 false t368 t386 t371))) = some r := by rw [if_neg (show ¬ (false = true) by decide)] at H; exact H
            clear H
            have H := H1
            clear H1
            replace H := Option.bind_eq_some_iff.mp H
            obtain ⟨t391, A500, H⟩ := H
            replace H : (if t391 = true then ((federated_Confirms.f k1 t371 t377 (Go.bits .or .i64 t381 t385)).bind fun t392 => (trustquorumlaw18_FederatedGrows.j1 k1 x5_1 t377 t381 (!t392) t368 t386 t371)) else (trustquorumlaw18_FederatedGrows.j1 k1 x5_1 t377 t381 false t368 t386 t371)) = some r := H
            have A50 := Aside0.mk A500
            clear A500
            by_cases c51 : t391 = true
            · subst c51
              have H1 : ((federated_Confirms.f k1 t371 t377 (Go.bits .or .i64 t381 t385)).bind fun t392 => (trustquorumlaw18_FederatedGrows.j1 k1 x5_1 t377 t381 (!t392) t368 t386 t371)) = some r := by rw [if_pos rfl] at H; exact H
              clear H
              have H := H1
              clear H1
              replace H := Option.bind_eq_some_iff.mp H
              obtain ⟨t392, A520, H⟩ := H
              replace H : (trustquorumlaw18_FederatedGrows.j1 k1 x5_1 t377 t381 (!t392) t368 t386 t371) = some r := H
              have A52 := Aside0.mk A520
              clear A520
              have H' := Aside0.mk H
              clear H
              have hnb53 := NB375_370.out
              have hnc53 := NB370_375.out
              have hcz54_0 : w21.cell? ⟨gb375, 0, none⟩ = some (.slice Ao7 t371.length co7) := (blk_cell BK375.out 0).trans rfl
              have hfz54_0 := blk_frozen BK375.out 0
              go_wp2_with (first | ((with_reducible refine gate_callee (f := 11) rfl ?_); refine goesL_ (some 37) rfl rfl Try.func11 (by kernel_rfl) rfl #[.agg #[.slice Ao7 t371.length co7], .int .i64 t377, .int .i64 t379, .int .i64 t381] rfl (by (try simp only [List.map_toArray, List.map_cons, List.map_nil]); first | done | rfl | (simp only [List.length_drop, List.length_take]; rfl)) ?_; (with_reducible refine (federated_Accepts.calls k1 _ _ t371 t377 t379 t381 false _ ?side1 ?side2 A22.out).mono ?_); (case side1 => repeat (first | exact (Kd.N_reads' HO_376000.out).2.2 | (with_reducible refine Kd.C_alloc ?_ _) | (with_reducible refine Kd.C_drewN ?_ _) | (with_reducible refine Kd.C_drew ?_))); (case side2 => exact (Kd.N_reads' HO_376000.out).2.1); rintro e w55 ⟨rfl, hb⟩; refine ⟨_, rfl, ?_⟩; have n0_ := Aside0.mk (Kd.N_below (by (with_reducible repeat (first | apply Kd.N_alloc | apply Kd.N_drewN | apply Kd.N_drew)); exact HO_376000.out) hb); have n1_ := Aside0.mk (blk_below (g := gb375) (o := .cells #[.slice Ao7 t371.length co7] 27 (0, 0)) (by (with_reducible repeat (first | refine blk_drewN ?_ _ | refine blk_drew ?_ | refine blk_alloc ?_ _)); exact BK375.out) hb); have n2_ := Aside0.mk (IsS78.below (by repeat (first | (with_reducible first | exact HI370.out | apply IsS78.alloc | apply IsS78.drewN | apply IsS78.drew | apply IsS78.set_1 | refine IsS78.far ?_ NB370_375.out _) | exact HI370.out)) hb); have n3_ := Aside0.mk (below_step (by repeat (first | (with_reducible first | exact HB.out | apply below_alloc | apply pw_below_drewN | apply below_drew1 | refine below_set ?_ (IsS78.ge HI370.out) | refine below_set ?_ GE375.out) | exact HB.out)) hb); clear HO_376000; clear BK375; clear HI370; clear HB; have HO_376000 := n0_; have BK375 := n1_; have HI370 := n2_; have HB := n3_; clear n0_ n1_ n2_ n3_; (try clear hb); (try clear hb2); (try clear hk); (try clear hi); have hcz56_0 : w55.cell? ⟨gb375, 0, none⟩ = some (.slice Ao7 t371.length co7) := (blk_cell BK375.out 0).trans rfl; have hfz56_0 := blk_frozen BK375.out 0) | (go_at_call 12; (with_reducible refine (federated_Confirms.calls k1 _ _ t371 t377 t381 true _ ?side1 ?side2 A50.out).mono ?_); (case side1 => repeat (first | exact (Kd.N_reads' HO_376000.out).2.2 | (with_reducible refine Kd.C_alloc ?_ _) | (with_reducible refine Kd.C_drewN ?_ _) | (with_reducible refine Kd.C_drew ?_))); (case side2 => exact (Kd.N_reads' HO_376000.out).2.1); rintro e w57 ⟨rfl, hb⟩; have n0_ := Aside0.mk (Kd.N_below (by (with_reducible repeat (first | apply Kd.N_alloc | apply Kd.N_drewN | apply Kd.N_drew)); exact HO_376000.out) hb); have n1_ := Aside0.mk (blk_below (g := gb375) (o := .cells #[.slice Ao7 t371.length co7] 27 (0, 0)) (by (with_reducible repeat (first | refine blk_drewN ?_ _ | refine blk_drew ?_ | refine blk_alloc ?_ _)); exact BK375.out) hb); have n2_ := Aside0.mk (IsS78.below (by repeat (first | (with_reducible first | exact HI370.out | apply IsS78.alloc | apply IsS78.drewN | apply IsS78.drew | apply IsS78.set_1 | refine IsS78.far ?_ NB370_375.out _) | exact HI370.out)) hb); have n3_ := Aside0.mk (below_step (by repeat (first | (with_reducible first | exact HB.out | apply below_alloc | apply pw_below_drewN | apply below_drew1 | refine below_set ?_ (IsS78.ge HI370.out) | refine below_set ?_ GE375.out) | exact HB.out)) hb); clear HO_376000; clear BK375; clear HI370; clear HB; have HO_376000 := n0_; have BK375 := n1_; have HI370 := n2_; have HB := n3_; clear n0_ n1_ n2_ n3_; (try clear hb); (try clear hb2); (try clear hk); (try clear hi); have hcz58_0 : w57.cell? ⟨gb375, 0, none⟩ = some (.slice Ao7 t371.length co7) := (blk_cell BK375.out 0).trans rfl; have hfz58_0 := blk_frozen BK375.out 0) | (go_at_call 12; (with_reducible refine (federated_Confirms.calls k1 _ _ t371 t377 (Go.bits .or .i64 t381 t385) t392 _ ?side1 ?side2 A52.out).mono ?_); (case side1 => repeat (first | exact (Kd.N_reads' HO_376000.out).2.2 | (with_reducible refine Kd.C_alloc ?_ _) | (with_reducible refine Kd.C_drewN ?_ _) | (with_reducible refine Kd.C_drew ?_))); (case side2 => exact (Kd.N_reads' HO_376000.out).2.1); rintro e w59 ⟨rfl, hb⟩; have n0_ := Aside0.mk (Kd.N_below (by (with_reducible repeat (first | apply Kd.N_alloc | apply Kd.N_drewN | apply Kd.N_drew)); exact HO_376000.out) hb); have n1_ := Aside0.mk (blk_below (g := gb375) (o := .cells #[.slice Ao7 t371.length co7] 27 (0, 0)) (by (with_reducible repeat (first | refine blk_drewN ?_ _ | refine blk_drew ?_ | refine blk_alloc ?_ _)); exact BK375.out) hb); have n2_ := Aside0.mk (IsS78.below (by repeat (first | (with_reducible first | exact HI370.out | apply IsS78.alloc | apply IsS78.drewN | apply IsS78.drew | apply IsS78.set_1 | refine IsS78.far ?_ NB370_375.out _) | exact HI370.out)) hb); have n3_ := Aside0.mk (below_step (by repeat (first | (with_reducible first | exact HB.out | apply below_alloc | apply pw_below_drewN | apply below_drew1 | refine below_set ?_ (IsS78.ge HI370.out) | refine below_set ?_ GE375.out) | exact HB.out)) hb); clear HO_376000; clear BK375; clear HI370; clear HB; have HO_376000 := n0_; have BK375 := n1_; have HI370 := n2_; have HB := n3_; clear n0_ n1_ n2_ n3_; (try clear hb); (try clear hb2); (try clear hk); (try clear hi)))
              go_meet
              case rel => exact ⟨_, (!t392), (by first | rfl | (simp; done) | (simp [*]; done) | (refine congrArg (Value.int .i64) ?_; unfold wrap64; omega)), H', ⟨by have := HK1.out; first | omega | exact Nat.le_refl _⟩, ⟨by (with_reducible repeat (first | apply Kd.N_alloc | apply Kd.N_drewN | apply Kd.N_drew)); exact HO_376000.out⟩, ⟨by (with_reducible repeat (first | refine blk_drewN ?_ _ | refine blk_drew ?_ | refine blk_alloc ?_ _)); exact BK375.out⟩, ⟨by repeat (first | (with_reducible first | exact HI370.out | apply IsS78.alloc | apply IsS78.drewN | apply IsS78.drew | apply IsS78.set_1 | refine IsS78.far ?_ NB370_375.out _) | exact HI370.out)⟩, ⟨by repeat (first | (with_reducible first | exact HB.out | apply below_alloc | apply pw_below_drewN | apply below_drew1 | refine below_set ?_ (IsS78.ge HI370.out) | refine below_set ?_ GE375.out) | exact HB.out)⟩⟩
            · replace c51 := Bool.eq_false_iff.mpr c51
              subst c51
              have H1 : (trustquorumlaw18_FederatedGrows.j1 k1 x5_1 t377 t381 false t368 t386 t371) = some r := by rw [if_neg (show ¬ (false = true) by decide)] at H; exact H
              clear H
              have H := H1
              clear H1
              have H' := Aside0.mk H
              clear H
              have hnb60 := NB375_370.out
              have hnc60 := NB370_375.out
              have hcz61_0 : w21.cell? ⟨gb375, 0, none⟩ = some (.slice Ao7 t371.length co7) := (blk_cell BK375.out 0).trans rfl
              have hfz61_0 := blk_frozen BK375.out 0
              go_wp2_with (first | ((with_reducible refine gate_callee (f := 11) rfl ?_); refine goesL_ (some 37) rfl rfl Try.func11 (by kernel_rfl) rfl #[.agg #[.slice Ao7 t371.length co7], .int .i64 t377, .int .i64 t379, .int .i64 t381] rfl (by (try simp only [List.map_toArray, List.map_cons, List.map_nil]); first | done | rfl | (simp only [List.length_drop, List.length_take]; rfl)) ?_; (with_reducible refine (federated_Accepts.calls k1 _ _ t371 t377 t379 t381 false _ ?side1 ?side2 A22.out).mono ?_); (case side1 => repeat (first | exact (Kd.N_reads' HO_376000.out).2.2 | (with_reducible refine Kd.C_alloc ?_ _) | (with_reducible refine Kd.C_drewN ?_ _) | (with_reducible refine Kd.C_drew ?_))); (case side2 => exact (Kd.N_reads' HO_376000.out).2.1); rintro e w62 ⟨rfl, hb⟩; refine ⟨_, rfl, ?_⟩; have n0_ := Aside0.mk (Kd.N_below (by (with_reducible repeat (first | apply Kd.N_alloc | apply Kd.N_drewN | apply Kd.N_drew)); exact HO_376000.out) hb); have n1_ := Aside0.mk (blk_below (g := gb375) (o := .cells #[.slice Ao7 t371.length co7] 27 (0, 0)) (by (with_reducible repeat (first | refine blk_drewN ?_ _ | refine blk_drew ?_ | refine blk_alloc ?_ _)); exact BK375.out) hb); have n2_ := Aside0.mk (IsS78.below (by repeat (first | (with_reducible first | exact HI370.out | apply IsS78.alloc | apply IsS78.drewN | apply IsS78.drew | apply IsS78.set_1 | refine IsS78.far ?_ NB370_375.out _) | exact HI370.out)) hb); have n3_ := Aside0.mk (below_step (by repeat (first | (with_reducible first | exact HB.out | apply below_alloc | apply pw_below_drewN | apply below_drew1 | refine below_set ?_ (IsS78.ge HI370.out) | refine below_set ?_ GE375.out) | exact HB.out)) hb); clear HO_376000; clear BK375; clear HI370; clear HB; have HO_376000 := n0_; have BK375 := n1_; have HI370 := n2_; have HB := n3_; clear n0_ n1_ n2_ n3_; (try clear hb); (try clear hb2); (try clear hk); (try clear hi); have hcz63_0 : w62.cell? ⟨gb375, 0, none⟩ = some (.slice Ao7 t371.length co7) := (blk_cell BK375.out 0).trans rfl; have hfz63_0 := blk_frozen BK375.out 0) | (go_at_call 12; (with_reducible refine (federated_Confirms.calls k1 _ _ t371 t377 t381 false _ ?side1 ?side2 A50.out).mono ?_); (case side1 => repeat (first | exact (Kd.N_reads' HO_376000.out).2.2 | (with_reducible refine Kd.C_alloc ?_ _) | (with_reducible refine Kd.C_drewN ?_ _) | (with_reducible refine Kd.C_drew ?_))); (case side2 => exact (Kd.N_reads' HO_376000.out).2.1); rintro e w64 ⟨rfl, hb⟩; have n0_ := Aside0.mk (Kd.N_below (by (with_reducible repeat (first | apply Kd.N_alloc | apply Kd.N_drewN | apply Kd.N_drew)); exact HO_376000.out) hb); have n1_ := Aside0.mk (blk_below (g := gb375) (o := .cells #[.slice Ao7 t371.length co7] 27 (0, 0)) (by (with_reducible repeat (first | refine blk_drewN ?_ _ | refine blk_drew ?_ | refine blk_alloc ?_ _)); exact BK375.out) hb); have n2_ := Aside0.mk (IsS78.below (by repeat (first | (with_reducible first | exact HI370.out | apply IsS78.alloc | apply IsS78.drewN | apply IsS78.drew | apply IsS78.set_1 | refine IsS78.far ?_ NB370_375.out _) | exact HI370.out)) hb); have n3_ := Aside0.mk (below_step (by repeat (first | (with_reducible first | exact HB.out | apply below_alloc | apply pw_below_drewN | apply below_drew1 | refine below_set ?_ (IsS78.ge HI370.out) | refine below_set ?_ GE375.out) | exact HB.out)) hb); clear HO_376000; clear BK375; clear HI370; clear HB; have HO_376000 := n0_; have BK375 := n1_; have HI370 := n2_; have HB := n3_; clear n0_ n1_ n2_ n3_; (try clear hb); (try clear hb2); (try clear hk); (try clear hi)))
              go_meet
              case rel => exact ⟨_, (false), (by first | rfl | (simp; done) | (simp [*]; done) | (refine congrArg (Value.int .i64) ?_; unfold wrap64; omega)), H', ⟨by have := HK1.out; first | omega | exact Nat.le_refl _⟩, ⟨by (with_reducible repeat (first | apply Kd.N_alloc | apply Kd.N_drewN | apply Kd.N_drew)); exact HO_376000.out⟩, ⟨by (with_reducible repeat (first | refine blk_drewN ?_ _ | refine blk_drew ?_ | refine blk_alloc ?_ _)); exact BK375.out⟩, ⟨by repeat (first | (with_reducible first | exact HI370.out | apply IsS78.alloc | apply IsS78.drewN | apply IsS78.drew | apply IsS78.set_1 | refine IsS78.far ?_ NB370_375.out _) | exact HI370.out)⟩, ⟨by repeat (first | (with_reducible first | exact HB.out | apply below_alloc | apply pw_below_drewN | apply below_drew1 | refine below_set ?_ (IsS78.ge HI370.out) | refine below_set ?_ GE375.out) | exact HB.out)⟩⟩
        case rest =>
          clear HC16
          try clear c1
          try clear c2
          try clear p2
          try clear c3
          try clear c4
          try clear c5
          try clear c6
          try clear p6
          try clear c8
          try clear c9
          try clear c10
          try clear c10b0
          try clear c11
          try clear c23
          try clear c25
          try clear c27
          try clear c29
          try clear c38
          try clear c45
          try clear c51
          try clear c53
          try clear c60
          try clear p64
          try clear hcz30_0
          try clear hcz32_0
          try clear hcz34_0
          try clear hcz36_0
          try clear hcz39_0
          try clear hcz41_0
          try clear hcz43_0
          try clear hcz46_0
          try clear hcz48_0
          try clear hcz54_0
          try clear hcz56_0
          try clear hcz58_0
          try clear hcz61_0
          try clear hcz63_0
          try clear hcz9_0
          try clear hfz30_0
          try clear hfz32_0
          try clear hfz34_0
          try clear hfz36_0
          try clear hfz39_0
          try clear hfz41_0
          try clear hfz43_0
          try clear hfz46_0
          try clear hfz48_0
          try clear hfz54_0
          try clear hfz56_0
          try clear hfz58_0
          try clear hfz61_0
          try clear hfz63_0
          try clear hfz9_0
          try clear p2
          try clear p6
          obtain ⟨kq, x58_15, rfl, HA, HJ15, HO_376000, BK375, HI370, HB⟩ := hcut
          cases kq with
          | zero => exact absurd HA.out (by simp [trustquorumlaw18_FederatedGrows.j1])
          | succ kj15 =>
            have H := HA.out
            clear HA
            simp only [trustquorumlaw18_FederatedGrows.j1] at H
            by_cases c65 : x58_15 = true
            · subst c65
              have H1 : (some false) = some r := by rw [if_pos rfl] at H; exact H
              clear H
              have H := H1
              clear H1
              exact absurd ((Option.some.inj H).trans HRT.out) (by decide)
            · replace c65 := Bool.eq_false_iff.mpr c65
              subst c65
              have H1 : ((federated_Confirms.f kj15 t371 t377 t381).bind fun t393 => (if t393 = true then ((federated_Accepts.f kj15 t371 t377 0 t381).bind fun t394 => (if t394 = true then ((federated_Accepts.f kj15 t371 t377 t381 0).bind fun t395 => (if t395 = true then (trustquorumlaw18_FederatedGrows.l0 kj15 (wrap64 (x5_1 + 1)) t368 t386 t371) else (some false))) else (some false))) else (trustquorumlaw18_FederatedGrows.l0 kj15 (wrap64 (x5_1 + 1)) t368 t386 t371))) = some r := by rw [if_neg (show ¬ (false = true) by decide)] at H; exact H
              clear H
              have H := H1
              clear H1
              replace H := Option.bind_eq_some_iff.mp H
              obtain ⟨t393, A660, H⟩ := H
              replace H : (if t393 = true then ((federated_Accepts.f kj15 t371 t377 0 t381).bind fun t394 => (if t394 = true then ((federated_Accepts.f kj15 t371 t377 t381 0).bind fun t395 => (if t395 = true then (trustquorumlaw18_FederatedGrows.l0 kj15 (wrap64 (x5_1 + 1)) t368 t386 t371) else (some false))) else (some false))) else (trustquorumlaw18_FederatedGrows.l0 kj15 (wrap64 (x5_1 + 1)) t368 t386 t371)) = some r := H
              have A66 := Aside0.mk A660
              clear A660
              by_cases c67 : t393 = true
              · subst c67
                have H1 : ((federated_Accepts.f kj15 t371 t377 0 t381).bind fun t394 => (if t394 = true then ((federated_Accepts.f kj15 t371 t377 t381 0).bind fun t395 => (if t395 = true then (trustquorumlaw18_FederatedGrows.l0 kj15 (wrap64 (x5_1 + 1)) t368 t386 t371) else (some false))) else (some false))) = some r := by rw [if_pos rfl] at H; exact H
                clear H
                have H := H1
                clear H1
                replace H := Option.bind_eq_some_iff.mp H
                obtain ⟨t394, A680, H⟩ := H
                replace H : (if t394 = true then ((federated_Accepts.f kj15 t371 t377 t381 0).bind fun t395 => (if t395 = true then (trustquorumlaw18_FederatedGrows.l0 kj15 (wrap64 (x5_1 + 1)) t368 t386 t371) else (some false))) else (some false)) = some r := H
                have A68 := Aside0.mk A680
                clear A680
                by_cases c69 : t394 = true
                · subst c69
                  have H1 : ((federated_Accepts.f kj15 t371 t377 t381 0).bind fun t395 => (if t395 = true then (trustquorumlaw18_FederatedGrows.l0 kj15 (wrap64 (x5_1 + 1)) t368 t386 t371) else (some false))) = some r := by rw [if_pos rfl] at H; exact H
                  clear H
                  have H := H1
                  clear H1
                  replace H := Option.bind_eq_some_iff.mp H
                  obtain ⟨t395, A700, H⟩ := H
                  replace H : (if t395 = true then (trustquorumlaw18_FederatedGrows.l0 kj15 (wrap64 (x5_1 + 1)) t368 t386 t371) else (some false)) = some r := H
                  have A70 := Aside0.mk A700
                  clear A700
                  by_cases c71 : t395 = true
                  · subst c71
                    have H1 : (trustquorumlaw18_FederatedGrows.l0 kj15 (wrap64 (x5_1 + 1)) t368 t386 t371) = some r := by rw [if_pos rfl] at H; exact H
                    clear H
                    have H := H1
                    clear H1
                    have H' := Aside0.mk H
                    clear H
                    have hnb72 := NB375_370.out
                    have hnc72 := NB370_375.out
                    have hcz73_0 : wc.cell? ⟨gb375, 0, none⟩ = some (.slice Ao7 t371.length co7) := (blk_cell BK375.out 0).trans rfl
                    have hfz73_0 := blk_frozen BK375.out 0
                    go_wp2_with (first | ((with_reducible refine gate_callee (f := 12) rfl ?_); refine goesL_ (some 62) rfl rfl Try.func12 (by kernel_rfl) rfl #[.agg #[.slice Ao7 t371.length co7], .int .i64 t377, .int .i64 t381] rfl (by (try simp only [List.map_toArray, List.map_cons, List.map_nil]); first | done | rfl | (simp only [List.length_drop, List.length_take]; rfl)) ?_; (with_reducible refine (federated_Confirms.calls kj15 _ _ t371 t377 t381 true _ ?side1 ?side2 A66.out).mono ?_); (case side1 => repeat (first | exact (Kd.N_reads' HO_376000.out).2.2 | (with_reducible refine Kd.C_alloc ?_ _) | (with_reducible refine Kd.C_drewN ?_ _) | (with_reducible refine Kd.C_drew ?_))); (case side2 => exact (Kd.N_reads' HO_376000.out).2.1); rintro e w74 ⟨rfl, hb⟩; refine ⟨_, rfl, ?_⟩; have n0_ := Aside0.mk (Kd.N_below (by (with_reducible repeat (first | apply Kd.N_alloc | apply Kd.N_drewN | apply Kd.N_drew)); exact HO_376000.out) hb); have n1_ := Aside0.mk (blk_below (g := gb375) (o := .cells #[.slice Ao7 t371.length co7] 27 (0, 0)) (by (with_reducible repeat (first | refine blk_drewN ?_ _ | refine blk_drew ?_ | refine blk_alloc ?_ _)); exact BK375.out) hb); have n2_ := Aside0.mk (IsS78.below (by repeat (first | (with_reducible first | exact HI370.out | apply IsS78.alloc | apply IsS78.drewN | apply IsS78.drew | apply IsS78.set_1 | refine IsS78.far ?_ NB370_375.out _) | exact HI370.out)) hb); have n3_ := Aside0.mk (below_step (by repeat (first | (with_reducible first | exact HB.out | apply below_alloc | apply pw_below_drewN | apply below_drew1 | refine below_set ?_ (IsS78.ge HI370.out) | refine below_set ?_ GE375.out) | exact HB.out)) hb); clear HO_376000; clear BK375; clear HI370; clear HB; have HO_376000 := n0_; have BK375 := n1_; have HI370 := n2_; have HB := n3_; clear n0_ n1_ n2_ n3_; (try clear hb); (try clear hb2); (try clear hk); (try clear hi); have hcz75_0 : w74.cell? ⟨gb375, 0, none⟩ = some (.slice Ao7 t371.length co7) := (blk_cell BK375.out 0).trans rfl; have hfz75_0 := blk_frozen BK375.out 0) | (go_at_call 11; (with_reducible refine (federated_Accepts.calls kj15 _ _ t371 t377 0 t381 true _ ?side1 ?side2 A68.out).mono ?_); (case side1 => repeat (first | exact (Kd.N_reads' HO_376000.out).2.2 | (with_reducible refine Kd.C_alloc ?_ _) | (with_reducible refine Kd.C_drewN ?_ _) | (with_reducible refine Kd.C_drew ?_))); (case side2 => exact (Kd.N_reads' HO_376000.out).2.1); rintro e w76 ⟨rfl, hb⟩; have n0_ := Aside0.mk (Kd.N_below (by (with_reducible repeat (first | apply Kd.N_alloc | apply Kd.N_drewN | apply Kd.N_drew)); exact HO_376000.out) hb); have n1_ := Aside0.mk (blk_below (g := gb375) (o := .cells #[.slice Ao7 t371.length co7] 27 (0, 0)) (by (with_reducible repeat (first | refine blk_drewN ?_ _ | refine blk_drew ?_ | refine blk_alloc ?_ _)); exact BK375.out) hb); have n2_ := Aside0.mk (IsS78.below (by repeat (first | (with_reducible first | exact HI370.out | apply IsS78.alloc | apply IsS78.drewN | apply IsS78.drew | apply IsS78.set_1 | refine IsS78.far ?_ NB370_375.out _) | exact HI370.out)) hb); have n3_ := Aside0.mk (below_step (by repeat (first | (with_reducible first | exact HB.out | apply below_alloc | apply pw_below_drewN | apply below_drew1 | refine below_set ?_ (IsS78.ge HI370.out) | refine below_set ?_ GE375.out) | exact HB.out)) hb); clear HO_376000; clear BK375; clear HI370; clear HB; have HO_376000 := n0_; have BK375 := n1_; have HI370 := n2_; have HB := n3_; clear n0_ n1_ n2_ n3_; (try clear hb); (try clear hb2); (try clear hk); (try clear hi); have hcz77_0 : w76.cell? ⟨gb375, 0, none⟩ = some (.slice Ao7 t371.length co7) := (blk_cell BK375.out 0).trans rfl; have hfz77_0 := blk_frozen BK375.out 0) | (go_at_call 11; (with_reducible refine (federated_Accepts.calls kj15 _ _ t371 t377 t381 0 true _ ?side1 ?side2 A70.out).mono ?_); (case side1 => repeat (first | exact (Kd.N_reads' HO_376000.out).2.2 | (with_reducible refine Kd.C_alloc ?_ _) | (with_reducible refine Kd.C_drewN ?_ _) | (with_reducible refine Kd.C_drew ?_))); (case side2 => exact (Kd.N_reads' HO_376000.out).2.1); rintro e w78 ⟨rfl, hb⟩; have n0_ := Aside0.mk (Kd.N_below (by (with_reducible repeat (first | apply Kd.N_alloc | apply Kd.N_drewN | apply Kd.N_drew)); exact HO_376000.out) hb); have n1_ := Aside0.mk (blk_below (g := gb375) (o := .cells #[.slice Ao7 t371.length co7] 27 (0, 0)) (by (with_reducible repeat (first | refine blk_drewN ?_ _ | refine blk_drew ?_ | refine blk_alloc ?_ _)); exact BK375.out) hb); have n2_ := Aside0.mk (IsS78.below (by repeat (first | (with_reducible first | exact HI370.out | apply IsS78.alloc | apply IsS78.drewN | apply IsS78.drew | apply IsS78.set_1 | refine IsS78.far ?_ NB370_375.out _) | exact HI370.out)) hb); have n3_ := Aside0.mk (below_step (by repeat (first | (with_reducible first | exact HB.out | apply below_alloc | apply pw_below_drewN | apply below_drew1 | refine below_set ?_ (IsS78.ge HI370.out) | refine below_set ?_ GE375.out) | exact HB.out)) hb); clear HO_376000; clear BK375; clear HI370; clear HB; have HO_376000 := n0_; have BK375 := n1_; have HI370 := n2_; have HB := n3_; clear n0_ n1_ n2_ n3_; (try clear hb); (try clear hb2); (try clear hk); (try clear hi)))
                    go_roundg kj15
                    case measure => have := HK1.out; have := HJ15.out; omega
                    case rel => exact ⟨(wrap64 (x5_1 + 1)), (t386), (by first | rfl | (simp; done) | (simp [*]; done) | (refine congrArg (Value.int .i64) ?_; unfold wrap64; omega)), H', ⟨by have := HK1.out; have := HJ15.out; omega⟩, ⟨by (with_reducible repeat (first | apply Kd.N_alloc | apply Kd.N_drewN | apply Kd.N_drew)); exact HO_376000.out⟩, ⟨by (with_reducible repeat (first | refine blk_drewN ?_ _ | refine blk_drew ?_ | refine blk_alloc ?_ _)); exact BK375.out⟩, ⟨by repeat (first | (with_reducible first | exact HI370.out | apply IsS78.alloc | apply IsS78.drewN | apply IsS78.drew | apply IsS78.set_1 | refine IsS78.far ?_ NB370_375.out _) | exact HI370.out)⟩, ⟨by repeat (first | (with_reducible first | exact HB.out | apply below_alloc | apply pw_below_drewN | apply below_drew1 | refine below_set ?_ (IsS78.ge HI370.out) | refine below_set ?_ GE375.out) | exact HB.out)⟩⟩
                  · replace c71 := Bool.eq_false_iff.mpr c71
                    subst c71
                    have H1 : (some false) = some r := by rw [if_neg (show ¬ (false = true) by decide)] at H; exact H
                    clear H
                    have H := H1
                    clear H1
                    exact absurd ((Option.some.inj H).trans HRT.out) (by decide)
                · replace c69 := Bool.eq_false_iff.mpr c69
                  subst c69
                  have H1 : (some false) = some r := by rw [if_neg (show ¬ (false = true) by decide)] at H; exact H
                  clear H
                  have H := H1
                  clear H1
                  exact absurd ((Option.some.inj H).trans HRT.out) (by decide)
              · replace c67 := Bool.eq_false_iff.mpr c67
                subst c67
                have H1 : (trustquorumlaw18_FederatedGrows.l0 kj15 (wrap64 (x5_1 + 1)) t368 t386 t371) = some r := by rw [if_neg (show ¬ (false = true) by decide)] at H; exact H
                clear H
                have H := H1
                clear H1
                have H' := Aside0.mk H
                clear H
                have hnb79 := NB375_370.out
                have hnc79 := NB370_375.out
                have hcz80_0 : wc.cell? ⟨gb375, 0, none⟩ = some (.slice Ao7 t371.length co7) := (blk_cell BK375.out 0).trans rfl
                have hfz80_0 := blk_frozen BK375.out 0
                go_wp2_with (first | ((with_reducible refine gate_callee (f := 12) rfl ?_); refine goesL_ (some 62) rfl rfl Try.func12 (by kernel_rfl) rfl #[.agg #[.slice Ao7 t371.length co7], .int .i64 t377, .int .i64 t381] rfl (by (try simp only [List.map_toArray, List.map_cons, List.map_nil]); first | done | rfl | (simp only [List.length_drop, List.length_take]; rfl)) ?_; (with_reducible refine (federated_Confirms.calls kj15 _ _ t371 t377 t381 false _ ?side1 ?side2 A66.out).mono ?_); (case side1 => repeat (first | exact (Kd.N_reads' HO_376000.out).2.2 | (with_reducible refine Kd.C_alloc ?_ _) | (with_reducible refine Kd.C_drewN ?_ _) | (with_reducible refine Kd.C_drew ?_))); (case side2 => exact (Kd.N_reads' HO_376000.out).2.1); rintro e w81 ⟨rfl, hb⟩; refine ⟨_, rfl, ?_⟩; have n0_ := Aside0.mk (Kd.N_below (by (with_reducible repeat (first | apply Kd.N_alloc | apply Kd.N_drewN | apply Kd.N_drew)); exact HO_376000.out) hb); have n1_ := Aside0.mk (blk_below (g := gb375) (o := .cells #[.slice Ao7 t371.length co7] 27 (0, 0)) (by (with_reducible repeat (first | refine blk_drewN ?_ _ | refine blk_drew ?_ | refine blk_alloc ?_ _)); exact BK375.out) hb); have n2_ := Aside0.mk (IsS78.below (by repeat (first | (with_reducible first | exact HI370.out | apply IsS78.alloc | apply IsS78.drewN | apply IsS78.drew | apply IsS78.set_1 | refine IsS78.far ?_ NB370_375.out _) | exact HI370.out)) hb); have n3_ := Aside0.mk (below_step (by repeat (first | (with_reducible first | exact HB.out | apply below_alloc | apply pw_below_drewN | apply below_drew1 | refine below_set ?_ (IsS78.ge HI370.out) | refine below_set ?_ GE375.out) | exact HB.out)) hb); clear HO_376000; clear BK375; clear HI370; clear HB; have HO_376000 := n0_; have BK375 := n1_; have HI370 := n2_; have HB := n3_; clear n0_ n1_ n2_ n3_; (try clear hb); (try clear hb2); (try clear hk); (try clear hi)))
                go_roundg kj15
                case measure => have := HK1.out; have := HJ15.out; omega
                case rel => exact ⟨(wrap64 (x5_1 + 1)), (t386), (by first | rfl | (simp; done) | (simp [*]; done) | (refine congrArg (Value.int .i64) ?_; unfold wrap64; omega)), H', ⟨by have := HK1.out; have := HJ15.out; omega⟩, ⟨by (with_reducible repeat (first | apply Kd.N_alloc | apply Kd.N_drewN | apply Kd.N_drew)); exact HO_376000.out⟩, ⟨by (with_reducible repeat (first | refine blk_drewN ?_ _ | refine blk_drew ?_ | refine blk_alloc ?_ _)); exact BK375.out⟩, ⟨by repeat (first | (with_reducible first | exact HI370.out | apply IsS78.alloc | apply IsS78.drewN | apply IsS78.drew | apply IsS78.set_1 | refine IsS78.far ?_ NB370_375.out _) | exact HI370.out)⟩, ⟨by repeat (first | (with_reducible first | exact HB.out | apply below_alloc | apply pw_below_drewN | apply below_drew1 | refine below_set ?_ (IsS78.ge HI370.out) | refine below_set ?_ GE375.out) | exact HB.out)⟩⟩
      · rw [if_neg c10] at H
        have c10b0 : decide (x5_1 < 12) = false := decide_eq_false c10
        clear c10
        replace H := Option.bind_eq_some_iff.mp H
        obtain ⟨t376, A820, H⟩ := H
        replace H : (some t376) = some r := H
        have A82 := Aside0.mk A820
        clear A820
        obtain rfl := Option.some.inj H
        go_wp2_with (first | ((with_reducible refine gate_callee (f := 13) rfl ?_); refine goesL_ (some 77) rfl rfl Try.func13 (by kernel_rfl) rfl #[] rfl (by (try simp only [List.map_toArray, List.map_cons, List.map_nil]); first | done | rfl | (simp only [List.length_drop, List.length_take]; rfl)) ?_; (with_reducible refine (trustquorumlaw18_awake.calls k1  t376 _ A82.out).mono ?_); rintro e w83 ⟨rfl, hb⟩; refine ⟨_, rfl, ?_⟩; have n0_ := Aside0.mk (Kd.N_below (by (with_reducible repeat (first | apply Kd.N_alloc | apply Kd.N_drewN | apply Kd.N_drew)); exact HO_376000.out) hb); have n1_ := Aside0.mk (blk_below (g := gb375) (o := .cells #[.slice Ao7 t371.length co7] 27 (0, 0)) (by (with_reducible repeat (first | refine blk_drewN ?_ _ | refine blk_drew ?_ | refine blk_alloc ?_ _)); exact BK375.out) hb); have n2_ := Aside0.mk (IsS78.below (by repeat (first | (with_reducible first | exact HI370.out | apply IsS78.alloc | apply IsS78.drewN | apply IsS78.drew | apply IsS78.set_1 | refine IsS78.far ?_ NB370_375.out _) | exact HI370.out)) hb); have n3_ := Aside0.mk (below_step (by repeat (first | (with_reducible first | exact HB.out | apply below_alloc | apply pw_below_drewN | apply below_drew1 | refine below_set ?_ (IsS78.ge HI370.out) | refine below_set ?_ GE375.out) | exact HB.out)) hb); clear HO_376000; clear BK375; clear HI370; clear HB; have HO_376000 := n0_; have BK375 := n1_; have HI370 := n2_; have HB := n3_; clear n0_ n1_ n2_ n3_; (try clear hb); (try clear hb2); (try clear hk); (try clear hi)))
        go_ret
        exact ⟨by first | rfl | (simp [errW_none, errW_some] <;> rfl) | (simp [*, errW_none, errW_some] <;> rfl), by repeat (first | (with_reducible first | exact HB.out | apply below_alloc | apply pw_below_drewN | apply below_drew1 | refine below_set ?_ (IsS78.ge HI370.out) | refine below_set ?_ GE375.out) | exact HB.out)⟩

/-- THE ONE PURE STATEMENT of trustquorumlaw18_FederatedGrows: yours. -/
def trustquorumlaw18_FederatedGrows.Pure : Prop := ∀ (l0 : List Int), l0.length ≤ maxLen → l0.length * 8 ≤ 140737488351232 → (∀ x ∈ l0, (Lit.int .i64 x).wf = true) → ∃ k, trustquorumlaw18_FederatedGrows.f k l0 = some true
theorem trustquorumlaw18_FederatedGrows.walk (P : trustquorumlaw18_FederatedGrows.Pure) (a0 : Option Addr) (len0 cap0 : Nat) (z0 : List Int) (w : World) (w0 : (a0 = none ∧ len0 = 0 ∧ cap0 = 0 ∧ z0 = []) ∨ ∃ x, a0 = some x ∧ len0 ≤ cap0 ∧ cap0 ≤ maxLen ∧ z0.length = cap0 ∧ (∀ i, i < z0.length → w.cell? (x.add i) = some (.int .i64 (z0.getD i 0))) ∧ ∀ n ∈ z0, (Lit.int .i64 n).wf = true) (y0 : len0 * 8 ≤ 140737488351232) :
    Calls Try.prog 3 #[.slice a0 len0 cap0] w fun e w' => e = .returned (.bool true) ∧ Below w.heap.size w w' := by
  obtain ⟨l0, rfl, hr0, hm0, hw0, hc0⟩ := ReadsInt.ofRowC w0
  obtain ⟨k, h⟩ := P l0 hm0 y0 hw0
  refine (trustquorumlaw18_FederatedGrows.calls k _ _ l0 true w (Kd.C_of_reads (d := (0 : Int)) (h1 := fun _ => rfl) hr0) hc0 ⟨rfl⟩ h).mono ?_
  rintro e w' ⟨rfl, hd⟩
  exact ⟨rfl, hd⟩

end Go.Proofs.Ytmeamdklonmahaa.QFederatedGrows
