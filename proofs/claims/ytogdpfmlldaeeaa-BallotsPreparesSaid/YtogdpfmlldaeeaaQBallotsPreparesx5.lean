/- Lean functions that answer as the Go functions do which the law reaches, and proofs that the Go code comes to exactly these answers. Conditions: those that each theorem names. -/
import Derived.Test.YtogdpfmlldaeeaaQBallotsPreparesx0
import Derived.Test.YtogdpfmlldaeeaaQBallotsPreparesx2
import Derived.Test.YtogdpfmlldaeeaaQBallotsPreparesx3
import Derived.Test.YtogdpfmlldaeeaaQBallotsPreparesx4
namespace Go.Proofs.Ytogdpfmlldaeeaa.QBallotsPrepares
open Go.RowKit Go.Proofs.YtogdpfmlldaeeaaW.PrintWords Go.Proofs.YtogdpfmlldaeeaaW.PrintLast Go.Proofs.YtogdpfmlldaeeaaW.PrintMore
attribute [local go_sem] max2_int min2_int max_two min_two max_three min_three max_four min_four   -- for this text's walks alone
set_option linter.unusedVariables false
set_option linter.unusedSimpArgs false

/-! ### trustquorumlaw23_BallotsPrepares: function 5 -/
mutual
def trustquorumlaw23_BallotsPrepares.j0 : Nat → Bool → Int → ByteArray → Int → ByteArray → Int → ByteArray → Option (Bool)
  | 0, _, _, _, _, _, _, _ => none
  | k + 1, x28, x194000, x194001, x195000, x195001, x196000, x196001 => if x28 = true then (trustquorumlaw23_BallotsPrepares.j1 k x194000 x194001 0 (⟨#[]⟩ : ByteArray) x196000 x196001) else (trustquorumlaw23_BallotsPrepares.j1 k x194000 x194001 x195000 x195001 x196000 x196001)
def trustquorumlaw23_BallotsPrepares.j1 : Nat → Int → ByteArray → Int → ByteArray → Int → ByteArray → Option (Bool)
  | 0, _, _, _, _, _, _ => none
  | k + 1, x194000, x194001, x195000, x195001, x196000, x196001 => trustquorumlaw23_BallotsPrepares.l0 k true 1 x194000 x194001 x195000 x195001 x196000 x196001
def trustquorumlaw23_BallotsPrepares.l0 : Nat → Bool → Int → Int → ByteArray → Int → ByteArray → Int → ByteArray → Option (Bool)
  | 0, _, _, _, _, _, _, _, _ => none
  | k + 1, x7, x8, x194000, x194001, x195000, x195001, x196000, x196001 => if x8 ≤ 7 then ((some (([(⟨#[97]⟩ : ByteArray), (⟨#[98]⟩ : ByteArray), (⟨#[99]⟩ : ByteArray), (⟨#[97, 97]⟩ : ByteArray)] : List ByteArray) : List ByteArray)).bind fun y201 => (trustquorumlaw23_BallotsPrepares.l1 k x7 x8 y201 (y201.length : Int) 0 x194000 x194001 x195000 x195001 x196000 x196001)) else ((ballots_Prepares.f k x194000 x194001 x195000 x195001 x196000 x196001).bind fun t198 => (if t198 = true then (if x7 = true then ((trustquorumlaw23_sane.f k).bind fun t199 => (some t199)) else (some false)) else ((trustquorumlaw23_sane.f k).bind fun t200 => (some t200))))
def trustquorumlaw23_BallotsPrepares.l1 : Nat → Bool → Int → List ByteArray → Int → Int → Int → ByteArray → Int → ByteArray → Int → ByteArray → Option (Bool)
  | 0, _, _, _, _, _, _, _, _, _, _, _ => none
  | k + 1, x7, x8, x34, x35, x36, x194000, x194001, x195000, x195001, x196000, x196001 => if x36 < x35 then (if 0 ≤ x36 then (if x36 < (x34.length : Int) then ((trustquorumref23_Less.f x8 (rdOf ByteArray.empty x34 x36) x196000 x196001).bind fun t206 => (if t206 = true then ((trustquorumref23_Compatible.f x8 (rdOf ByteArray.empty x34 x36) x196000 x196001).bind fun t207 => (if t207 = true then (trustquorumlaw23_BallotsPrepares.l1 k x7 x8 x34 x35 (wrap64 (x36 + 1)) x194000 x194001 x195000 x195001 x196000 x196001) else ((ballots_Aborts.f k x194000 x194001 x8 (rdOf ByteArray.empty x34 x36)).bind fun t208 => (if t208 = true then (trustquorumlaw23_BallotsPrepares.l1 k x7 x8 x34 x35 (wrap64 (x36 + 1)) x194000 x194001 x195000 x195001 x196000 x196001) else ((ballots_Aborts.f k x195000 x195001 x8 (rdOf ByteArray.empty x34 x36)).bind fun t209 => (if t209 = true then (trustquorumlaw23_BallotsPrepares.l1 k x7 x8 x34 x35 (wrap64 (x36 + 1)) x194000 x194001 x195000 x195001 x196000 x196001) else (trustquorumlaw23_BallotsPrepares.l1 k false x8 x34 x35 (wrap64 (x36 + 1)) x194000 x194001 x195000 x195001 x196000 x196001))))))) else (trustquorumlaw23_BallotsPrepares.l1 k x7 x8 x34 x35 (wrap64 (x36 + 1)) x194000 x194001 x195000 x195001 x196000 x196001))) else (none)) else (none)) else (trustquorumlaw23_BallotsPrepares.l0 k x7 (wrap64 (x8 + 1)) x194000 x194001 x195000 x195001 x196000 x196001)
end
def trustquorumlaw23_BallotsPrepares.f (k : Nat) (l0 : List Int) : Option (Bool) := (trustquorumplay_New.f l0).bind fun bt181 => ((trustquorumplay_Src_Low.f bt181.1 bt181.2).bind fun bt184 => ((trustquorumplay_Src_Low.f bt181.1 bt184.2.2).bind fun bt187 => ((trustquorumplay_Src_Low.f bt181.1 bt187.2.2).bind fun bt190 => ((ballots_Less.f k bt187.1 bt187.2.1 bt184.1 bt184.2.1).bind fun t196 => (if t196 = true then ((ballots_Compatible.f bt184.1 bt184.2.1 bt187.1 bt187.2.1).bind fun t197 => (trustquorumlaw23_BallotsPrepares.j0 k t197 bt184.1 bt184.2.1 bt187.1 bt187.2.1 bt190.1 bt190.2.1)) else (trustquorumlaw23_BallotsPrepares.j0 k true bt184.1 bt184.2.1 bt187.1 bt187.2.1 bt190.1 bt190.2.1))))))
theorem trustquorumlaw23_BallotsPrepares.mono_l : ∀ k, (∀ y0 y1 y2 y3 y4 y5 y6, LeO (trustquorumlaw23_BallotsPrepares.j0 k y0 y1 y2 y3 y4 y5 y6) (trustquorumlaw23_BallotsPrepares.j0 (k + 1) y0 y1 y2 y3 y4 y5 y6)) ∧ (∀ y0 y1 y2 y3 y4 y5, LeO (trustquorumlaw23_BallotsPrepares.j1 k y0 y1 y2 y3 y4 y5) (trustquorumlaw23_BallotsPrepares.j1 (k + 1) y0 y1 y2 y3 y4 y5)) ∧ (∀ y0 y1 y2 y3 y4 y5 y6 y7, LeO (trustquorumlaw23_BallotsPrepares.l0 k y0 y1 y2 y3 y4 y5 y6 y7) (trustquorumlaw23_BallotsPrepares.l0 (k + 1) y0 y1 y2 y3 y4 y5 y6 y7)) ∧ (∀ y0 y1 y2 y3 y4 y5 y6 y7 y8 y9 y10, LeO (trustquorumlaw23_BallotsPrepares.l1 k y0 y1 y2 y3 y4 y5 y6 y7 y8 y9 y10) (trustquorumlaw23_BallotsPrepares.l1 (k + 1) y0 y1 y2 y3 y4 y5 y6 y7 y8 y9 y10))
  | 0 => ⟨fun _ _ _ _ _ _ _ r h => by simp [trustquorumlaw23_BallotsPrepares.j0] at h, fun _ _ _ _ _ _ r h => by simp [trustquorumlaw23_BallotsPrepares.j1] at h, fun _ _ _ _ _ _ _ _ r h => by simp [trustquorumlaw23_BallotsPrepares.l0] at h, fun _ _ _ _ _ _ _ _ _ _ _ r h => by simp [trustquorumlaw23_BallotsPrepares.l1] at h⟩
  | k + 1 => by
    obtain ⟨ih0, ih1, ih2, ih3⟩ := trustquorumlaw23_BallotsPrepares.mono_l k
    refine ⟨?_, ?_, ?_, ?_⟩
    · intro y0 y1 y2 y3 y4 y5 y6
      unfold trustquorumlaw23_BallotsPrepares.j0
      repeat' first
      | (with_reducible exact ih0 _ _ _ _ _ _ _)
      | (with_reducible exact ih1 _ _ _ _ _ _)
      | (with_reducible exact ih2 _ _ _ _ _ _ _ _)
      | (with_reducible exact ih3 _ _ _ _ _ _ _ _ _ _ _)
      | (with_reducible exact ballots_Aborts.mono _ _ _ _ _)
      | (with_reducible exact ballots_Less.mono _ _ _ _ _)
      | (with_reducible exact ballots_Prepares.mono _ _ _ _ _ _ _)
      | (with_reducible exact trustquorumlaw23_sane.mono _)
      | (with_reducible exact LeO.refl _)
      | (with_reducible exact LeO.none _)
      | (with_reducible refine LeO.ite ?_ ?_)
      | (with_reducible refine LeO.bind ?_ (fun _ => ?_))
      | exact ih0 _ _ _ _ _ _ _
      | exact ih1 _ _ _ _ _ _
      | exact ih2 _ _ _ _ _ _ _ _
      | exact ih3 _ _ _ _ _ _ _ _ _ _ _
      | exact ballots_Aborts.mono _ _ _ _ _
      | exact ballots_Less.mono _ _ _ _ _
      | exact ballots_Prepares.mono _ _ _ _ _ _ _
      | exact trustquorumlaw23_sane.mono _
      | exact LeO.none _
      | refine LeO.ite ?_ ?_
      | refine LeO.bind ?_ (fun _ => ?_)
    · intro y0 y1 y2 y3 y4 y5
      unfold trustquorumlaw23_BallotsPrepares.j1
      repeat' first
      | (with_reducible exact ih0 _ _ _ _ _ _ _)
      | (with_reducible exact ih1 _ _ _ _ _ _)
      | (with_reducible exact ih2 _ _ _ _ _ _ _ _)
      | (with_reducible exact ih3 _ _ _ _ _ _ _ _ _ _ _)
      | (with_reducible exact ballots_Aborts.mono _ _ _ _ _)
      | (with_reducible exact ballots_Less.mono _ _ _ _ _)
      | (with_reducible exact ballots_Prepares.mono _ _ _ _ _ _ _)
      | (with_reducible exact trustquorumlaw23_sane.mono _)
      | (with_reducible exact LeO.refl _)
      | (with_reducible exact LeO.none _)
      | (with_reducible refine LeO.ite ?_ ?_)
      | (with_reducible refine LeO.bind ?_ (fun _ => ?_))
      | exact ih0 _ _ _ _ _ _ _
      | exact ih1 _ _ _ _ _ _
      | exact ih2 _ _ _ _ _ _ _ _
      | exact ih3 _ _ _ _ _ _ _ _ _ _ _
      | exact ballots_Aborts.mono _ _ _ _ _
      | exact ballots_Less.mono _ _ _ _ _
      | exact ballots_Prepares.mono _ _ _ _ _ _ _
      | exact trustquorumlaw23_sane.mono _
      | exact LeO.none _
      | refine LeO.ite ?_ ?_
      | refine LeO.bind ?_ (fun _ => ?_)
    · intro y0 y1 y2 y3 y4 y5 y6 y7
      unfold trustquorumlaw23_BallotsPrepares.l0
      repeat' first
      | (with_reducible exact ih0 _ _ _ _ _ _ _)
      | (with_reducible exact ih1 _ _ _ _ _ _)
      | (with_reducible exact ih2 _ _ _ _ _ _ _ _)
      | (with_reducible exact ih3 _ _ _ _ _ _ _ _ _ _ _)
      | (with_reducible exact ballots_Aborts.mono _ _ _ _ _)
      | (with_reducible exact ballots_Less.mono _ _ _ _ _)
      | (with_reducible exact ballots_Prepares.mono _ _ _ _ _ _ _)
      | (with_reducible exact trustquorumlaw23_sane.mono _)
      | (with_reducible exact LeO.refl _)
      | (with_reducible exact LeO.none _)
      | (with_reducible refine LeO.ite ?_ ?_)
      | (with_reducible refine LeO.bind ?_ (fun _ => ?_))
      | exact ih0 _ _ _ _ _ _ _
      | exact ih1 _ _ _ _ _ _
      | exact ih2 _ _ _ _ _ _ _ _
      | exact ih3 _ _ _ _ _ _ _ _ _ _ _
      | exact ballots_Aborts.mono _ _ _ _ _
      | exact ballots_Less.mono _ _ _ _ _
      | exact ballots_Prepares.mono _ _ _ _ _ _ _
      | exact trustquorumlaw23_sane.mono _
      | exact LeO.none _
      | refine LeO.ite ?_ ?_
      | refine LeO.bind ?_ (fun _ => ?_)
    · intro y0 y1 y2 y3 y4 y5 y6 y7 y8 y9 y10
      unfold trustquorumlaw23_BallotsPrepares.l1
      repeat' first
      | (with_reducible exact ih0 _ _ _ _ _ _ _)
      | (with_reducible exact ih1 _ _ _ _ _ _)
      | (with_reducible exact ih2 _ _ _ _ _ _ _ _)
      | (with_reducible exact ih3 _ _ _ _ _ _ _ _ _ _ _)
      | (with_reducible exact ballots_Aborts.mono _ _ _ _ _)
      | (with_reducible exact ballots_Less.mono _ _ _ _ _)
      | (with_reducible exact ballots_Prepares.mono _ _ _ _ _ _ _)
      | (with_reducible exact trustquorumlaw23_sane.mono _)
      | (with_reducible exact LeO.refl _)
      | (with_reducible exact LeO.none _)
      | (with_reducible refine LeO.ite ?_ ?_)
      | (with_reducible refine LeO.bind ?_ (fun _ => ?_))
      | exact ih0 _ _ _ _ _ _ _
      | exact ih1 _ _ _ _ _ _
      | exact ih2 _ _ _ _ _ _ _ _
      | exact ih3 _ _ _ _ _ _ _ _ _ _ _
      | exact ballots_Aborts.mono _ _ _ _ _
      | exact ballots_Less.mono _ _ _ _ _
      | exact ballots_Prepares.mono _ _ _ _ _ _ _
      | exact trustquorumlaw23_sane.mono _
      | exact LeO.none _
      | refine LeO.ite ?_ ?_
      | refine LeO.bind ?_ (fun _ => ?_)
theorem trustquorumlaw23_BallotsPrepares.mono : ∀ a0 k, LeO (trustquorumlaw23_BallotsPrepares.f k a0) (trustquorumlaw23_BallotsPrepares.f (k + 1) a0) := by
  intro a0 k
  obtain ⟨ih0, ih1, ih2, ih3⟩ := trustquorumlaw23_BallotsPrepares.mono_l k
  unfold trustquorumlaw23_BallotsPrepares.f
  repeat' first
      | (with_reducible exact ih0 _ _ _ _ _ _ _)
      | (with_reducible exact ih1 _ _ _ _ _ _)
      | (with_reducible exact ih2 _ _ _ _ _ _ _ _)
      | (with_reducible exact ih3 _ _ _ _ _ _ _ _ _ _ _)
      | (with_reducible exact ballots_Aborts.mono _ _ _ _ _)
      | (with_reducible exact ballots_Less.mono _ _ _ _ _)
      | (with_reducible exact ballots_Prepares.mono _ _ _ _ _ _ _)
      | (with_reducible exact trustquorumlaw23_sane.mono _)
      | (with_reducible exact LeO.refl _)
      | (with_reducible exact LeO.none _)
      | (with_reducible refine LeO.ite ?_ ?_)
      | (with_reducible refine LeO.bind ?_ (fun _ => ?_))
      | exact ih0 _ _ _ _ _ _ _
      | exact ih1 _ _ _ _ _ _
      | exact ih2 _ _ _ _ _ _ _ _
      | exact ih3 _ _ _ _ _ _ _ _ _ _ _
      | exact ballots_Aborts.mono _ _ _ _ _
      | exact ballots_Less.mono _ _ _ _ _
      | exact ballots_Prepares.mono _ _ _ _ _ _ _
      | exact trustquorumlaw23_sane.mono _
      | exact LeO.none _
      | refine LeO.ite ?_ ?_
      | refine LeO.bind ?_ (fun _ => ?_)
set_option maxHeartbeats 8000000 in
set_option maxRecDepth 100000 in
theorem trustquorumlaw23_BallotsPrepares.calls (k : Nat) (A0 : Option Addr) (c0 : Nat) (l0 : List Int) (r : Bool) (w : World) (hr0 : Kd.C (Kd.int .i64) w A0 l0.length l0) (hc0 : l0.length ≤ c0) (h : trustquorumlaw23_BallotsPrepares.f k l0 = some r) :
    Calls Try.prog 5 #[.slice A0 l0.length c0] w fun e w' => e = .returned (.bool r) ∧ Below w.heap.size w w' := by
  have hu26 := Try.underlying26
  have HR0 := Aside0.mk hr0
  have HC0 := Aside0.mk hc0
  clear hr0 hc0
  have HB := Aside0.mk (Below.refl w.heap.size w)
  have H : ((trustquorumplay_New.f l0).bind fun bt181 => ((trustquorumplay_Src_Low.f bt181.1 bt181.2).bind fun bt184 => ((trustquorumplay_Src_Low.f bt181.1 bt184.2.2).bind fun bt187 => ((trustquorumplay_Src_Low.f bt181.1 bt187.2.2).bind fun bt190 => ((ballots_Less.f k bt187.1 bt187.2.1 bt184.1 bt184.2.1).bind fun t196 => (if t196 = true then ((ballots_Compatible.f bt184.1 bt184.2.1 bt187.1 bt187.2.1).bind fun t197 => (trustquorumlaw23_BallotsPrepares.j0 k t197 bt184.1 bt184.2.1 bt187.1 bt187.2.1 bt190.1 bt190.2.1)) else (trustquorumlaw23_BallotsPrepares.j0 k true bt184.1 bt184.2.1 bt187.1 bt187.2.1 bt190.1 bt190.2.1))))))) = some r := h
  clear h
  replace H := Option.bind_eq_some_iff.mp H
  obtain ⟨⟨t181, t182⟩, A20, H⟩ := H
  replace H : ((trustquorumplay_Src_Low.f t181 t182).bind fun bt184 => ((trustquorumplay_Src_Low.f t181 bt184.2.2).bind fun bt187 => ((trustquorumplay_Src_Low.f t181 bt187.2.2).bind fun bt190 => ((ballots_Less.f k bt187.1 bt187.2.1 bt184.1 bt184.2.1).bind fun t196 => (if t196 = true then ((ballots_Compatible.f bt184.1 bt184.2.1 bt187.1 bt187.2.1).bind fun t197 => (trustquorumlaw23_BallotsPrepares.j0 k t197 bt184.1 bt184.2.1 bt187.1 bt187.2.1 bt190.1 bt190.2.1)) else (trustquorumlaw23_BallotsPrepares.j0 k true bt184.1 bt184.2.1 bt187.1 bt187.2.1 bt190.1 bt190.2.1)))))) = some r := H
  have A2 := Aside0.mk A20
  clear A20
  replace H := Option.bind_eq_some_iff.mp H
  obtain ⟨⟨t184, t185, t186⟩, A30, H⟩ := H
  replace H : ((trustquorumplay_Src_Low.f t181 t186).bind fun bt187 => ((trustquorumplay_Src_Low.f t181 bt187.2.2).bind fun bt190 => ((ballots_Less.f k bt187.1 bt187.2.1 t184 t185).bind fun t196 => (if t196 = true then ((ballots_Compatible.f t184 t185 bt187.1 bt187.2.1).bind fun t197 => (trustquorumlaw23_BallotsPrepares.j0 k t197 t184 t185 bt187.1 bt187.2.1 bt190.1 bt190.2.1)) else (trustquorumlaw23_BallotsPrepares.j0 k true t184 t185 bt187.1 bt187.2.1 bt190.1 bt190.2.1))))) = some r := H
  have A3 := Aside0.mk A30
  clear A30
  replace H := Option.bind_eq_some_iff.mp H
  obtain ⟨⟨t187, t188, t189⟩, A40, H⟩ := H
  replace H : ((trustquorumplay_Src_Low.f t181 t189).bind fun bt190 => ((ballots_Less.f k t187 t188 t184 t185).bind fun t196 => (if t196 = true then ((ballots_Compatible.f t184 t185 t187 t188).bind fun t197 => (trustquorumlaw23_BallotsPrepares.j0 k t197 t184 t185 t187 t188 bt190.1 bt190.2.1)) else (trustquorumlaw23_BallotsPrepares.j0 k true t184 t185 t187 t188 bt190.1 bt190.2.1)))) = some r := H
  have A4 := Aside0.mk A40
  clear A40
  replace H := Option.bind_eq_some_iff.mp H
  obtain ⟨⟨t190, t191, t192⟩, A50, H⟩ := H
  replace H : ((ballots_Less.f k t187 t188 t184 t185).bind fun t196 => (if t196 = true then ((ballots_Compatible.f t184 t185 t187 t188).bind fun t197 => (trustquorumlaw23_BallotsPrepares.j0 k t197 t184 t185 t187 t188 t190 t191)) else (trustquorumlaw23_BallotsPrepares.j0 k true t184 t185 t187 t188 t190 t191))) = some r := H
  have A5 := Aside0.mk A50
  clear A50
  have HC6 := Aside0.mk H
  clear H
  go_enter Try.func5, Try.ntmps5
  go_upto_region 3 with (first | ((with_reducible refine gate_callee (f := 9) rfl ?_); refine goesL_ (some 13) rfl rfl Try.func9 (by kernel_rfl) rfl #[.slice A0 l0.length c0] rfl (by (try simp only [List.map_toArray, List.map_cons, List.map_nil]); first | done | rfl | (simp only [List.length_drop, List.length_take]; rfl)) ?_; (with_reducible refine (trustquorumplay_New.calls _ _ l0 t181 t182 w _ ?side1 ?side2 ?side3 A2.out).mono ?_); (case side1 => repeat (first | (with_reducible first | exact HB.out | apply below_alloc | apply pw_below_drewN | apply below_drew1) | exact HB.out)); (case side2 => exact HR0.out); (case side3 => exact HC0.out); rintro e w7 ⟨g183, rfl, hi, hb, hb2⟩; refine ⟨_, rfl, ?_⟩; have n0_ := Aside0.mk (hb); have n1_ := Aside0.mk (hi); clear HB; have HB := n0_; have HI183 := n1_; clear n0_ n1_; (try clear hb); (try clear hb2); (try clear hk); (try clear hi)) | ((with_reducible refine gate_callee (f := 10) rfl ?_); refine goesL_ (some 15) rfl rfl Try.func10 (by kernel_rfl) rfl #[.pointer (some ⟨g183, 0, none⟩)] rfl (by (try simp only [List.map_toArray, List.map_cons, List.map_nil]); first | done | rfl | (simp only [List.length_drop, List.length_take]; rfl)) ?_; (with_reducible refine (trustquorumplay_Src_Low.calls g183 t181 t182 t184 t185 t186 w _ ?side1 ?side2 A3.out).mono ?_); (case side1 => repeat (first | (with_reducible first | exact HI183.out | apply IsS48.alloc | apply IsS48.drewN | apply IsS48.drew | apply IsS48.set_1) | exact HI183.out)); (case side2 => repeat (first | (with_reducible first | exact HB.out | apply below_alloc | apply pw_below_drewN | apply below_drew1 | refine below_set ?_ (IsS48.ge HI183.out)) | exact HB.out)); rintro e w8 ⟨rfl, hi, hb, hk⟩; refine ⟨_, rfl, ?_⟩; have n0_ := Aside0.mk (hb); have n1_ := Aside0.mk (hi); clear HB; clear HI183; have HB := n0_; have HI183 := n1_; clear n0_ n1_; (try clear hb); (try clear hb2); (try clear hk); (try clear hi)) | ((with_reducible refine gate_callee (f := 10) rfl ?_); refine goesL_ (some 17) rfl rfl Try.func10 (by kernel_rfl) rfl #[.pointer (some ⟨g183, 0, none⟩)] rfl (by (try simp only [List.map_toArray, List.map_cons, List.map_nil]); first | done | rfl | (simp only [List.length_drop, List.length_take]; rfl)) ?_; (with_reducible refine (trustquorumplay_Src_Low.calls g183 t181 t186 t187 t188 t189 w _ ?side1 ?side2 A4.out).mono ?_); (case side1 => repeat (first | (with_reducible first | exact HI183.out | apply IsS48.alloc | apply IsS48.drewN | apply IsS48.drew | apply IsS48.set_1) | exact HI183.out)); (case side2 => repeat (first | (with_reducible first | exact HB.out | apply below_alloc | apply pw_below_drewN | apply below_drew1 | refine below_set ?_ (IsS48.ge HI183.out)) | exact HB.out)); rintro e w9 ⟨rfl, hi, hb, hk⟩; refine ⟨_, rfl, ?_⟩; have n0_ := Aside0.mk (hb); have n1_ := Aside0.mk (hi); clear HB; clear HI183; have HB := n0_; have HI183 := n1_; clear n0_ n1_; (try clear hb); (try clear hb2); (try clear hk); (try clear hi)) | ((with_reducible refine gate_callee (f := 10) rfl ?_); refine goesL_ (some 19) rfl rfl Try.func10 (by kernel_rfl) rfl #[.pointer (some ⟨g183, 0, none⟩)] rfl (by (try simp only [List.map_toArray, List.map_cons, List.map_nil]); first | done | rfl | (simp only [List.length_drop, List.length_take]; rfl)) ?_; (with_reducible refine (trustquorumplay_Src_Low.calls g183 t181 t189 t190 t191 t192 w _ ?side1 ?side2 A5.out).mono ?_); (case side1 => repeat (first | (with_reducible first | exact HI183.out | apply IsS48.alloc | apply IsS48.drewN | apply IsS48.drew | apply IsS48.set_1) | exact HI183.out)); (case side2 => repeat (first | (with_reducible first | exact HB.out | apply below_alloc | apply pw_below_drewN | apply below_drew1 | refine below_set ?_ (IsS48.ge HI183.out)) | exact HB.out)); rintro e w10 ⟨rfl, hi, hb, hk⟩; refine ⟨_, rfl, ?_⟩; have n0_ := Aside0.mk (hb); have n1_ := Aside0.mk (hi); clear HB; clear HI183; have HB := n0_; have HI183 := n1_; clear n0_ n1_; (try clear hb); (try clear hb2); (try clear hk); (try clear hi)) | ((with_reducible refine gate_dst (N := 4) rfl ?_); refine box_event ?hg (N := 4) ?hd (cs := #[.int .i64 0, .string (⟨#[]⟩ : ByteArray)]) (t := 26) ?hr ?_; (case hd => rfl); (case hg => rfl); (case hr => first | (go_simp; done) | (go_simp; rfl)); intro gb193 hg w11 hbox hb; have n0_ := Aside0.mk (IsS48.below (by repeat (first | (with_reducible first | exact HI183.out | apply IsS48.alloc | apply IsS48.drewN | apply IsS48.drew | apply IsS48.set_1) | exact HI183.out)) hb); have n1_ := Aside0.mk (below_step (by repeat (first | (with_reducible first | exact HB.out | apply below_alloc | apply pw_below_drewN | apply below_drew1 | refine below_set ?_ (IsS48.ge HI183.out)) | exact HB.out)) hb); have n2_ := Aside0.mk (hbox); have n3_ := Aside0.mk ((by rw [hg]; exact (below_size (by repeat (first | (with_reducible first | exact HB.out | apply below_alloc | apply pw_below_drewN | apply below_drew1 | refine below_set ?_ (IsS48.ge HI183.out)) | exact HB.out))) : w.heap.size ≤ gb193)); have n4_ := Aside0.mk ((by rw [hg]; exact (below_size (by repeat (first | (with_reducible first | exact HB.out | apply below_alloc | apply pw_below_drewN | apply below_drew1 | refine below_set ?_ (IsS48.ge HI183.out)) | exact HB.out))) : w.heap.size ≤ gb193)); have n5_ := Aside0.mk ((by rw [hg]; exact Nat.ne_of_lt (IsS48.lt (show IsS48 w _ g183 t181 t192 from by repeat (first | (with_reducible first | exact HI183.out | apply IsS48.alloc | apply IsS48.drewN | apply IsS48.drew | apply IsS48.set_1) | exact HI183.out))) : g183 ≠ gb193)); have n6_ := Aside0.mk ((by rw [hg]; exact Nat.ne_of_gt (IsS48.lt (show IsS48 w _ g183 t181 t192 from by repeat (first | (with_reducible first | exact HI183.out | apply IsS48.alloc | apply IsS48.drewN | apply IsS48.drew | apply IsS48.set_1) | exact HI183.out))) : gb193 ≠ g183)); clear HI183; clear HB; have HI183 := n0_; have HB := n1_; have BK193 := n2_; have GW193 := n3_; have GE193 := n4_; have NB183_193 := n5_; have NB193_183 := n6_; clear n0_ n1_ n2_ n3_ n4_ n5_ n6_; clear hb hbox hg) | ((with_reducible refine gate_dst (N := 5) rfl ?_); refine box_event ?hg (N := 5) ?hd (cs := #[.int .i64 0, .string (⟨#[]⟩ : ByteArray)]) (t := 26) ?hr ?_; (case hd => rfl); (case hg => rfl); (case hr => first | (go_simp; done) | (go_simp; rfl)); intro gb194 hg w12 hbox hb; have n0_ := Aside0.mk (IsS48.below (by repeat (first | (with_reducible first | exact HI183.out | apply IsS48.alloc | apply IsS48.drewN | apply IsS48.drew | apply IsS48.set_1 | refine IsS48.far ?_ NB183_193.out _) | exact HI183.out)) hb); have n1_ := Aside0.mk (blk_below (g := gb193) (o := .cells #[.int .i64 0, .string (⟨#[]⟩ : ByteArray)] 26 (0, 0)) (by (with_reducible repeat (first | refine blk_drewN ?_ _ | refine blk_drew ?_ | refine blk_alloc ?_ _)); exact BK193.out) hb); have n2_ := Aside0.mk (below_step (by repeat (first | (with_reducible first | exact HB.out | apply below_alloc | apply pw_below_drewN | apply below_drew1 | refine below_set ?_ (IsS48.ge HI183.out) | refine below_set ?_ GE193.out) | exact HB.out)) hb); have n3_ := Aside0.mk (hbox); have n4_ := Aside0.mk ((by rw [hg]; exact (below_size (by repeat (first | (with_reducible first | exact HB.out | apply below_alloc | apply pw_below_drewN | apply below_drew1 | refine below_set ?_ (IsS48.ge HI183.out) | refine below_set ?_ GE193.out) | exact HB.out))) : w.heap.size ≤ gb194)); have n5_ := Aside0.mk ((by rw [hg]; exact (below_size (by repeat (first | (with_reducible first | exact HB.out | apply below_alloc | apply pw_below_drewN | apply below_drew1 | refine below_set ?_ (IsS48.ge HI183.out) | refine below_set ?_ GE193.out) | exact HB.out))) : w.heap.size ≤ gb194)); have n6_ := Aside0.mk ((by rw [hg]; exact Nat.ne_of_lt (blk_lt (g := gb193) (o := .cells #[.int .i64 0, .string (⟨#[]⟩ : ByteArray)] 26 (0, 0)) (by (with_reducible repeat (first | refine blk_drewN ?_ _ | refine blk_drew ?_ | refine blk_alloc ?_ _)); exact BK193.out)) : gb193 ≠ gb194)); have n7_ := Aside0.mk ((by rw [hg]; exact Nat.ne_of_gt (blk_lt (g := gb193) (o := .cells #[.int .i64 0, .string (⟨#[]⟩ : ByteArray)] 26 (0, 0)) (by (with_reducible repeat (first | refine blk_drewN ?_ _ | refine blk_drew ?_ | refine blk_alloc ?_ _)); exact BK193.out)) : gb194 ≠ gb193)); have n8_ := Aside0.mk ((by rw [hg]; exact Nat.ne_of_lt (IsS48.lt (show IsS48 w _ g183 t181 t192 from by repeat (first | (with_reducible first | exact HI183.out | apply IsS48.alloc | apply IsS48.drewN | apply IsS48.drew | apply IsS48.set_1 | refine IsS48.far ?_ NB183_193.out _) | exact HI183.out))) : g183 ≠ gb194)); have n9_ := Aside0.mk ((by rw [hg]; exact Nat.ne_of_gt (IsS48.lt (show IsS48 w _ g183 t181 t192 from by repeat (first | (with_reducible first | exact HI183.out | apply IsS48.alloc | apply IsS48.drewN | apply IsS48.drew | apply IsS48.set_1 | refine IsS48.far ?_ NB183_193.out _) | exact HI183.out))) : gb194 ≠ g183)); clear HI183; clear BK193; clear HB; have HI183 := n0_; have BK193 := n1_; have HB := n2_; have BK194 := n3_; have GW194 := n4_; have GE194 := n5_; have NB193_194 := n6_; have NB194_193 := n7_; have NB183_194 := n8_; have NB194_183 := n9_; clear n0_ n1_ n2_ n3_ n4_ n5_ n6_ n7_ n8_ n9_; clear hb hbox hg) | ((with_reducible refine gate_dst (N := 6) rfl ?_); refine box_event ?hg (N := 6) ?hd (cs := #[.int .i64 0, .string (⟨#[]⟩ : ByteArray)]) (t := 26) ?hr ?_; (case hd => rfl); (case hg => rfl); (case hr => first | (go_simp; done) | (go_simp; rfl)); intro gb195 hg w13 hbox hb; have n0_ := Aside0.mk (IsS48.below (by repeat (first | (with_reducible first | exact HI183.out | apply IsS48.alloc | apply IsS48.drewN | apply IsS48.drew | apply IsS48.set_1 | refine IsS48.far ?_ NB183_193.out _ | refine IsS48.far ?_ NB183_194.out _) | exact HI183.out)) hb); have n1_ := Aside0.mk (blk_below (g := gb193) (o := .cells #[.int .i64 0, .string (⟨#[]⟩ : ByteArray)] 26 (0, 0)) (by (with_reducible repeat (first | refine blk_drewN ?_ _ | refine blk_drew ?_ | refine blk_alloc ?_ _)); exact BK193.out) hb); have n2_ := Aside0.mk (blk_below (g := gb194) (o := .cells #[.int .i64 0, .string (⟨#[]⟩ : ByteArray)] 26 (0, 0)) (by (with_reducible repeat (first | refine blk_drewN ?_ _ | refine blk_drew ?_ | refine blk_alloc ?_ _)); exact BK194.out) hb); have n3_ := Aside0.mk (below_step (by repeat (first | (with_reducible first | exact HB.out | apply below_alloc | apply pw_below_drewN | apply below_drew1 | refine below_set ?_ (IsS48.ge HI183.out) | refine below_set ?_ GE193.out | refine below_set ?_ GE194.out) | exact HB.out)) hb); have n4_ := Aside0.mk (hbox); have n5_ := Aside0.mk ((by rw [hg]; exact (below_size (by repeat (first | (with_reducible first | exact HB.out | apply below_alloc | apply pw_below_drewN | apply below_drew1 | refine below_set ?_ (IsS48.ge HI183.out) | refine below_set ?_ GE193.out | refine below_set ?_ GE194.out) | exact HB.out))) : w.heap.size ≤ gb195)); have n6_ := Aside0.mk ((by rw [hg]; exact (below_size (by repeat (first | (with_reducible first | exact HB.out | apply below_alloc | apply pw_below_drewN | apply below_drew1 | refine below_set ?_ (IsS48.ge HI183.out) | refine below_set ?_ GE193.out | refine below_set ?_ GE194.out) | exact HB.out))) : w.heap.size ≤ gb195)); have n7_ := Aside0.mk ((by rw [hg]; exact Nat.ne_of_lt (blk_lt (g := gb193) (o := .cells #[.int .i64 0, .string (⟨#[]⟩ : ByteArray)] 26 (0, 0)) (by (with_reducible repeat (first | refine blk_drewN ?_ _ | refine blk_drew ?_ | refine blk_alloc ?_ _)); exact BK193.out)) : gb193 ≠ gb195)); have n8_ := Aside0.mk ((by rw [hg]; exact Nat.ne_of_gt (blk_lt (g := gb193) (o := .cells #[.int .i64 0, .string (⟨#[]⟩ : ByteArray)] 26 (0, 0)) (by (with_reducible repeat (first | refine blk_drewN ?_ _ | refine blk_drew ?_ | refine blk_alloc ?_ _)); exact BK193.out)) : gb195 ≠ gb193)); have n9_ := Aside0.mk ((by rw [hg]; exact Nat.ne_of_lt (blk_lt (g := gb194) (o := .cells #[.int .i64 0, .string (⟨#[]⟩ : ByteArray)] 26 (0, 0)) (by (with_reducible repeat (first | refine blk_drewN ?_ _ | refine blk_drew ?_ | refine blk_alloc ?_ _)); exact BK194.out)) : gb194 ≠ gb195)); have n10_ := Aside0.mk ((by rw [hg]; exact Nat.ne_of_gt (blk_lt (g := gb194) (o := .cells #[.int .i64 0, .string (⟨#[]⟩ : ByteArray)] 26 (0, 0)) (by (with_reducible repeat (first | refine blk_drewN ?_ _ | refine blk_drew ?_ | refine blk_alloc ?_ _)); exact BK194.out)) : gb195 ≠ gb194)); have n11_ := Aside0.mk ((by rw [hg]; exact Nat.ne_of_lt (IsS48.lt (show IsS48 w _ g183 t181 t192 from by repeat (first | (with_reducible first | exact HI183.out | apply IsS48.alloc | apply IsS48.drewN | apply IsS48.drew | apply IsS48.set_1 | refine IsS48.far ?_ NB183_193.out _ | refine IsS48.far ?_ NB183_194.out _) | exact HI183.out))) : g183 ≠ gb195)); have n12_ := Aside0.mk ((by rw [hg]; exact Nat.ne_of_gt (IsS48.lt (show IsS48 w _ g183 t181 t192 from by repeat (first | (with_reducible first | exact HI183.out | apply IsS48.alloc | apply IsS48.drewN | apply IsS48.drew | apply IsS48.set_1 | refine IsS48.far ?_ NB183_193.out _ | refine IsS48.far ?_ NB183_194.out _) | exact HI183.out))) : gb195 ≠ g183)); clear HI183; clear BK193; clear BK194; clear HB; have HI183 := n0_; have BK193 := n1_; have BK194 := n2_; have HB := n3_; have BK195 := n4_; have GW195 := n5_; have GE195 := n6_; have NB193_195 := n7_; have NB195_193 := n8_; have NB194_195 := n9_; have NB195_194 := n10_; have NB183_195 := n11_; have NB195_183 := n12_; clear n0_ n1_ n2_ n3_ n4_ n5_ n6_ n7_ n8_ n9_ n10_ n11_ n12_; clear hb hbox hg; have hnb14 := NB193_194.out; have hnc14 := NB194_193.out; have hnb15 := NB193_195.out; have hnc15 := NB195_193.out; have hnb16 := NB193_183.out; have hnc16 := NB183_193.out; have hcz17_0 : w13.cell? ⟨gb193, 0, none⟩ = some (.int .i64 0) := (blk_cell BK193.out 0).trans rfl; have hcz17_1 : w13.cell? ⟨gb193, 1, none⟩ = some (.string (⟨#[]⟩ : ByteArray)) := (blk_cell BK193.out 1).trans rfl; have hfz17_0 := blk_frozen BK193.out 0; have hfz17_1 := blk_frozen BK193.out 1; have hnb18 := NB194_195.out; have hnc18 := NB195_194.out; have hnb19 := NB194_183.out; have hnc19 := NB183_194.out; have hcz20_0 : w13.cell? ⟨gb194, 0, none⟩ = some (.int .i64 0) := (blk_cell BK194.out 0).trans rfl; have hcz20_1 : w13.cell? ⟨gb194, 1, none⟩ = some (.string (⟨#[]⟩ : ByteArray)) := (blk_cell BK194.out 1).trans rfl; have hfz20_0 := blk_frozen BK194.out 0; have hfz20_1 := blk_frozen BK194.out 1; have hnb21 := NB195_183.out; have hnc21 := NB183_195.out; have hcz22_0 : w13.cell? ⟨gb195, 0, none⟩ = some (.int .i64 0) := (blk_cell BK195.out 0).trans rfl; have hcz22_1 : w13.cell? ⟨gb195, 1, none⟩ = some (.string (⟨#[]⟩ : ByteArray)) := (blk_cell BK195.out 1).trans rfl; have hfz22_0 := blk_frozen BK195.out 0; have hfz22_1 := blk_frozen BK195.out 1))
  (try simp only [Act.put, List.setIfInBounds_toArray, List.set_cons_zero, List.set_cons_succ])
  go_cut [28] (fun v28 wc => ∃ (kq : Nat) (x28_5 : Bool), v28 = .bool x28_5 ∧ Aside0 (trustquorumlaw23_BallotsPrepares.j0 kq x28_5 t184 t185 t187 t188 t190 t191 = some r) ∧ Aside0 (kq ≤ k) ∧ Aside0 (wc.heap[gb193]? = some (.cells #[.int .i64 t184, .string t185] 26 (0, 0))) ∧ Aside0 (wc.heap[gb194]? = some (.cells #[.int .i64 t187, .string t188] 26 (0, 0))) ∧ Aside0 (wc.heap[gb195]? = some (.cells #[.int .i64 t190, .string t191] 26 (0, 0))) ∧ Aside0 (Below w.heap.size w wc))
  case first =>
    have H := HC6.out
    clear HC6
    replace H := Option.bind_eq_some_iff.mp H
    obtain ⟨t196, A230, H⟩ := H
    replace H : (if t196 = true then ((ballots_Compatible.f t184 t185 t187 t188).bind fun t197 => (trustquorumlaw23_BallotsPrepares.j0 k t197 t184 t185 t187 t188 t190 t191)) else (trustquorumlaw23_BallotsPrepares.j0 k true t184 t185 t187 t188 t190 t191)) = some r := H
    have A23 := Aside0.mk A230
    clear A230
    by_cases c24 : t196 = true
    · subst c24
      have H1 : ((ballots_Compatible.f t184 t185 t187 t188).bind fun t197 => (trustquorumlaw23_BallotsPrepares.j0 k t197 t184 t185 t187 t188 t190 t191)) = some r := by rw [if_pos rfl] at H; exact H
      clear H
      have H := H1
      clear H1
      replace H := Option.bind_eq_some_iff.mp H
      obtain ⟨t197, A250, H⟩ := H
      replace H : (trustquorumlaw23_BallotsPrepares.j0 k t197 t184 t185 t187 t188 t190 t191) = some r := H
      have A25 := Aside0.mk A250
      clear A250
      have H' := Aside0.mk H
      clear H
      have hnb26 := NB194_193.out
      have hnc26 := NB193_194.out
      have hnb27 := NB194_195.out
      have hnc27 := NB195_194.out
      have hnb28 := NB194_183.out
      have hnc28 := NB183_194.out
      have hcz29_0 : w13.cell? ⟨gb194, 0, none⟩ = some (.int .i64 0) := (blk_cell BK194.out 0).trans rfl
      have hcz29_1 : w13.cell? ⟨gb194, 1, none⟩ = some (.string (⟨#[]⟩ : ByteArray)) := (blk_cell BK194.out 1).trans rfl
      have hfz29_0 := blk_frozen BK194.out 0
      have hfz29_1 := blk_frozen BK194.out 1
      have hnb30 := NB193_195.out
      have hnc30 := NB195_193.out
      have hnb31 := NB193_183.out
      have hnc31 := NB183_193.out
      have hcz32_0 : w13.cell? ⟨gb193, 0, none⟩ = some (.int .i64 0) := (blk_cell BK193.out 0).trans rfl
      have hcz32_1 : w13.cell? ⟨gb193, 1, none⟩ = some (.string (⟨#[]⟩ : ByteArray)) := (blk_cell BK193.out 1).trans rfl
      have hfz32_0 := blk_frozen BK193.out 0
      have hfz32_1 := blk_frozen BK193.out 1
      go_wp2_with (first | ((with_reducible refine gate_callee (f := 16) rfl ?_); refine goesL_ (some 22) rfl rfl Try.func16 (by kernel_rfl) rfl #[.agg #[.int .i64 t187, .string t188], .agg #[.int .i64 t184, .string t185]] rfl (by (try simp only [List.map_toArray, List.map_cons, List.map_nil]); first | done | rfl | (simp only [List.length_drop, List.length_take]; rfl)) ?_; (with_reducible refine (ballots_Less.calls k t187 t188 t184 t185 true _ A23.out).mono ?_); rintro e w33 ⟨rfl, hb⟩; refine ⟨_, rfl, ?_⟩; have n0_ := Aside0.mk (IsS48.below (show IsS48 w ((((((w13.setCell ⟨gb193, 0, none⟩ (.int .i64 t184)).setCell ⟨gb193, 1, none⟩ (.string t185)).setCell ⟨gb194, 0, none⟩ (.int .i64 t187)).setCell ⟨gb194, 1, none⟩ (.string t188)).setCell ⟨gb195, 0, none⟩ (.int .i64 t190)).setCell ⟨gb195, 1, none⟩ (.string t191)) g183 t181 t192 from by repeat (first | (with_reducible first | exact HI183.out | apply IsS48.alloc | apply IsS48.drewN | apply IsS48.drew | apply IsS48.set_1 | refine IsS48.far ?_ NB183_193.out _ | refine IsS48.far ?_ NB183_194.out _ | refine IsS48.far ?_ NB183_195.out _) | exact HI183.out)) hb); have n1_ := Aside0.mk (blk_below (g := gb193) (o := .cells #[.int .i64 t184, .string t185] 26 (0, 0)) (by (with_reducible repeat (first | refine blk_drewN ?_ _ | refine blk_drew ?_ | refine blk_alloc ?_ _)); refine blk_far ?_ NB193_195.out _; (with_reducible repeat (first | refine blk_drewN ?_ _ | refine blk_drew ?_ | refine blk_alloc ?_ _)); refine blk_far ?_ NB193_195.out _; (with_reducible repeat (first | refine blk_drewN ?_ _ | refine blk_drew ?_ | refine blk_alloc ?_ _)); refine blk_far ?_ NB193_194.out _; (with_reducible repeat (first | refine blk_drewN ?_ _ | refine blk_drew ?_ | refine blk_alloc ?_ _)); refine blk_far ?_ NB193_194.out _; (with_reducible repeat (first | refine blk_drewN ?_ _ | refine blk_drew ?_ | refine blk_alloc ?_ _)); refine blk_put (cs := #[.int .i64 t184, .string (⟨#[]⟩ : ByteArray)]) ?_ 1 _ rfl; (with_reducible repeat (first | refine blk_drewN ?_ _ | refine blk_drew ?_ | refine blk_alloc ?_ _)); refine blk_put (cs := #[.int .i64 0, .string (⟨#[]⟩ : ByteArray)]) ?_ 0 _ rfl; (with_reducible repeat (first | refine blk_drewN ?_ _ | refine blk_drew ?_ | refine blk_alloc ?_ _)); exact BK193.out) hb); have n2_ := Aside0.mk (blk_below (g := gb194) (o := .cells #[.int .i64 t187, .string t188] 26 (0, 0)) (by (with_reducible repeat (first | refine blk_drewN ?_ _ | refine blk_drew ?_ | refine blk_alloc ?_ _)); refine blk_far ?_ NB194_195.out _; (with_reducible repeat (first | refine blk_drewN ?_ _ | refine blk_drew ?_ | refine blk_alloc ?_ _)); refine blk_far ?_ NB194_195.out _; (with_reducible repeat (first | refine blk_drewN ?_ _ | refine blk_drew ?_ | refine blk_alloc ?_ _)); refine blk_put (cs := #[.int .i64 t187, .string (⟨#[]⟩ : ByteArray)]) ?_ 1 _ rfl; (with_reducible repeat (first | refine blk_drewN ?_ _ | refine blk_drew ?_ | refine blk_alloc ?_ _)); refine blk_put (cs := #[.int .i64 0, .string (⟨#[]⟩ : ByteArray)]) ?_ 0 _ rfl; (with_reducible repeat (first | refine blk_drewN ?_ _ | refine blk_drew ?_ | refine blk_alloc ?_ _)); refine blk_far ?_ NB194_193.out _; (with_reducible repeat (first | refine blk_drewN ?_ _ | refine blk_drew ?_ | refine blk_alloc ?_ _)); refine blk_far ?_ NB194_193.out _; (with_reducible repeat (first | refine blk_drewN ?_ _ | refine blk_drew ?_ | refine blk_alloc ?_ _)); exact BK194.out) hb); have n3_ := Aside0.mk (blk_below (g := gb195) (o := .cells #[.int .i64 t190, .string t191] 26 (0, 0)) (by (with_reducible repeat (first | refine blk_drewN ?_ _ | refine blk_drew ?_ | refine blk_alloc ?_ _)); refine blk_put (cs := #[.int .i64 t190, .string (⟨#[]⟩ : ByteArray)]) ?_ 1 _ rfl; (with_reducible repeat (first | refine blk_drewN ?_ _ | refine blk_drew ?_ | refine blk_alloc ?_ _)); refine blk_put (cs := #[.int .i64 0, .string (⟨#[]⟩ : ByteArray)]) ?_ 0 _ rfl; (with_reducible repeat (first | refine blk_drewN ?_ _ | refine blk_drew ?_ | refine blk_alloc ?_ _)); refine blk_far ?_ NB195_194.out _; (with_reducible repeat (first | refine blk_drewN ?_ _ | refine blk_drew ?_ | refine blk_alloc ?_ _)); refine blk_far ?_ NB195_194.out _; (with_reducible repeat (first | refine blk_drewN ?_ _ | refine blk_drew ?_ | refine blk_alloc ?_ _)); refine blk_far ?_ NB195_193.out _; (with_reducible repeat (first | refine blk_drewN ?_ _ | refine blk_drew ?_ | refine blk_alloc ?_ _)); refine blk_far ?_ NB195_193.out _; (with_reducible repeat (first | refine blk_drewN ?_ _ | refine blk_drew ?_ | refine blk_alloc ?_ _)); exact BK195.out) hb); have n4_ := Aside0.mk (below_step (by repeat (first | (with_reducible first | exact HB.out | apply below_alloc | apply pw_below_drewN | apply below_drew1 | refine below_set ?_ (IsS48.ge HI183.out) | refine below_set ?_ GE193.out | refine below_set ?_ GE194.out | refine below_set ?_ GE195.out) | exact HB.out)) hb); clear HI183; clear BK193; clear BK194; clear BK195; clear HB; have HI183 := n0_; have BK193 := n1_; have BK194 := n2_; have BK195 := n3_; have HB := n4_; clear n0_ n1_ n2_ n3_ n4_; (try clear hb); (try clear hb2); (try clear hk); (try clear hi); have hcz34_0 : w33.cell? ⟨gb193, 0, none⟩ = some (.int .i64 t184) := (blk_cell BK193.out 0).trans rfl; have hcz34_1 : w33.cell? ⟨gb193, 1, none⟩ = some (.string t185) := (blk_cell BK193.out 1).trans rfl; have hfz34_0 := blk_frozen BK193.out 0; have hfz34_1 := blk_frozen BK193.out 1; have hcz35_0 : w33.cell? ⟨gb194, 0, none⟩ = some (.int .i64 t187) := (blk_cell BK194.out 0).trans rfl; have hcz35_1 : w33.cell? ⟨gb194, 1, none⟩ = some (.string t188) := (blk_cell BK194.out 1).trans rfl; have hfz35_0 := blk_frozen BK194.out 0; have hfz35_1 := blk_frozen BK194.out 1) | (go_at_call 19; (with_reducible refine (ballots_Compatible.calls t184 t185 t187 t188 t197 _ A25.out).mono ?_); rintro e w36 ⟨rfl, hb⟩; have n0_ := Aside0.mk (IsS48.below (by repeat (first | (with_reducible first | exact HI183.out | apply IsS48.alloc | apply IsS48.drewN | apply IsS48.drew | apply IsS48.set_1 | refine IsS48.far ?_ NB183_193.out _ | refine IsS48.far ?_ NB183_194.out _ | refine IsS48.far ?_ NB183_195.out _) | exact HI183.out)) hb); have n1_ := Aside0.mk (blk_below (g := gb193) (o := .cells #[.int .i64 t184, .string t185] 26 (0, 0)) (by (with_reducible repeat (first | refine blk_drewN ?_ _ | refine blk_drew ?_ | refine blk_alloc ?_ _)); exact BK193.out) hb); have n2_ := Aside0.mk (blk_below (g := gb194) (o := .cells #[.int .i64 t187, .string t188] 26 (0, 0)) (by (with_reducible repeat (first | refine blk_drewN ?_ _ | refine blk_drew ?_ | refine blk_alloc ?_ _)); exact BK194.out) hb); have n3_ := Aside0.mk (blk_below (g := gb195) (o := .cells #[.int .i64 t190, .string t191] 26 (0, 0)) (by (with_reducible repeat (first | refine blk_drewN ?_ _ | refine blk_drew ?_ | refine blk_alloc ?_ _)); exact BK195.out) hb); have n4_ := Aside0.mk (below_step (by repeat (first | (with_reducible first | exact HB.out | apply below_alloc | apply pw_below_drewN | apply below_drew1 | refine below_set ?_ (IsS48.ge HI183.out) | refine below_set ?_ GE193.out | refine below_set ?_ GE194.out | refine below_set ?_ GE195.out) | exact HB.out)) hb); clear HI183; clear BK193; clear BK194; clear BK195; clear HB; have HI183 := n0_; have BK193 := n1_; have BK194 := n2_; have BK195 := n3_; have HB := n4_; clear n0_ n1_ n2_ n3_ n4_; (try clear hb); (try clear hb2); (try clear hk); (try clear hi)))
      go_meet
      case rel => exact ⟨_, (t197), (by first | rfl | (simp; done) | (simp [*]; done)), H', ⟨by first | omega | exact Nat.le_refl _⟩, ⟨by (with_reducible repeat (first | refine blk_drewN ?_ _ | refine blk_drew ?_ | refine blk_alloc ?_ _)); exact BK193.out⟩, ⟨by (with_reducible repeat (first | refine blk_drewN ?_ _ | refine blk_drew ?_ | refine blk_alloc ?_ _)); exact BK194.out⟩, ⟨by (with_reducible repeat (first | refine blk_drewN ?_ _ | refine blk_drew ?_ | refine blk_alloc ?_ _)); exact BK195.out⟩, ⟨by repeat (first | (with_reducible first | exact HB.out | apply below_alloc | apply pw_below_drewN | apply below_drew1 | refine below_set ?_ (IsS48.ge HI183.out) | refine below_set ?_ GE193.out | refine below_set ?_ GE194.out | refine below_set ?_ GE195.out) | exact HB.out)⟩⟩
    · replace c24 := Bool.eq_false_iff.mpr c24
      subst c24
      have H1 : (trustquorumlaw23_BallotsPrepares.j0 k true t184 t185 t187 t188 t190 t191) = some r := by rw [if_neg (show ¬ (false = true) by decide)] at H; exact H
      clear H
      have H := H1
      clear H1
      have H' := Aside0.mk H
      clear H
      have hnb37 := NB194_193.out
      have hnc37 := NB193_194.out
      have hnb38 := NB194_195.out
      have hnc38 := NB195_194.out
      have hnb39 := NB194_183.out
      have hnc39 := NB183_194.out
      have hcz40_0 : w13.cell? ⟨gb194, 0, none⟩ = some (.int .i64 0) := (blk_cell BK194.out 0).trans rfl
      have hcz40_1 : w13.cell? ⟨gb194, 1, none⟩ = some (.string (⟨#[]⟩ : ByteArray)) := (blk_cell BK194.out 1).trans rfl
      have hfz40_0 := blk_frozen BK194.out 0
      have hfz40_1 := blk_frozen BK194.out 1
      have hnb41 := NB193_195.out
      have hnc41 := NB195_193.out
      have hnb42 := NB193_183.out
      have hnc42 := NB183_193.out
      have hcz43_0 : w13.cell? ⟨gb193, 0, none⟩ = some (.int .i64 0) := (blk_cell BK193.out 0).trans rfl
      have hcz43_1 : w13.cell? ⟨gb193, 1, none⟩ = some (.string (⟨#[]⟩ : ByteArray)) := (blk_cell BK193.out 1).trans rfl
      have hfz43_0 := blk_frozen BK193.out 0
      have hfz43_1 := blk_frozen BK193.out 1
      go_wp2_with (first | ((with_reducible refine gate_callee (f := 16) rfl ?_); refine goesL_ (some 22) rfl rfl Try.func16 (by kernel_rfl) rfl #[.agg #[.int .i64 t187, .string t188], .agg #[.int .i64 t184, .string t185]] rfl (by (try simp only [List.map_toArray, List.map_cons, List.map_nil]); first | done | rfl | (simp only [List.length_drop, List.length_take]; rfl)) ?_; (with_reducible refine (ballots_Less.calls k t187 t188 t184 t185 false _ A23.out).mono ?_); rintro e w44 ⟨rfl, hb⟩; refine ⟨_, rfl, ?_⟩; have n0_ := Aside0.mk (IsS48.below (show IsS48 w ((((((w13.setCell ⟨gb193, 0, none⟩ (.int .i64 t184)).setCell ⟨gb193, 1, none⟩ (.string t185)).setCell ⟨gb194, 0, none⟩ (.int .i64 t187)).setCell ⟨gb194, 1, none⟩ (.string t188)).setCell ⟨gb195, 0, none⟩ (.int .i64 t190)).setCell ⟨gb195, 1, none⟩ (.string t191)) g183 t181 t192 from by repeat (first | (with_reducible first | exact HI183.out | apply IsS48.alloc | apply IsS48.drewN | apply IsS48.drew | apply IsS48.set_1 | refine IsS48.far ?_ NB183_193.out _ | refine IsS48.far ?_ NB183_194.out _ | refine IsS48.far ?_ NB183_195.out _) | exact HI183.out)) hb); have n1_ := Aside0.mk (blk_below (g := gb193) (o := .cells #[.int .i64 t184, .string t185] 26 (0, 0)) (by (with_reducible repeat (first | refine blk_drewN ?_ _ | refine blk_drew ?_ | refine blk_alloc ?_ _)); refine blk_far ?_ NB193_195.out _; (with_reducible repeat (first | refine blk_drewN ?_ _ | refine blk_drew ?_ | refine blk_alloc ?_ _)); refine blk_far ?_ NB193_195.out _; (with_reducible repeat (first | refine blk_drewN ?_ _ | refine blk_drew ?_ | refine blk_alloc ?_ _)); refine blk_far ?_ NB193_194.out _; (with_reducible repeat (first | refine blk_drewN ?_ _ | refine blk_drew ?_ | refine blk_alloc ?_ _)); refine blk_far ?_ NB193_194.out _; (with_reducible repeat (first | refine blk_drewN ?_ _ | refine blk_drew ?_ | refine blk_alloc ?_ _)); refine blk_put (cs := #[.int .i64 t184, .string (⟨#[]⟩ : ByteArray)]) ?_ 1 _ rfl; (with_reducible repeat (first | refine blk_drewN ?_ _ | refine blk_drew ?_ | refine blk_alloc ?_ _)); refine blk_put (cs := #[.int .i64 0, .string (⟨#[]⟩ : ByteArray)]) ?_ 0 _ rfl; (with_reducible repeat (first | refine blk_drewN ?_ _ | refine blk_drew ?_ | refine blk_alloc ?_ _)); exact BK193.out) hb); have n2_ := Aside0.mk (blk_below (g := gb194) (o := .cells #[.int .i64 t187, .string t188] 26 (0, 0)) (by (with_reducible repeat (first | refine blk_drewN ?_ _ | refine blk_drew ?_ | refine blk_alloc ?_ _)); refine blk_far ?_ NB194_195.out _; (with_reducible repeat (first | refine blk_drewN ?_ _ | refine blk_drew ?_ | refine blk_alloc ?_ _)); refine blk_far ?_ NB194_195.out _; (with_reducible repeat (first | refine blk_drewN ?_ _ | refine blk_drew ?_ | refine blk_alloc ?_ _)); refine blk_put (cs := #[.int .i64 t187, .string (⟨#[]⟩ : ByteArray)]) ?_ 1 _ rfl; (with_reducible repeat (first | refine blk_drewN ?_ _ | refine blk_drew ?_ | refine blk_alloc ?_ _)); refine blk_put (cs := #[.int .i64 0, .string (⟨#[]⟩ : ByteArray)]) ?_ 0 _ rfl; (with_reducible repeat (first | refine blk_drewN ?_ _ | refine blk_drew ?_ | refine blk_alloc ?_ _)); refine blk_far ?_ NB194_193.out _; (with_reducible repeat (first | refine blk_drewN ?_ _ | refine blk_drew ?_ | refine blk_alloc ?_ _)); refine blk_far ?_ NB194_193.out _; (with_reducible repeat (first | refine blk_drewN ?_ _ | refine blk_drew ?_ | refine blk_alloc ?_ _)); exact BK194.out) hb); have n3_ := Aside0.mk (blk_below (g := gb195) (o := .cells #[.int .i64 t190, .string t191] 26 (0, 0)) (by (with_reducible repeat (first | refine blk_drewN ?_ _ | refine blk_drew ?_ | refine blk_alloc ?_ _)); refine blk_put (cs := #[.int .i64 t190, .string (⟨#[]⟩ : ByteArray)]) ?_ 1 _ rfl; (with_reducible repeat (first | refine blk_drewN ?_ _ | refine blk_drew ?_ | refine blk_alloc ?_ _)); refine blk_put (cs := #[.int .i64 0, .string (⟨#[]⟩ : ByteArray)]) ?_ 0 _ rfl; (with_reducible repeat (first | refine blk_drewN ?_ _ | refine blk_drew ?_ | refine blk_alloc ?_ _)); refine blk_far ?_ NB195_194.out _; (with_reducible repeat (first | refine blk_drewN ?_ _ | refine blk_drew ?_ | refine blk_alloc ?_ _)); refine blk_far ?_ NB195_194.out _; (with_reducible repeat (first | refine blk_drewN ?_ _ | refine blk_drew ?_ | refine blk_alloc ?_ _)); refine blk_far ?_ NB195_193.out _; (with_reducible repeat (first | refine blk_drewN ?_ _ | refine blk_drew ?_ | refine blk_alloc ?_ _)); refine blk_far ?_ NB195_193.out _; (with_reducible repeat (first | refine blk_drewN ?_ _ | refine blk_drew ?_ | refine blk_alloc ?_ _)); exact BK195.out) hb); have n4_ := Aside0.mk (below_step (by repeat (first | (with_reducible first | exact HB.out | apply below_alloc | apply pw_below_drewN | apply below_drew1 | refine below_set ?_ (IsS48.ge HI183.out) | refine below_set ?_ GE193.out | refine below_set ?_ GE194.out | refine below_set ?_ GE195.out) | exact HB.out)) hb); clear HI183; clear BK193; clear BK194; clear BK195; clear HB; have HI183 := n0_; have BK193 := n1_; have BK194 := n2_; have BK195 := n3_; have HB := n4_; clear n0_ n1_ n2_ n3_ n4_; (try clear hb); (try clear hb2); (try clear hk); (try clear hi)))
      go_meet
      case rel => exact ⟨_, (true), (by first | rfl | (simp; done) | (simp [*]; done)), H', ⟨by first | omega | exact Nat.le_refl _⟩, ⟨by (with_reducible repeat (first | refine blk_drewN ?_ _ | refine blk_drew ?_ | refine blk_alloc ?_ _)); exact BK193.out⟩, ⟨by (with_reducible repeat (first | refine blk_drewN ?_ _ | refine blk_drew ?_ | refine blk_alloc ?_ _)); exact BK194.out⟩, ⟨by (with_reducible repeat (first | refine blk_drewN ?_ _ | refine blk_drew ?_ | refine blk_alloc ?_ _)); exact BK195.out⟩, ⟨by repeat (first | (with_reducible first | exact HB.out | apply below_alloc | apply pw_below_drewN | apply below_drew1 | refine below_set ?_ (IsS48.ge HI183.out) | refine below_set ?_ GE193.out | refine below_set ?_ GE194.out | refine below_set ?_ GE195.out) | exact HB.out)⟩⟩
  case rest =>
    clear HC6
    try clear c1
    try clear c2
    try clear p2
    try clear c3
    try clear c4
    try clear c5
    try clear c9
    try clear c10
    try clear c14
    try clear c15
    try clear c16
    try clear c18
    try clear c19
    try clear c21
    try clear c24
    try clear c26
    try clear c27
    try clear c28
    try clear c30
    try clear c31
    try clear c37
    try clear c38
    try clear c39
    try clear c41
    try clear c42
    try clear hcz17_0
    try clear hcz17_1
    try clear hcz20_0
    try clear hcz20_1
    try clear hcz22_0
    try clear hcz22_1
    try clear hcz29_0
    try clear hcz29_1
    try clear hcz32_0
    try clear hcz32_1
    try clear hcz34_0
    try clear hcz34_1
    try clear hcz35_0
    try clear hcz35_1
    try clear hcz40_0
    try clear hcz40_1
    try clear hcz43_0
    try clear hcz43_1
    try clear hfz17_0
    try clear hfz17_1
    try clear hfz20_0
    try clear hfz20_1
    try clear hfz22_0
    try clear hfz22_1
    try clear hfz29_0
    try clear hfz29_1
    try clear hfz32_0
    try clear hfz32_1
    try clear hfz34_0
    try clear hfz34_1
    try clear hfz35_0
    try clear hfz35_1
    try clear hfz40_0
    try clear hfz40_1
    try clear hfz43_0
    try clear hfz43_1
    obtain ⟨kq, x28_5, rfl, HA, HJ5, BK193, BK194, BK195, HB⟩ := hcut
    cases kq with
    | zero => exact absurd HA.out (by simp [trustquorumlaw23_BallotsPrepares.j0])
    | succ kj5 =>
      have H := HA.out
      clear HA
      simp only [trustquorumlaw23_BallotsPrepares.j0] at H
      have HC45 := Aside0.mk H
      clear H
      go_upto_if 28 with (fail)
      go_cut [] (fun wc => ∃ (kq : Nat) (x195000_44 : Int) (x195001_44 : ByteArray), Aside0 (trustquorumlaw23_BallotsPrepares.j1 kq t184 t185 x195000_44 x195001_44 t190 t191 = some r) ∧ Aside0 (kq ≤ kj5) ∧ Aside0 (wc.heap[gb193]? = some (.cells #[.int .i64 t184, .string t185] 26 (0, 0))) ∧ Aside0 (wc.heap[gb194]? = some (.cells #[.int .i64 x195000_44, .string x195001_44] 26 (0, 0))) ∧ Aside0 (wc.heap[gb195]? = some (.cells #[.int .i64 t190, .string t191] 26 (0, 0))) ∧ Aside0 (Below w.heap.size w wc))
      case first =>
        have H := HC45.out
        clear HC45
        by_cases c46 : x28_5 = true
        · subst c46
          have H1 : (trustquorumlaw23_BallotsPrepares.j1 kj5 t184 t185 0 (⟨#[]⟩ : ByteArray) t190 t191) = some r := by rw [if_pos rfl] at H; exact H
          clear H
          have H := H1
          clear H1
          have H' := Aside0.mk H
          clear H
          have hnb47 := NB194_193.out
          have hnc47 := NB193_194.out
          have hnb48 := NB194_195.out
          have hnc48 := NB195_194.out
          have hcz49_0 : wc.cell? ⟨gb194, 0, none⟩ = some (.int .i64 t187) := (blk_cell BK194.out 0).trans rfl
          have hcz49_1 : wc.cell? ⟨gb194, 1, none⟩ = some (.string t188) := (blk_cell BK194.out 1).trans rfl
          have hfz49_0 := blk_frozen BK194.out 0
          have hfz49_1 := blk_frozen BK194.out 1
          go_wp2
          go_meet
          case rel => exact ⟨_, (0), ((⟨#[]⟩ : ByteArray)), H', ⟨by have := HJ5.out; first | omega | exact Nat.le_refl _⟩, ⟨by (with_reducible repeat (first | refine blk_drewN ?_ _ | refine blk_drew ?_ | refine blk_alloc ?_ _)); refine blk_far ?_ NB193_194.out _; (with_reducible repeat (first | refine blk_drewN ?_ _ | refine blk_drew ?_ | refine blk_alloc ?_ _)); refine blk_far ?_ NB193_194.out _; (with_reducible repeat (first | refine blk_drewN ?_ _ | refine blk_drew ?_ | refine blk_alloc ?_ _)); exact BK193.out⟩, ⟨by (with_reducible repeat (first | refine blk_drewN ?_ _ | refine blk_drew ?_ | refine blk_alloc ?_ _)); refine blk_put (cs := #[.int .i64 0, .string t188]) ?_ 1 _ rfl; (with_reducible repeat (first | refine blk_drewN ?_ _ | refine blk_drew ?_ | refine blk_alloc ?_ _)); refine blk_put (cs := #[.int .i64 t187, .string t188]) ?_ 0 _ rfl; (with_reducible repeat (first | refine blk_drewN ?_ _ | refine blk_drew ?_ | refine blk_alloc ?_ _)); exact BK194.out⟩, ⟨by (with_reducible repeat (first | refine blk_drewN ?_ _ | refine blk_drew ?_ | refine blk_alloc ?_ _)); refine blk_far ?_ NB195_194.out _; (with_reducible repeat (first | refine blk_drewN ?_ _ | refine blk_drew ?_ | refine blk_alloc ?_ _)); refine blk_far ?_ NB195_194.out _; (with_reducible repeat (first | refine blk_drewN ?_ _ | refine blk_drew ?_ | refine blk_alloc ?_ _)); exact BK195.out⟩, ⟨by repeat (first | (with_reducible first | exact HB.out | apply below_alloc | apply pw_below_drewN | apply below_drew1 | refine below_set ?_ GE193.out | refine below_set ?_ GE194.out | refine below_set ?_ GE195.out) | exact HB.out)⟩⟩
        · replace c46 := Bool.eq_false_iff.mpr c46
          subst c46
          have H1 : (trustquorumlaw23_BallotsPrepares.j1 kj5 t184 t185 t187 t188 t190 t191) = some r := by rw [if_neg (show ¬ (false = true) by decide)] at H; exact H
          clear H
          have H := H1
          clear H1
          have H' := Aside0.mk H
          clear H
          go_wp2
          go_meet
          case rel => exact ⟨_, (t187), (t188), H', ⟨by have := HJ5.out; first | omega | exact Nat.le_refl _⟩, ⟨by (with_reducible repeat (first | refine blk_drewN ?_ _ | refine blk_drew ?_ | refine blk_alloc ?_ _)); exact BK193.out⟩, ⟨by (with_reducible repeat (first | refine blk_drewN ?_ _ | refine blk_drew ?_ | refine blk_alloc ?_ _)); exact BK194.out⟩, ⟨by (with_reducible repeat (first | refine blk_drewN ?_ _ | refine blk_drew ?_ | refine blk_alloc ?_ _)); exact BK195.out⟩, ⟨by repeat (first | (with_reducible first | exact HB.out | apply below_alloc | apply pw_below_drewN | apply below_drew1 | refine below_set ?_ GE193.out | refine below_set ?_ GE194.out | refine below_set ?_ GE195.out) | exact HB.out)⟩⟩
      case rest =>
        clear HC45
        try clear c1
        try clear c2
        try clear p2
        try clear c3
        try clear c4
        try clear c5
        try clear c9
        try clear c10
        try clear c14
        try clear c15
        try clear c16
        try clear c18
        try clear c19
        try clear c21
        try clear c24
        try clear c26
        try clear c27
        try clear c28
        try clear c30
        try clear c31
        try clear c37
        try clear c38
        try clear c39
        try clear c41
        try clear c42
        try clear c46
        try clear c47
        try clear c48
        try clear hcz17_0
        try clear hcz17_1
        try clear hcz20_0
        try clear hcz20_1
        try clear hcz22_0
        try clear hcz22_1
        try clear hcz29_0
        try clear hcz29_1
        try clear hcz32_0
        try clear hcz32_1
        try clear hcz34_0
        try clear hcz34_1
        try clear hcz35_0
        try clear hcz35_1
        try clear hcz40_0
        try clear hcz40_1
        try clear hcz43_0
        try clear hcz43_1
        try clear hcz49_0
        try clear hcz49_1
        try clear hfz17_0
        try clear hfz17_1
        try clear hfz20_0
        try clear hfz20_1
        try clear hfz22_0
        try clear hfz22_1
        try clear hfz29_0
        try clear hfz29_1
        try clear hfz32_0
        try clear hfz32_1
        try clear hfz34_0
        try clear hfz34_1
        try clear hfz35_0
        try clear hfz35_1
        try clear hfz40_0
        try clear hfz40_1
        try clear hfz43_0
        try clear hfz43_1
        try clear hfz49_0
        try clear hfz49_1
        try clear p2
        obtain ⟨kq, x195000_44, x195001_44, HA, HJ44, BK193, BK194, BK195, HB⟩ := hcut
        cases kq with
        | zero => exact absurd HA.out (by simp [trustquorumlaw23_BallotsPrepares.j1])
        | succ kj44 =>
          have H := HA.out
          clear HA
          simp only [trustquorumlaw23_BallotsPrepares.j1] at H
          have H' := Aside0.mk H
          clear H
          go_wp2
          go_loopg [7, 8] kj44 (fun kq v7 v8 w' => ∃ (x7_3 : Bool) (x8_3 : Int), v7 = .bool x7_3 ∧ v8 = .int .i64 x8_3 ∧ Aside0 (trustquorumlaw23_BallotsPrepares.l0 kq x7_3 x8_3 t184 t185 x195000_44 x195001_44 t190 t191 = some r) ∧ Aside0 (kq ≤ kj44) ∧ Aside0 (w'.heap[gb193]? = some (.cells #[.int .i64 t184, .string t185] 26 (0, 0))) ∧ Aside0 (w'.heap[gb194]? = some (.cells #[.int .i64 x195000_44, .string x195001_44] 26 (0, 0))) ∧ Aside0 (w'.heap[gb195]? = some (.cells #[.int .i64 t190, .string t191] 26 (0, 0))) ∧ Aside0 (Below w.heap.size w w'))
          case atStart => exact ⟨(true), (1), (by first | rfl | (simp; done) | (simp [*]; done)), (by first | rfl | (simp; done) | (simp [*]; done)), H', ⟨Nat.le_refl _⟩, ⟨by (with_reducible repeat (first | refine blk_drewN ?_ _ | refine blk_drew ?_ | refine blk_alloc ?_ _)); exact BK193.out⟩, ⟨by (with_reducible repeat (first | refine blk_drewN ?_ _ | refine blk_drew ?_ | refine blk_alloc ?_ _)); exact BK194.out⟩, ⟨by (with_reducible repeat (first | refine blk_drewN ?_ _ | refine blk_drew ?_ | refine blk_alloc ?_ _)); exact BK195.out⟩, ⟨by repeat (first | (with_reducible first | exact HB.out | apply below_alloc | apply pw_below_drewN | apply below_drew1 | refine below_set ?_ GE193.out | refine below_set ?_ GE194.out | refine below_set ?_ GE195.out) | exact HB.out)⟩⟩
          case round =>
            clear H'
            try clear c1
            try clear c2
            try clear p2
            try clear c3
            try clear c4
            try clear c5
            try clear c9
            try clear c10
            try clear c14
            try clear c15
            try clear c16
            try clear c18
            try clear c19
            try clear c21
            try clear c24
            try clear c26
            try clear c27
            try clear c28
            try clear c30
            try clear c31
            try clear c37
            try clear c38
            try clear c39
            try clear c41
            try clear c42
            try clear c46
            try clear c47
            try clear c48
            try clear hcz17_0
            try clear hcz17_1
            try clear hcz20_0
            try clear hcz20_1
            try clear hcz22_0
            try clear hcz22_1
            try clear hcz29_0
            try clear hcz29_1
            try clear hcz32_0
            try clear hcz32_1
            try clear hcz34_0
            try clear hcz34_1
            try clear hcz35_0
            try clear hcz35_1
            try clear hcz40_0
            try clear hcz40_1
            try clear hcz43_0
            try clear hcz43_1
            try clear hcz49_0
            try clear hcz49_1
            try clear hfz17_0
            try clear hfz17_1
            try clear hfz20_0
            try clear hfz20_1
            try clear hfz22_0
            try clear hfz22_1
            try clear hfz29_0
            try clear hfz29_1
            try clear hfz32_0
            try clear hfz32_1
            try clear hfz34_0
            try clear hfz34_1
            try clear hfz35_0
            try clear hfz35_1
            try clear hfz40_0
            try clear hfz40_1
            try clear hfz43_0
            try clear hfz43_1
            try clear hfz49_0
            try clear hfz49_1
            try clear p2
            obtain ⟨x7_3, x8_3, rfl, rfl, HA, HK3, BK193, BK194, BK195, HB⟩ := hrel
            cases gk with
            | zero => exact absurd HA.out (by simp [trustquorumlaw23_BallotsPrepares.l0])
            | succ k3 =>
              have H := HA.out
              clear HA
              simp only [trustquorumlaw23_BallotsPrepares.l0] at H
              by_cases c50 : x8_3 ≤ 7
              · rw [if_pos c50] at H
                have c50b0 : decide (x8_3 ≤ 7) = true := decide_eq_true c50
                clear c50
                obtain ⟨y201, hy201⟩ : ∃ y_ : List ByteArray, y_ = (([(⟨#[97]⟩ : ByteArray), (⟨#[98]⟩ : ByteArray), (⟨#[99]⟩ : ByteArray), (⟨#[97, 97]⟩ : ByteArray)] : List ByteArray)) := ⟨_, rfl⟩
                replace H : (trustquorumlaw23_BallotsPrepares.l1 k3 x7_3 x8_3 y201 (y201.length : Int) 0 t184 t185 x195000_44 x195001_44 t190 t191) = some r := by first | (rw [hy201]; with_reducible exact H) | (have H2_ := (Option.bind_some _ _).symm.trans H; rw [hy201]; with_reducible exact H2_) | (have H2_ := (Option.bind_some _ _).symm.trans H; with_reducible exact H2_) | with_reducible exact H | (rw [hy201]; exact H) | exact H
                have Ny201 := Aside0.mk hy201
                clear hy201
                have H' := Aside0.mk H
                clear H
                go_wp2_with (first | ((with_reducible refine gate_dst (N := 34) rfl ?_); refine Kd.R_lit Kd.string _ 9 ?hg (N := 34) ?hd (xs := ([(⟨#[97]⟩ : ByteArray), (⟨#[98]⟩ : ByteArray), (⟨#[99]⟩ : ByteArray), (⟨#[97, 97]⟩ : ByteArray)] : List ByteArray)) (inner := [.string (⟨#[97]⟩ : ByteArray), .string (⟨#[98]⟩ : ByteArray), .string (⟨#[99]⟩ : ByteArray), .string (⟨#[97, 97]⟩ : ByteArray)]) (ok := fun _ => True) (okp := fun _ => True) ?hr ?hp (fun _ hk => hk) trivial (Below.refl _ _) (Nat.le_refl _) (by simp) ?_; (case hd => rfl); (case hg => rfl); (case hr => first | (go_simp; done) | (go_simp; rfl)); (case hp => exact (Reps.one (show Kd.M Kd.string _ _ _ (⟨#[97]⟩ : ByteArray) [.string (⟨#[97]⟩ : ByteArray)] from rfl) (Reps.one (show Kd.M Kd.string _ _ _ (⟨#[98]⟩ : ByteArray) [.string (⟨#[98]⟩ : ByteArray)] from rfl) (Reps.one (show Kd.M Kd.string _ _ _ (⟨#[99]⟩ : ByteArray) [.string (⟨#[99]⟩ : ByteArray)] from rfl) (Reps.one (show Kd.M Kd.string _ _ _ (⟨#[97, 97]⟩ : ByteArray) [.string (⟨#[97, 97]⟩ : ByteArray)] from rfl) (Reps.none _ _)))))); intro v202 w51 ho52 hb hg_ hnew_; clear hg_ hnew_; (first | rw [← Ny201.out] at ho52 | (simp only [Int.reduceToNat] at ho52; rw [← Ny201.out] at ho52)); have n0_ := Aside0.mk (Kd.R_lower ho52 (below_size (by repeat (first | (with_reducible first | exact HB.out | apply below_alloc | apply pw_below_drewN | apply below_drew1 | refine below_set ?_ GE193.out | refine below_set ?_ GE194.out | refine below_set ?_ GE195.out) | exact HB.out)))); have n1_ := Aside0.mk (blk_below (g := gb193) (o := .cells #[.int .i64 t184, .string t185] 26 (0, 0)) (by (with_reducible repeat (first | refine blk_drewN ?_ _ | refine blk_drew ?_ | refine blk_alloc ?_ _)); exact BK193.out) hb); have n2_ := Aside0.mk (blk_below (g := gb194) (o := .cells #[.int .i64 x195000_44, .string x195001_44] 26 (0, 0)) (by (with_reducible repeat (first | refine blk_drewN ?_ _ | refine blk_drew ?_ | refine blk_alloc ?_ _)); exact BK194.out) hb); have n3_ := Aside0.mk (blk_below (g := gb195) (o := .cells #[.int .i64 t190, .string t191] 26 (0, 0)) (by (with_reducible repeat (first | refine blk_drewN ?_ _ | refine blk_drew ?_ | refine blk_alloc ?_ _)); exact BK195.out) hb); have n4_ := Aside0.mk (below_step (by repeat (first | (with_reducible first | exact HB.out | apply below_alloc | apply pw_below_drewN | apply below_drew1 | refine below_set ?_ GE193.out | refine below_set ?_ GE194.out | refine below_set ?_ GE195.out) | exact HB.out)) hb); clear BK193; clear BK194; clear BK195; clear HB; have HO203 := n0_; have BK193 := n1_; have BK194 := n2_; have BK195 := n3_; have HB := n4_; clear n0_ n1_ n2_ n3_ n4_; clear hb ho52; obtain ⟨Ao53, co53, eo53⟩ := Kd.R_slice HO203.out; subst eo53))
                go_loopg [7, 36] k3 (fun kq v7 v36 w' => ∃ (x7_4 : Bool) (x36_4 : Int), v7 = .bool x7_4 ∧ v36 = .int .i64 x36_4 ∧ Aside0 (trustquorumlaw23_BallotsPrepares.l1 kq x7_4 x8_3 y201 (y201.length : Int) x36_4 t184 t185 x195000_44 x195001_44 t190 t191 = some r) ∧ Aside0 (kq ≤ k3) ∧ Aside0 (Kd.R Kd.string 9 w' w.heap.size (fun _ => True) (.slice Ao53 y201.length co53) y201) ∧ Aside0 (w'.heap[gb193]? = some (.cells #[.int .i64 t184, .string t185] 26 (0, 0))) ∧ Aside0 (w'.heap[gb194]? = some (.cells #[.int .i64 x195000_44, .string x195001_44] 26 (0, 0))) ∧ Aside0 (w'.heap[gb195]? = some (.cells #[.int .i64 t190, .string t191] 26 (0, 0))) ∧ Aside0 (Below w.heap.size w w'))
                case atStart => exact ⟨(x7_3), (0), (by first | rfl | (simp; done) | (simp [*]; done)), (by first | rfl | (simp; done) | (simp [*]; done)), H', ⟨Nat.le_refl _⟩, ⟨by (with_reducible repeat (first | apply Kd.R_alloc | apply Kd.R_drewN | apply Kd.R_drew)); exact HO203.out⟩, ⟨by (with_reducible repeat (first | refine blk_drewN ?_ _ | refine blk_drew ?_ | refine blk_alloc ?_ _)); exact BK193.out⟩, ⟨by (with_reducible repeat (first | refine blk_drewN ?_ _ | refine blk_drew ?_ | refine blk_alloc ?_ _)); exact BK194.out⟩, ⟨by (with_reducible repeat (first | refine blk_drewN ?_ _ | refine blk_drew ?_ | refine blk_alloc ?_ _)); exact BK195.out⟩, ⟨by repeat (first | (with_reducible first | exact HB.out | apply below_alloc | apply pw_below_drewN | apply below_drew1 | refine below_set ?_ GE193.out | refine below_set ?_ GE194.out | refine below_set ?_ GE195.out) | exact HB.out)⟩⟩
                case round =>
                  clear H'
                  try clear c1
                  try clear c2
                  try clear p2
                  try clear c3
                  try clear c4
                  try clear c5
                  try clear c9
                  try clear c10
                  try clear c14
                  try clear c15
                  try clear c16
                  try clear c18
                  try clear c19
                  try clear c21
                  try clear c24
                  try clear c26
                  try clear c27
                  try clear c28
                  try clear c30
                  try clear c31
                  try clear c37
                  try clear c38
                  try clear c39
                  try clear c41
                  try clear c42
                  try clear c46
                  try clear c47
                  try clear c48
                  try clear c50
                  try clear c50b0
                  try clear hcz17_0
                  try clear hcz17_1
                  try clear hcz20_0
                  try clear hcz20_1
                  try clear hcz22_0
                  try clear hcz22_1
                  try clear hcz29_0
                  try clear hcz29_1
                  try clear hcz32_0
                  try clear hcz32_1
                  try clear hcz34_0
                  try clear hcz34_1
                  try clear hcz35_0
                  try clear hcz35_1
                  try clear hcz40_0
                  try clear hcz40_1
                  try clear hcz43_0
                  try clear hcz43_1
                  try clear hcz49_0
                  try clear hcz49_1
                  try clear hfz17_0
                  try clear hfz17_1
                  try clear hfz20_0
                  try clear hfz20_1
                  try clear hfz22_0
                  try clear hfz22_1
                  try clear hfz29_0
                  try clear hfz29_1
                  try clear hfz32_0
                  try clear hfz32_1
                  try clear hfz34_0
                  try clear hfz34_1
                  try clear hfz35_0
                  try clear hfz35_1
                  try clear hfz40_0
                  try clear hfz40_1
                  try clear hfz43_0
                  try clear hfz43_1
                  try clear hfz49_0
                  try clear hfz49_1
                  try clear p2
                  obtain ⟨x7_4, x36_4, rfl, rfl, HA, HK4, HO_34, BK193, BK194, BK195, HB⟩ := hrel
                  cases gk with
                  | zero => exact absurd HA.out (by simp [trustquorumlaw23_BallotsPrepares.l1])
                  | succ k4 =>
                    have H := HA.out
                    clear HA
                    simp only [trustquorumlaw23_BallotsPrepares.l1] at H
                    by_cases c54 : x36_4 < (y201.length : Int)
                    · rw [if_pos c54] at H
                      have c54b0 : decide (x36_4 < (y201.length : Int)) = true := decide_eq_true c54
                      clear c54
                      by_cases c55 : 0 ≤ x36_4
                      · rw [if_pos c55] at H
                        have c55b0 : decide (0 ≤ x36_4) = true := decide_eq_true c55
                        clear c55
                        by_cases c56 : x36_4 < (y201.length : Int)
                        · rw [if_pos c56] at H
                          have c56b0 : decide (x36_4 < (y201.length : Int)) = true := decide_eq_true c56
                          clear c56
                          replace H := Option.bind_eq_some_iff.mp H
                          obtain ⟨t206, A570, H⟩ := H
                          replace H : (if t206 = true then ((trustquorumref23_Compatible.f x8_3 (rdOf ByteArray.empty y201 x36_4) t190 t191).bind fun t207 => (if t207 = true then (trustquorumlaw23_BallotsPrepares.l1 k4 x7_4 x8_3 y201 (y201.length : Int) (wrap64 (x36_4 + 1)) t184 t185 x195000_44 x195001_44 t190 t191) else ((ballots_Aborts.f k4 t184 t185 x8_3 (rdOf ByteArray.empty y201 x36_4)).bind fun t208 => (if t208 = true then (trustquorumlaw23_BallotsPrepares.l1 k4 x7_4 x8_3 y201 (y201.length : Int) (wrap64 (x36_4 + 1)) t184 t185 x195000_44 x195001_44 t190 t191) else ((ballots_Aborts.f k4 x195000_44 x195001_44 x8_3 (rdOf ByteArray.empty y201 x36_4)).bind fun t209 => (if t209 = true then (trustquorumlaw23_BallotsPrepares.l1 k4 x7_4 x8_3 y201 (y201.length : Int) (wrap64 (x36_4 + 1)) t184 t185 x195000_44 x195001_44 t190 t191) else (trustquorumlaw23_BallotsPrepares.l1 k4 false x8_3 y201 (y201.length : Int) (wrap64 (x36_4 + 1)) t184 t185 x195000_44 x195001_44 t190 t191))))))) else (trustquorumlaw23_BallotsPrepares.l1 k4 x7_4 x8_3 y201 (y201.length : Int) (wrap64 (x36_4 + 1)) t184 t185 x195000_44 x195001_44 t190 t191)) = some r := H
                          have A57 := Aside0.mk A570
                          clear A570
                          by_cases c58 : t206 = true
                          · subst c58
                            have H1 : ((trustquorumref23_Compatible.f x8_3 (rdOf ByteArray.empty y201 x36_4) t190 t191).bind fun t207 => (if t207 = true then (trustquorumlaw23_BallotsPrepares.l1 k4 x7_4 x8_3 y201 (y201.length : Int) (wrap64 (x36_4 + 1)) t184 t185 x195000_44 x195001_44 t190 t191) else ((ballots_Aborts.f k4 t184 t185 x8_3 (rdOf ByteArray.empty y201 x36_4)).bind fun t208 => (if t208 = true then (trustquorumlaw23_BallotsPrepares.l1 k4 x7_4 x8_3 y201 (y201.length : Int) (wrap64 (x36_4 + 1)) t184 t185 x195000_44 x195001_44 t190 t191) else ((ballots_Aborts.f k4 x195000_44 x195001_44 x8_3 (rdOf ByteArray.empty y201 x36_4)).bind fun t209 => (if t209 = true then (trustquorumlaw23_BallotsPrepares.l1 k4 x7_4 x8_3 y201 (y201.length : Int) (wrap64 (x36_4 + 1)) t184 t185 x195000_44 x195001_44 t190 t191) else (trustquorumlaw23_BallotsPrepares.l1 k4 false x8_3 y201 (y201.length : Int) (wrap64 (x36_4 + 1)) t184 t185 x195000_44 x195001_44 t190 t191))))))) = some r := by rw [if_pos rfl] at H; exact H
                            clear H
                            have H := H1
                            clear H1
                            replace H := Option.bind_eq_some_iff.mp H
                            obtain ⟨t207, A590, H⟩ := H
                            replace H : (if t207 = true then (trustquorumlaw23_BallotsPrepares.l1 k4 x7_4 x8_3 y201 (y201.length : Int) (wrap64 (x36_4 + 1)) t184 t185 x195000_44 x195001_44 t190 t191) else ((ballots_Aborts.f k4 t184 t185 x8_3 (rdOf ByteArray.empty y201 x36_4)).bind fun t208 => (if t208 = true then (trustquorumlaw23_BallotsPrepares.l1 k4 x7_4 x8_3 y201 (y201.length : Int) (wrap64 (x36_4 + 1)) t184 t185 x195000_44 x195001_44 t190 t191) else ((ballots_Aborts.f k4 x195000_44 x195001_44 x8_3 (rdOf ByteArray.empty y201 x36_4)).bind fun t209 => (if t209 = true then (trustquorumlaw23_BallotsPrepares.l1 k4 x7_4 x8_3 y201 (y201.length : Int) (wrap64 (x36_4 + 1)) t184 t185 x195000_44 x195001_44 t190 t191) else (trustquorumlaw23_BallotsPrepares.l1 k4 false x8_3 y201 (y201.length : Int) (wrap64 (x36_4 + 1)) t184 t185 x195000_44 x195001_44 t190 t191)))))) = some r := H
                            have A59 := Aside0.mk A590
                            clear A590
                            by_cases c60 : t207 = true
                            · subst c60
                              have H1 : (trustquorumlaw23_BallotsPrepares.l1 k4 x7_4 x8_3 y201 (y201.length : Int) (wrap64 (x36_4 + 1)) t184 t185 x195000_44 x195001_44 t190 t191) = some r := by rw [if_pos rfl] at H; exact H
                              clear H
                              have H := H1
                              clear H1
                              have H' := Aside0.mk H
                              clear H
                              have p204 : 0 ≤ (x36_4 : Int) := of_decide_eq_true (by first | (with_reducible assumption) | assumption)
                              have q204 : x36_4 < (y201.length : Int) := of_decide_eq_true (by first | (with_reducible assumption) | assumption)
                              obtain ⟨ad204, e204, hx204_0⟩ := Kd.at_string (Kd.R_reads' HO_34.out).2.2 x36_4 p204 q204
                              cases e204
                              replace p204 := eq_true p204
                              replace q204 := eq_true q204
                              go_wp2_with (first | ((with_reducible refine gate_dst (N := 11) rfl ?_); refine box_event ?hg (N := 11) ?hd (cs := #[.int .i64 0, .string (⟨#[]⟩ : ByteArray)]) (t := 26) ?hr ?_; (case hd => rfl); (case hg => rfl); (case hr => first | (go_simp; done) | (go_simp; rfl)); intro gb205 hg w61 hbox hb; have n0_ := Aside0.mk (Kd.R_below (by (with_reducible repeat (first | apply Kd.R_alloc | apply Kd.R_drewN | apply Kd.R_drew)); exact HO_34.out) hb); have n1_ := Aside0.mk (blk_below (g := gb193) (o := .cells #[.int .i64 t184, .string t185] 26 (0, 0)) (by (with_reducible repeat (first | refine blk_drewN ?_ _ | refine blk_drew ?_ | refine blk_alloc ?_ _)); exact BK193.out) hb); have n2_ := Aside0.mk (blk_below (g := gb194) (o := .cells #[.int .i64 x195000_44, .string x195001_44] 26 (0, 0)) (by (with_reducible repeat (first | refine blk_drewN ?_ _ | refine blk_drew ?_ | refine blk_alloc ?_ _)); exact BK194.out) hb); have n3_ := Aside0.mk (blk_below (g := gb195) (o := .cells #[.int .i64 t190, .string t191] 26 (0, 0)) (by (with_reducible repeat (first | refine blk_drewN ?_ _ | refine blk_drew ?_ | refine blk_alloc ?_ _)); exact BK195.out) hb); have n4_ := Aside0.mk (below_step (by repeat (first | (with_reducible first | exact HB.out | apply below_alloc | apply pw_below_drewN | apply below_drew1 | refine below_set ?_ GE193.out | refine below_set ?_ GE194.out | refine below_set ?_ GE195.out) | exact HB.out)) hb); have n5_ := Aside0.mk (hbox); have n6_ := Aside0.mk ((by rw [hg]; exact (below_size (by repeat (first | (with_reducible first | exact HB.out | apply below_alloc | apply pw_below_drewN | apply below_drew1 | refine below_set ?_ GE193.out | refine below_set ?_ GE194.out | refine below_set ?_ GE195.out) | exact HB.out))) : w.heap.size ≤ gb205)); have n7_ := Aside0.mk ((by rw [hg]; exact (below_size (by repeat (first | (with_reducible first | exact HB.out | apply below_alloc | apply pw_below_drewN | apply below_drew1 | refine below_set ?_ GE193.out | refine below_set ?_ GE194.out | refine below_set ?_ GE195.out) | exact HB.out))) : w.heap.size ≤ gb205)); have n8_ := Aside0.mk ((by rw [hg]; exact Nat.ne_of_lt (blk_lt (g := gb193) (o := .cells #[.int .i64 t184, .string t185] 26 (0, 0)) (by (with_reducible repeat (first | refine blk_drewN ?_ _ | refine blk_drew ?_ | refine blk_alloc ?_ _)); exact BK193.out)) : gb193 ≠ gb205)); have n9_ := Aside0.mk ((by rw [hg]; exact Nat.ne_of_gt (blk_lt (g := gb193) (o := .cells #[.int .i64 t184, .string t185] 26 (0, 0)) (by (with_reducible repeat (first | refine blk_drewN ?_ _ | refine blk_drew ?_ | refine blk_alloc ?_ _)); exact BK193.out)) : gb205 ≠ gb193)); have n10_ := Aside0.mk ((by rw [hg]; exact Nat.ne_of_lt (blk_lt (g := gb194) (o := .cells #[.int .i64 x195000_44, .string x195001_44] 26 (0, 0)) (by (with_reducible repeat (first | refine blk_drewN ?_ _ | refine blk_drew ?_ | refine blk_alloc ?_ _)); exact BK194.out)) : gb194 ≠ gb205)); have n11_ := Aside0.mk ((by rw [hg]; exact Nat.ne_of_gt (blk_lt (g := gb194) (o := .cells #[.int .i64 x195000_44, .string x195001_44] 26 (0, 0)) (by (with_reducible repeat (first | refine blk_drewN ?_ _ | refine blk_drew ?_ | refine blk_alloc ?_ _)); exact BK194.out)) : gb205 ≠ gb194)); have n12_ := Aside0.mk ((by rw [hg]; exact Nat.ne_of_lt (blk_lt (g := gb195) (o := .cells #[.int .i64 t190, .string t191] 26 (0, 0)) (by (with_reducible repeat (first | refine blk_drewN ?_ _ | refine blk_drew ?_ | refine blk_alloc ?_ _)); exact BK195.out)) : gb195 ≠ gb205)); have n13_ := Aside0.mk ((by rw [hg]; exact Nat.ne_of_gt (blk_lt (g := gb195) (o := .cells #[.int .i64 t190, .string t191] 26 (0, 0)) (by (with_reducible repeat (first | refine blk_drewN ?_ _ | refine blk_drew ?_ | refine blk_alloc ?_ _)); exact BK195.out)) : gb205 ≠ gb195)); clear HO_34; clear BK193; clear BK194; clear BK195; clear HB; have HO_34 := n0_; have BK193 := n1_; have BK194 := n2_; have BK195 := n3_; have HB := n4_; have BK205 := n5_; have GW205 := n6_; have GE205 := n7_; have NB193_205 := n8_; have NB205_193 := n9_; have NB194_205 := n10_; have NB205_194 := n11_; have NB195_205 := n12_; have NB205_195 := n13_; clear n0_ n1_ n2_ n3_ n4_ n5_ n6_ n7_ n8_ n9_ n10_ n11_ n12_ n13_; clear hb hbox hg; have hnb62 := NB205_193.out; have hnc62 := NB193_205.out; have hnb63 := NB205_194.out; have hnc63 := NB194_205.out; have hnb64 := NB205_195.out; have hnc64 := NB195_205.out; have hcz65_0 : w61.cell? ⟨gb205, 0, none⟩ = some (.int .i64 0) := (blk_cell BK205.out 0).trans rfl; have hcz65_1 : w61.cell? ⟨gb205, 1, none⟩ = some (.string (⟨#[]⟩ : ByteArray)) := (blk_cell BK205.out 1).trans rfl; have hfz65_0 := blk_frozen BK205.out 0; have hfz65_1 := blk_frozen BK205.out 1; have hnb66 := NB195_193.out; have hnc66 := NB193_195.out; have hnb67 := NB195_194.out; have hnc67 := NB194_195.out; have hcz68_0 : w61.cell? ⟨gb195, 0, none⟩ = some (.int .i64 t190) := (blk_cell BK195.out 0).trans rfl; have hcz68_1 : w61.cell? ⟨gb195, 1, none⟩ = some (.string t191) := (blk_cell BK195.out 1).trans rfl; have hfz68_0 := blk_frozen BK195.out 0; have hfz68_1 := blk_frozen BK195.out 1) | ((with_reducible refine gate_callee (f := 20) rfl ?_); refine goesL_ (some 45) rfl rfl Try.func20 (by kernel_rfl) rfl #[.agg #[.int .i64 x8_3, .string (rdOf ByteArray.empty y201 x36_4)], .agg #[.int .i64 t190, .string t191]] rfl (by (try simp only [List.map_toArray, List.map_cons, List.map_nil]); first | done | rfl | (simp only [List.length_drop, List.length_take]; rfl)) ?_; (with_reducible refine (trustquorumref23_Less.calls x8_3 (rdOf ByteArray.empty y201 x36_4) t190 t191 true _ A57.out).mono ?_); rintro e w69 ⟨rfl, hb⟩; refine ⟨_, rfl, ?_⟩; have n0_ := Aside0.mk (Kd.R_below (by (with_reducible repeat (first | apply Kd.R_alloc | apply Kd.R_drewN | apply Kd.R_drew)); exact (Kd.R_mono (Kd.R_far (p := ⟨gb205, 1, none⟩) (Kd.R_far (p := ⟨gb205, 0, none⟩) (Kd.R_types HO_34.out BK205.out (by decide)) (fun _ hk => hk.2) (.int .i64 x8_3)) (fun _ hk => hk.2) (.string (rdOf ByteArray.empty y201 x36_4))) (fun _ h_ => h_.1))) hb); have n1_ := Aside0.mk (blk_below (g := gb193) (o := .cells #[.int .i64 t184, .string t185] 26 (0, 0)) (by (with_reducible repeat (first | refine blk_drewN ?_ _ | refine blk_drew ?_ | refine blk_alloc ?_ _)); refine blk_far ?_ NB193_205.out _; (with_reducible repeat (first | refine blk_drewN ?_ _ | refine blk_drew ?_ | refine blk_alloc ?_ _)); refine blk_far ?_ NB193_205.out _; (with_reducible repeat (first | refine blk_drewN ?_ _ | refine blk_drew ?_ | refine blk_alloc ?_ _)); exact BK193.out) hb); have n2_ := Aside0.mk (blk_below (g := gb194) (o := .cells #[.int .i64 x195000_44, .string x195001_44] 26 (0, 0)) (by (with_reducible repeat (first | refine blk_drewN ?_ _ | refine blk_drew ?_ | refine blk_alloc ?_ _)); refine blk_far ?_ NB194_205.out _; (with_reducible repeat (first | refine blk_drewN ?_ _ | refine blk_drew ?_ | refine blk_alloc ?_ _)); refine blk_far ?_ NB194_205.out _; (with_reducible repeat (first | refine blk_drewN ?_ _ | refine blk_drew ?_ | refine blk_alloc ?_ _)); exact BK194.out) hb); have n3_ := Aside0.mk (blk_below (g := gb195) (o := .cells #[.int .i64 t190, .string t191] 26 (0, 0)) (by (with_reducible repeat (first | refine blk_drewN ?_ _ | refine blk_drew ?_ | refine blk_alloc ?_ _)); refine blk_far ?_ NB195_205.out _; (with_reducible repeat (first | refine blk_drewN ?_ _ | refine blk_drew ?_ | refine blk_alloc ?_ _)); refine blk_far ?_ NB195_205.out _; (with_reducible repeat (first | refine blk_drewN ?_ _ | refine blk_drew ?_ | refine blk_alloc ?_ _)); exact BK195.out) hb); have n4_ := Aside0.mk (blk_below (g := gb205) (o := .cells #[.int .i64 x8_3, .string (rdOf ByteArray.empty y201 x36_4)] 26 (0, 0)) (by (with_reducible repeat (first | refine blk_drewN ?_ _ | refine blk_drew ?_ | refine blk_alloc ?_ _)); refine blk_put (cs := #[.int .i64 x8_3, .string (⟨#[]⟩ : ByteArray)]) ?_ 1 _ rfl; (with_reducible repeat (first | refine blk_drewN ?_ _ | refine blk_drew ?_ | refine blk_alloc ?_ _)); refine blk_put (cs := #[.int .i64 0, .string (⟨#[]⟩ : ByteArray)]) ?_ 0 _ rfl; (with_reducible repeat (first | refine blk_drewN ?_ _ | refine blk_drew ?_ | refine blk_alloc ?_ _)); exact BK205.out) hb); have n5_ := Aside0.mk (below_step (by repeat (first | (with_reducible first | exact HB.out | apply below_alloc | apply pw_below_drewN | apply below_drew1 | refine below_set ?_ GE193.out | refine below_set ?_ GE194.out | refine below_set ?_ GE195.out | refine below_set ?_ GE205.out) | exact HB.out)) hb); clear HO_34; clear BK193; clear BK194; clear BK195; clear BK205; clear HB; have HO_34 := n0_; have BK193 := n1_; have BK194 := n2_; have BK195 := n3_; have BK205 := n4_; have HB := n5_; clear n0_ n1_ n2_ n3_ n4_ n5_; (try clear hb); (try clear hb2); (try clear hk); (try clear hi); have hcz70_0 : w69.cell? ⟨gb205, 0, none⟩ = some (.int .i64 x8_3) := (blk_cell BK205.out 0).trans rfl; have hcz70_1 : w69.cell? ⟨gb205, 1, none⟩ = some (.string (rdOf ByteArray.empty y201 x36_4)) := (blk_cell BK205.out 1).trans rfl; have hfz70_0 := blk_frozen BK205.out 0; have hfz70_1 := blk_frozen BK205.out 1; have hcz71_0 : w69.cell? ⟨gb195, 0, none⟩ = some (.int .i64 t190) := (blk_cell BK195.out 0).trans rfl; have hcz71_1 : w69.cell? ⟨gb195, 1, none⟩ = some (.string t191) := (blk_cell BK195.out 1).trans rfl; have hfz71_0 := blk_frozen BK195.out 0; have hfz71_1 := blk_frozen BK195.out 1) | (go_at_call 21; (with_reducible refine (trustquorumref23_Compatible.calls x8_3 (rdOf ByteArray.empty y201 x36_4) t190 t191 true _ A59.out).mono ?_); rintro e w72 ⟨rfl, hb⟩; have n0_ := Aside0.mk (Kd.R_below (by (with_reducible repeat (first | apply Kd.R_alloc | apply Kd.R_drewN | apply Kd.R_drew)); exact HO_34.out) hb); have n1_ := Aside0.mk (blk_below (g := gb193) (o := .cells #[.int .i64 t184, .string t185] 26 (0, 0)) (by (with_reducible repeat (first | refine blk_drewN ?_ _ | refine blk_drew ?_ | refine blk_alloc ?_ _)); exact BK193.out) hb); have n2_ := Aside0.mk (blk_below (g := gb194) (o := .cells #[.int .i64 x195000_44, .string x195001_44] 26 (0, 0)) (by (with_reducible repeat (first | refine blk_drewN ?_ _ | refine blk_drew ?_ | refine blk_alloc ?_ _)); exact BK194.out) hb); have n3_ := Aside0.mk (blk_below (g := gb195) (o := .cells #[.int .i64 t190, .string t191] 26 (0, 0)) (by (with_reducible repeat (first | refine blk_drewN ?_ _ | refine blk_drew ?_ | refine blk_alloc ?_ _)); exact BK195.out) hb); have n4_ := Aside0.mk (blk_below (g := gb205) (o := .cells #[.int .i64 x8_3, .string (rdOf ByteArray.empty y201 x36_4)] 26 (0, 0)) (by (with_reducible repeat (first | refine blk_drewN ?_ _ | refine blk_drew ?_ | refine blk_alloc ?_ _)); exact BK205.out) hb); have n5_ := Aside0.mk (below_step (by repeat (first | (with_reducible first | exact HB.out | apply below_alloc | apply pw_below_drewN | apply below_drew1 | refine below_set ?_ GE193.out | refine below_set ?_ GE194.out | refine below_set ?_ GE195.out | refine below_set ?_ GE205.out) | exact HB.out)) hb); clear HO_34; clear BK193; clear BK194; clear BK195; clear BK205; clear HB; have HO_34 := n0_; have BK193 := n1_; have BK194 := n2_; have BK195 := n3_; have BK205 := n4_; have HB := n5_; clear n0_ n1_ n2_ n3_ n4_ n5_; (try clear hb); (try clear hb2); (try clear hk); (try clear hi)))
                              go_roundg k4
                              case measure => have := HJ5.out; have := HJ44.out; have := HK3.out; have := HK4.out; omega
                              case rel => exact ⟨(x7_4), (wrap64 (x36_4 + 1)), (by first | rfl | (simp; done) | (simp [*]; done)), (by first | rfl | (simp; done) | (simp [*]; done)), H', ⟨by have := HJ5.out; have := HJ44.out; have := HK3.out; have := HK4.out; omega⟩, ⟨by (with_reducible repeat (first | apply Kd.R_alloc | apply Kd.R_drewN | apply Kd.R_drew)); exact HO_34.out⟩, ⟨by (with_reducible repeat (first | refine blk_drewN ?_ _ | refine blk_drew ?_ | refine blk_alloc ?_ _)); exact BK193.out⟩, ⟨by (with_reducible repeat (first | refine blk_drewN ?_ _ | refine blk_drew ?_ | refine blk_alloc ?_ _)); exact BK194.out⟩, ⟨by (with_reducible repeat (first | refine blk_drewN ?_ _ | refine blk_drew ?_ | refine blk_alloc ?_ _)); exact BK195.out⟩, ⟨by repeat (first | (with_reducible first | exact HB.out | apply below_alloc | apply pw_below_drewN | apply below_drew1 | refine below_set ?_ GE193.out | refine below_set ?_ GE194.out | refine below_set ?_ GE195.out | refine below_set ?_ GE205.out) | exact HB.out)⟩⟩
                            · replace c60 := Bool.eq_false_iff.mpr c60
                              subst c60
                              have H1 : ((ballots_Aborts.f k4 t184 t185 x8_3 (rdOf ByteArray.empty y201 x36_4)).bind fun t208 => (if t208 = true then (trustquorumlaw23_BallotsPrepares.l1 k4 x7_4 x8_3 y201 (y201.length : Int) (wrap64 (x36_4 + 1)) t184 t185 x195000_44 x195001_44 t190 t191) else ((ballots_Aborts.f k4 x195000_44 x195001_44 x8_3 (rdOf ByteArray.empty y201 x36_4)).bind fun t209 => (if t209 = true then (trustquorumlaw23_BallotsPrepares.l1 k4 x7_4 x8_3 y201 (y201.length : Int) (wrap64 (x36_4 + 1)) t184 t185 x195000_44 x195001_44 t190 t191) else (trustquorumlaw23_BallotsPrepares.l1 k4 false x8_3 y201 (y201.length : Int) (wrap64 (x36_4 + 1)) t184 t185 x195000_44 x195001_44 t190 t191))))) = some r := by rw [if_neg (show ¬ (false = true) by decide)] at H; exact H
                              clear H
                              have H := H1
                              clear H1
                              replace H := Option.bind_eq_some_iff.mp H
                              obtain ⟨t208, A730, H⟩ := H
                              replace H : (if t208 = true then (trustquorumlaw23_BallotsPrepares.l1 k4 x7_4 x8_3 y201 (y201.length : Int) (wrap64 (x36_4 + 1)) t184 t185 x195000_44 x195001_44 t190 t191) else ((ballots_Aborts.f k4 x195000_44 x195001_44 x8_3 (rdOf ByteArray.empty y201 x36_4)).bind fun t209 => (if t209 = true then (trustquorumlaw23_BallotsPrepares.l1 k4 x7_4 x8_3 y201 (y201.length : Int) (wrap64 (x36_4 + 1)) t184 t185 x195000_44 x195001_44 t190 t191) else (trustquorumlaw23_BallotsPrepares.l1 k4 false x8_3 y201 (y201.length : Int) (wrap64 (x36_4 + 1)) t184 t185 x195000_44 x195001_44 t190 t191)))) = some r := H
                              have A73 := Aside0.mk A730
                              clear A730
                              by_cases c74 : t208 = true
                              · subst c74
                                have H1 : (trustquorumlaw23_BallotsPrepares.l1 k4 x7_4 x8_3 y201 (y201.length : Int) (wrap64 (x36_4 + 1)) t184 t185 x195000_44 x195001_44 t190 t191) = some r := by rw [if_pos rfl] at H; exact H
                                clear H
                                have H := H1
                                clear H1
                                have H' := Aside0.mk H
                                clear H
                                have p204 : 0 ≤ (x36_4 : Int) := of_decide_eq_true (by first | (with_reducible assumption) | assumption)
                                have q204 : x36_4 < (y201.length : Int) := of_decide_eq_true (by first | (with_reducible assumption) | assumption)
                                obtain ⟨ad204, e204, hx204_0⟩ := Kd.at_string (Kd.R_reads' HO_34.out).2.2 x36_4 p204 q204
                                cases e204
                                replace p204 := eq_true p204
                                replace q204 := eq_true q204
                                go_wp2_with (first | ((with_reducible refine gate_dst (N := 11) rfl ?_); refine box_event ?hg (N := 11) ?hd (cs := #[.int .i64 0, .string (⟨#[]⟩ : ByteArray)]) (t := 26) ?hr ?_; (case hd => rfl); (case hg => rfl); (case hr => first | (go_simp; done) | (go_simp; rfl)); intro gb205 hg w75 hbox hb; have n0_ := Aside0.mk (Kd.R_below (by (with_reducible repeat (first | apply Kd.R_alloc | apply Kd.R_drewN | apply Kd.R_drew)); exact HO_34.out) hb); have n1_ := Aside0.mk (blk_below (g := gb193) (o := .cells #[.int .i64 t184, .string t185] 26 (0, 0)) (by (with_reducible repeat (first | refine blk_drewN ?_ _ | refine blk_drew ?_ | refine blk_alloc ?_ _)); exact BK193.out) hb); have n2_ := Aside0.mk (blk_below (g := gb194) (o := .cells #[.int .i64 x195000_44, .string x195001_44] 26 (0, 0)) (by (with_reducible repeat (first | refine blk_drewN ?_ _ | refine blk_drew ?_ | refine blk_alloc ?_ _)); exact BK194.out) hb); have n3_ := Aside0.mk (blk_below (g := gb195) (o := .cells #[.int .i64 t190, .string t191] 26 (0, 0)) (by (with_reducible repeat (first | refine blk_drewN ?_ _ | refine blk_drew ?_ | refine blk_alloc ?_ _)); exact BK195.out) hb); have n4_ := Aside0.mk (below_step (by repeat (first | (with_reducible first | exact HB.out | apply below_alloc | apply pw_below_drewN | apply below_drew1 | refine below_set ?_ GE193.out | refine below_set ?_ GE194.out | refine below_set ?_ GE195.out) | exact HB.out)) hb); have n5_ := Aside0.mk (hbox); have n6_ := Aside0.mk ((by rw [hg]; exact (below_size (by repeat (first | (with_reducible first | exact HB.out | apply below_alloc | apply pw_below_drewN | apply below_drew1 | refine below_set ?_ GE193.out | refine below_set ?_ GE194.out | refine below_set ?_ GE195.out) | exact HB.out))) : w.heap.size ≤ gb205)); have n7_ := Aside0.mk ((by rw [hg]; exact (below_size (by repeat (first | (with_reducible first | exact HB.out | apply below_alloc | apply pw_below_drewN | apply below_drew1 | refine below_set ?_ GE193.out | refine below_set ?_ GE194.out | refine below_set ?_ GE195.out) | exact HB.out))) : w.heap.size ≤ gb205)); have n8_ := Aside0.mk ((by rw [hg]; exact Nat.ne_of_lt (blk_lt (g := gb193) (o := .cells #[.int .i64 t184, .string t185] 26 (0, 0)) (by (with_reducible repeat (first | refine blk_drewN ?_ _ | refine blk_drew ?_ | refine blk_alloc ?_ _)); exact BK193.out)) : gb193 ≠ gb205)); have n9_ := Aside0.mk ((by rw [hg]; exact Nat.ne_of_gt (blk_lt (g := gb193) (o := .cells #[.int .i64 t184, .string t185] 26 (0, 0)) (by (with_reducible repeat (first | refine blk_drewN ?_ _ | refine blk_drew ?_ | refine blk_alloc ?_ _)); exact BK193.out)) : gb205 ≠ gb193)); have n10_ := Aside0.mk ((by rw [hg]; exact Nat.ne_of_lt (blk_lt (g := gb194) (o := .cells #[.int .i64 x195000_44, .string x195001_44] 26 (0, 0)) (by (with_reducible repeat (first | refine blk_drewN ?_ _ | refine blk_drew ?_ | refine blk_alloc ?_ _)); exact BK194.out)) : gb194 ≠ gb205)); have n11_ := Aside0.mk ((by rw [hg]; exact Nat.ne_of_gt (blk_lt (g := gb194) (o := .cells #[.int .i64 x195000_44, .string x195001_44] 26 (0, 0)) (by (with_reducible repeat (first | refine blk_drewN ?_ _ | refine blk_drew ?_ | refine blk_alloc ?_ _)); exact BK194.out)) : gb205 ≠ gb194)); have n12_ := Aside0.mk ((by rw [hg]; exact Nat.ne_of_lt (blk_lt (g := gb195) (o := .cells #[.int .i64 t190, .string t191] 26 (0, 0)) (by (with_reducible repeat (first | refine blk_drewN ?_ _ | refine blk_drew ?_ | refine blk_alloc ?_ _)); exact BK195.out)) : gb195 ≠ gb205)); have n13_ := Aside0.mk ((by rw [hg]; exact Nat.ne_of_gt (blk_lt (g := gb195) (o := .cells #[.int .i64 t190, .string t191] 26 (0, 0)) (by (with_reducible repeat (first | refine blk_drewN ?_ _ | refine blk_drew ?_ | refine blk_alloc ?_ _)); exact BK195.out)) : gb205 ≠ gb195)); clear HO_34; clear BK193; clear BK194; clear BK195; clear HB; have HO_34 := n0_; have BK193 := n1_; have BK194 := n2_; have BK195 := n3_; have HB := n4_; have BK205 := n5_; have GW205 := n6_; have GE205 := n7_; have NB193_205 := n8_; have NB205_193 := n9_; have NB194_205 := n10_; have NB205_194 := n11_; have NB195_205 := n12_; have NB205_195 := n13_; clear n0_ n1_ n2_ n3_ n4_ n5_ n6_ n7_ n8_ n9_ n10_ n11_ n12_ n13_; clear hb hbox hg; have hnb76 := NB205_193.out; have hnc76 := NB193_205.out; have hnb77 := NB205_194.out; have hnc77 := NB194_205.out; have hnb78 := NB205_195.out; have hnc78 := NB195_205.out; have hcz79_0 : w75.cell? ⟨gb205, 0, none⟩ = some (.int .i64 0) := (blk_cell BK205.out 0).trans rfl; have hcz79_1 : w75.cell? ⟨gb205, 1, none⟩ = some (.string (⟨#[]⟩ : ByteArray)) := (blk_cell BK205.out 1).trans rfl; have hfz79_0 := blk_frozen BK205.out 0; have hfz79_1 := blk_frozen BK205.out 1; have hnb80 := NB195_193.out; have hnc80 := NB193_195.out; have hnb81 := NB195_194.out; have hnc81 := NB194_195.out; have hcz82_0 : w75.cell? ⟨gb195, 0, none⟩ = some (.int .i64 t190) := (blk_cell BK195.out 0).trans rfl; have hcz82_1 : w75.cell? ⟨gb195, 1, none⟩ = some (.string t191) := (blk_cell BK195.out 1).trans rfl; have hfz82_0 := blk_frozen BK195.out 0; have hfz82_1 := blk_frozen BK195.out 1) | ((with_reducible refine gate_callee (f := 20) rfl ?_); refine goesL_ (some 45) rfl rfl Try.func20 (by kernel_rfl) rfl #[.agg #[.int .i64 x8_3, .string (rdOf ByteArray.empty y201 x36_4)], .agg #[.int .i64 t190, .string t191]] rfl (by (try simp only [List.map_toArray, List.map_cons, List.map_nil]); first | done | rfl | (simp only [List.length_drop, List.length_take]; rfl)) ?_; (with_reducible refine (trustquorumref23_Less.calls x8_3 (rdOf ByteArray.empty y201 x36_4) t190 t191 true _ A57.out).mono ?_); rintro e w83 ⟨rfl, hb⟩; refine ⟨_, rfl, ?_⟩; have n0_ := Aside0.mk (Kd.R_below (by (with_reducible repeat (first | apply Kd.R_alloc | apply Kd.R_drewN | apply Kd.R_drew)); exact (Kd.R_mono (Kd.R_far (p := ⟨gb205, 1, none⟩) (Kd.R_far (p := ⟨gb205, 0, none⟩) (Kd.R_types HO_34.out BK205.out (by decide)) (fun _ hk => hk.2) (.int .i64 x8_3)) (fun _ hk => hk.2) (.string (rdOf ByteArray.empty y201 x36_4))) (fun _ h_ => h_.1))) hb); have n1_ := Aside0.mk (blk_below (g := gb193) (o := .cells #[.int .i64 t184, .string t185] 26 (0, 0)) (by (with_reducible repeat (first | refine blk_drewN ?_ _ | refine blk_drew ?_ | refine blk_alloc ?_ _)); refine blk_far ?_ NB193_205.out _; (with_reducible repeat (first | refine blk_drewN ?_ _ | refine blk_drew ?_ | refine blk_alloc ?_ _)); refine blk_far ?_ NB193_205.out _; (with_reducible repeat (first | refine blk_drewN ?_ _ | refine blk_drew ?_ | refine blk_alloc ?_ _)); exact BK193.out) hb); have n2_ := Aside0.mk (blk_below (g := gb194) (o := .cells #[.int .i64 x195000_44, .string x195001_44] 26 (0, 0)) (by (with_reducible repeat (first | refine blk_drewN ?_ _ | refine blk_drew ?_ | refine blk_alloc ?_ _)); refine blk_far ?_ NB194_205.out _; (with_reducible repeat (first | refine blk_drewN ?_ _ | refine blk_drew ?_ | refine blk_alloc ?_ _)); refine blk_far ?_ NB194_205.out _; (with_reducible repeat (first | refine blk_drewN ?_ _ | refine blk_drew ?_ | refine blk_alloc ?_ _)); exact BK194.out) hb); have n3_ := Aside0.mk (blk_below (g := gb195) (o := .cells #[.int .i64 t190, .string t191] 26 (0, 0)) (by (with_reducible repeat (first | refine blk_drewN ?_ _ | refine blk_drew ?_ | refine blk_alloc ?_ _)); refine blk_far ?_ NB195_205.out _; (with_reducible repeat (first | refine blk_drewN ?_ _ | refine blk_drew ?_ | refine blk_alloc ?_ _)); refine blk_far ?_ NB195_205.out _; (with_reducible repeat (first | refine blk_drewN ?_ _ | refine blk_drew ?_ | refine blk_alloc ?_ _)); exact BK195.out) hb); have n4_ := Aside0.mk (blk_below (g := gb205) (o := .cells #[.int .i64 x8_3, .string (rdOf ByteArray.empty y201 x36_4)] 26 (0, 0)) (by (with_reducible repeat (first | refine blk_drewN ?_ _ | refine blk_drew ?_ | refine blk_alloc ?_ _)); refine blk_put (cs := #[.int .i64 x8_3, .string (⟨#[]⟩ : ByteArray)]) ?_ 1 _ rfl; (with_reducible repeat (first | refine blk_drewN ?_ _ | refine blk_drew ?_ | refine blk_alloc ?_ _)); refine blk_put (cs := #[.int .i64 0, .string (⟨#[]⟩ : ByteArray)]) ?_ 0 _ rfl; (with_reducible repeat (first | refine blk_drewN ?_ _ | refine blk_drew ?_ | refine blk_alloc ?_ _)); exact BK205.out) hb); have n5_ := Aside0.mk (below_step (by repeat (first | (with_reducible first | exact HB.out | apply below_alloc | apply pw_below_drewN | apply below_drew1 | refine below_set ?_ GE193.out | refine below_set ?_ GE194.out | refine below_set ?_ GE195.out | refine below_set ?_ GE205.out) | exact HB.out)) hb); clear HO_34; clear BK193; clear BK194; clear BK195; clear BK205; clear HB; have HO_34 := n0_; have BK193 := n1_; have BK194 := n2_; have BK195 := n3_; have BK205 := n4_; have HB := n5_; clear n0_ n1_ n2_ n3_ n4_ n5_; (try clear hb); (try clear hb2); (try clear hk); (try clear hi); have hcz84_0 : w83.cell? ⟨gb205, 0, none⟩ = some (.int .i64 x8_3) := (blk_cell BK205.out 0).trans rfl; have hcz84_1 : w83.cell? ⟨gb205, 1, none⟩ = some (.string (rdOf ByteArray.empty y201 x36_4)) := (blk_cell BK205.out 1).trans rfl; have hfz84_0 := blk_frozen BK205.out 0; have hfz84_1 := blk_frozen BK205.out 1; have hcz85_0 : w83.cell? ⟨gb195, 0, none⟩ = some (.int .i64 t190) := (blk_cell BK195.out 0).trans rfl; have hcz85_1 : w83.cell? ⟨gb195, 1, none⟩ = some (.string t191) := (blk_cell BK195.out 1).trans rfl; have hfz85_0 := blk_frozen BK195.out 0; have hfz85_1 := blk_frozen BK195.out 1) | (go_at_call 21; (with_reducible refine (trustquorumref23_Compatible.calls x8_3 (rdOf ByteArray.empty y201 x36_4) t190 t191 false _ A59.out).mono ?_); rintro e w86 ⟨rfl, hb⟩; have n0_ := Aside0.mk (Kd.R_below (by (with_reducible repeat (first | apply Kd.R_alloc | apply Kd.R_drewN | apply Kd.R_drew)); exact HO_34.out) hb); have n1_ := Aside0.mk (blk_below (g := gb193) (o := .cells #[.int .i64 t184, .string t185] 26 (0, 0)) (by (with_reducible repeat (first | refine blk_drewN ?_ _ | refine blk_drew ?_ | refine blk_alloc ?_ _)); exact BK193.out) hb); have n2_ := Aside0.mk (blk_below (g := gb194) (o := .cells #[.int .i64 x195000_44, .string x195001_44] 26 (0, 0)) (by (with_reducible repeat (first | refine blk_drewN ?_ _ | refine blk_drew ?_ | refine blk_alloc ?_ _)); exact BK194.out) hb); have n3_ := Aside0.mk (blk_below (g := gb195) (o := .cells #[.int .i64 t190, .string t191] 26 (0, 0)) (by (with_reducible repeat (first | refine blk_drewN ?_ _ | refine blk_drew ?_ | refine blk_alloc ?_ _)); exact BK195.out) hb); have n4_ := Aside0.mk (blk_below (g := gb205) (o := .cells #[.int .i64 x8_3, .string (rdOf ByteArray.empty y201 x36_4)] 26 (0, 0)) (by (with_reducible repeat (first | refine blk_drewN ?_ _ | refine blk_drew ?_ | refine blk_alloc ?_ _)); exact BK205.out) hb); have n5_ := Aside0.mk (below_step (by repeat (first | (with_reducible first | exact HB.out | apply below_alloc | apply pw_below_drewN | apply below_drew1 | refine below_set ?_ GE193.out | refine below_set ?_ GE194.out | refine below_set ?_ GE195.out | refine below_set ?_ GE205.out) | exact HB.out)) hb); clear HO_34; clear BK193; clear BK194; clear BK195; clear BK205; clear HB; have HO_34 := n0_; have BK193 := n1_; have BK194 := n2_; have BK195 := n3_; have BK205 := n4_; have HB := n5_; clear n0_ n1_ n2_ n3_ n4_ n5_; (try clear hb); (try clear hb2); (try clear hk); (try clear hi); have hnb87 := NB193_194.out; have hnc87 := NB194_193.out; have hcz88_0 : w86.cell? ⟨gb193, 0, none⟩ = some (.int .i64 t184) := (blk_cell BK193.out 0).trans rfl; have hcz88_1 : w86.cell? ⟨gb193, 1, none⟩ = some (.string t185) := (blk_cell BK193.out 1).trans rfl; have hfz88_0 := blk_frozen BK193.out 0; have hfz88_1 := blk_frozen BK193.out 1; have hcz89_0 : w86.cell? ⟨gb205, 0, none⟩ = some (.int .i64 x8_3) := (blk_cell BK205.out 0).trans rfl; have hcz89_1 : w86.cell? ⟨gb205, 1, none⟩ = some (.string (rdOf ByteArray.empty y201 x36_4)) := (blk_cell BK205.out 1).trans rfl; have hfz89_0 := blk_frozen BK205.out 0; have hfz89_1 := blk_frozen BK205.out 1) | (go_at_call 18; (with_reducible refine (ballots_Aborts.calls k4 t184 t185 x8_3 (rdOf ByteArray.empty y201 x36_4) true _ A73.out).mono ?_); rintro e w90 ⟨rfl, hb⟩; have n0_ := Aside0.mk (Kd.R_below (by (with_reducible repeat (first | apply Kd.R_alloc | apply Kd.R_drewN | apply Kd.R_drew)); exact HO_34.out) hb); have n1_ := Aside0.mk (blk_below (g := gb193) (o := .cells #[.int .i64 t184, .string t185] 26 (0, 0)) (by (with_reducible repeat (first | refine blk_drewN ?_ _ | refine blk_drew ?_ | refine blk_alloc ?_ _)); exact BK193.out) hb); have n2_ := Aside0.mk (blk_below (g := gb194) (o := .cells #[.int .i64 x195000_44, .string x195001_44] 26 (0, 0)) (by (with_reducible repeat (first | refine blk_drewN ?_ _ | refine blk_drew ?_ | refine blk_alloc ?_ _)); exact BK194.out) hb); have n3_ := Aside0.mk (blk_below (g := gb195) (o := .cells #[.int .i64 t190, .string t191] 26 (0, 0)) (by (with_reducible repeat (first | refine blk_drewN ?_ _ | refine blk_drew ?_ | refine blk_alloc ?_ _)); exact BK195.out) hb); have n4_ := Aside0.mk (blk_below (g := gb205) (o := .cells #[.int .i64 x8_3, .string (rdOf ByteArray.empty y201 x36_4)] 26 (0, 0)) (by (with_reducible repeat (first | refine blk_drewN ?_ _ | refine blk_drew ?_ | refine blk_alloc ?_ _)); exact BK205.out) hb); have n5_ := Aside0.mk (below_step (by repeat (first | (with_reducible first | exact HB.out | apply below_alloc | apply pw_below_drewN | apply below_drew1 | refine below_set ?_ GE193.out | refine below_set ?_ GE194.out | refine below_set ?_ GE195.out | refine below_set ?_ GE205.out) | exact HB.out)) hb); clear HO_34; clear BK193; clear BK194; clear BK195; clear BK205; clear HB; have HO_34 := n0_; have BK193 := n1_; have BK194 := n2_; have BK195 := n3_; have BK205 := n4_; have HB := n5_; clear n0_ n1_ n2_ n3_ n4_ n5_; (try clear hb); (try clear hb2); (try clear hk); (try clear hi)))
                                go_roundg k4
                                case measure => have := HJ5.out; have := HJ44.out; have := HK3.out; have := HK4.out; omega
                                case rel => exact ⟨(x7_4), (wrap64 (x36_4 + 1)), (by first | rfl | (simp; done) | (simp [*]; done)), (by first | rfl | (simp; done) | (simp [*]; done)), H', ⟨by have := HJ5.out; have := HJ44.out; have := HK3.out; have := HK4.out; omega⟩, ⟨by (with_reducible repeat (first | apply Kd.R_alloc | apply Kd.R_drewN | apply Kd.R_drew)); exact HO_34.out⟩, ⟨by (with_reducible repeat (first | refine blk_drewN ?_ _ | refine blk_drew ?_ | refine blk_alloc ?_ _)); exact BK193.out⟩, ⟨by (with_reducible repeat (first | refine blk_drewN ?_ _ | refine blk_drew ?_ | refine blk_alloc ?_ _)); exact BK194.out⟩, ⟨by (with_reducible repeat (first | refine blk_drewN ?_ _ | refine blk_drew ?_ | refine blk_alloc ?_ _)); exact BK195.out⟩, ⟨by repeat (first | (with_reducible first | exact HB.out | apply below_alloc | apply pw_below_drewN | apply below_drew1 | refine below_set ?_ GE193.out | refine below_set ?_ GE194.out | refine below_set ?_ GE195.out | refine below_set ?_ GE205.out) | exact HB.out)⟩⟩
                              · replace c74 := Bool.eq_false_iff.mpr c74
                                subst c74
                                have H1 : ((ballots_Aborts.f k4 x195000_44 x195001_44 x8_3 (rdOf ByteArray.empty y201 x36_4)).bind fun t209 => (if t209 = true then (trustquorumlaw23_BallotsPrepares.l1 k4 x7_4 x8_3 y201 (y201.length : Int) (wrap64 (x36_4 + 1)) t184 t185 x195000_44 x195001_44 t190 t191) else (trustquorumlaw23_BallotsPrepares.l1 k4 false x8_3 y201 (y201.length : Int) (wrap64 (x36_4 + 1)) t184 t185 x195000_44 x195001_44 t190 t191))) = some r := by rw [if_neg (show ¬ (false = true) by decide)] at H; exact H
                                clear H
                                have H := H1
                                clear H1
                                replace H := Option.bind_eq_some_iff.mp H
                                obtain ⟨t209, A910, H⟩ := H
                                replace H : (if t209 = true then (trustquorumlaw23_BallotsPrepares.l1 k4 x7_4 x8_3 y201 (y201.length : Int) (wrap64 (x36_4 + 1)) t184 t185 x195000_44 x195001_44 t190 t191) else (trustquorumlaw23_BallotsPrepares.l1 k4 false x8_3 y201 (y201.length : Int) (wrap64 (x36_4 + 1)) t184 t185 x195000_44 x195001_44 t190 t191)) = some r := H
                                have A91 := Aside0.mk A910
                                clear A910
                                by_cases c92 : t209 = true
                                · subst c92
                                  have H1 : (trustquorumlaw23_BallotsPrepares.l1 k4 x7_4 x8_3 y201 (y201.length : Int) (wrap64 (x36_4 + 1)) t184 t185 x195000_44 x195001_44 t190 t191) = some r := by rw [if_pos rfl] at H; exact H
                                  clear H
                                  have H := H1
                                  clear H1
                                  have H' := Aside0.mk H
                                  clear H
                                  have p204 : 0 ≤ (x36_4 : Int) := of_decide_eq_true (by first | (with_reducible assumption) | assumption)
                                  have q204 : x36_4 < (y201.length : Int) := of_decide_eq_true (by first | (with_reducible assumption) | assumption)
                                  obtain ⟨ad204, e204, hx204_0⟩ := Kd.at_string (Kd.R_reads' HO_34.out).2.2 x36_4 p204 q204
                                  cases e204
                                  replace p204 := eq_true p204
                                  replace q204 := eq_true q204
                                  go_wp2_with (first | ((with_reducible refine gate_dst (N := 11) rfl ?_); refine box_event ?hg (N := 11) ?hd (cs := #[.int .i64 0, .string (⟨#[]⟩ : ByteArray)]) (t := 26) ?hr ?_; (case hd => rfl); (case hg => rfl); (case hr => first | (go_simp; done) | (go_simp; rfl)); intro gb205 hg w93 hbox hb; have n0_ := Aside0.mk (Kd.R_below (by (with_reducible repeat (first | apply Kd.R_alloc | apply Kd.R_drewN | apply Kd.R_drew)); exact HO_34.out) hb); have n1_ := Aside0.mk (blk_below (g := gb193) (o := .cells #[.int .i64 t184, .string t185] 26 (0, 0)) (by (with_reducible repeat (first | refine blk_drewN ?_ _ | refine blk_drew ?_ | refine blk_alloc ?_ _)); exact BK193.out) hb); have n2_ := Aside0.mk (blk_below (g := gb194) (o := .cells #[.int .i64 x195000_44, .string x195001_44] 26 (0, 0)) (by (with_reducible repeat (first | refine blk_drewN ?_ _ | refine blk_drew ?_ | refine blk_alloc ?_ _)); exact BK194.out) hb); have n3_ := Aside0.mk (blk_below (g := gb195) (o := .cells #[.int .i64 t190, .string t191] 26 (0, 0)) (by (with_reducible repeat (first | refine blk_drewN ?_ _ | refine blk_drew ?_ | refine blk_alloc ?_ _)); exact BK195.out) hb); have n4_ := Aside0.mk (below_step (by repeat (first | (with_reducible first | exact HB.out | apply below_alloc | apply pw_below_drewN | apply below_drew1 | refine below_set ?_ GE193.out | refine below_set ?_ GE194.out | refine below_set ?_ GE195.out) | exact HB.out)) hb); have n5_ := Aside0.mk (hbox); have n6_ := Aside0.mk ((by rw [hg]; exact (below_size (by repeat (first | (with_reducible first | exact HB.out | apply below_alloc | apply pw_below_drewN | apply below_drew1 | refine below_set ?_ GE193.out | refine below_set ?_ GE194.out | refine below_set ?_ GE195.out) | exact HB.out))) : w.heap.size ≤ gb205)); have n7_ := Aside0.mk ((by rw [hg]; exact (below_size (by repeat (first | (with_reducible first | exact HB.out | apply below_alloc | apply pw_below_drewN | apply below_drew1 | refine below_set ?_ GE193.out | refine below_set ?_ GE194.out | refine below_set ?_ GE195.out) | exact HB.out))) : w.heap.size ≤ gb205)); have n8_ := Aside0.mk ((by rw [hg]; exact Nat.ne_of_lt (blk_lt (g := gb193) (o := .cells #[.int .i64 t184, .string t185] 26 (0, 0)) (by (with_reducible repeat (first | refine blk_drewN ?_ _ | refine blk_drew ?_ | refine blk_alloc ?_ _)); exact BK193.out)) : gb193 ≠ gb205)); have n9_ := Aside0.mk ((by rw [hg]; exact Nat.ne_of_gt (blk_lt (g := gb193) (o := .cells #[.int .i64 t184, .string t185] 26 (0, 0)) (by (with_reducible repeat (first | refine blk_drewN ?_ _ | refine blk_drew ?_ | refine blk_alloc ?_ _)); exact BK193.out)) : gb205 ≠ gb193)); have n10_ := Aside0.mk ((by rw [hg]; exact Nat.ne_of_lt (blk_lt (g := gb194) (o := .cells #[.int .i64 x195000_44, .string x195001_44] 26 (0, 0)) (by (with_reducible repeat (first | refine blk_drewN ?_ _ | refine blk_drew ?_ | refine blk_alloc ?_ _)); exact BK194.out)) : gb194 ≠ gb205)); have n11_ := Aside0.mk ((by rw [hg]; exact Nat.ne_of_gt (blk_lt (g := gb194) (o := .cells #[.int .i64 x195000_44, .string x195001_44] 26 (0, 0)) (by (with_reducible repeat (first | refine blk_drewN ?_ _ | refine blk_drew ?_ | refine blk_alloc ?_ _)); exact BK194.out)) : gb205 ≠ gb194)); have n12_ := Aside0.mk ((by rw [hg]; exact Nat.ne_of_lt (blk_lt (g := gb195) (o := .cells #[.int .i64 t190, .string t191] 26 (0, 0)) (by (with_reducible repeat (first | refine blk_drewN ?_ _ | refine blk_drew ?_ | refine blk_alloc ?_ _)); exact BK195.out)) : gb195 ≠ gb205)); have n13_ := Aside0.mk ((by rw [hg]; exact Nat.ne_of_gt (blk_lt (g := gb195) (o := .cells #[.int .i64 t190, .string t191] 26 (0, 0)) (by (with_reducible repeat (first | refine blk_drewN ?_ _ | refine blk_drew ?_ | refine blk_alloc ?_ _)); exact BK195.out)) : gb205 ≠ gb195)); clear HO_34; clear BK193; clear BK194; clear BK195; clear HB; have HO_34 := n0_; have BK193 := n1_; have BK194 := n2_; have BK195 := n3_; have HB := n4_; have BK205 := n5_; have GW205 := n6_; have GE205 := n7_; have NB193_205 := n8_; have NB205_193 := n9_; have NB194_205 := n10_; have NB205_194 := n11_; have NB195_205 := n12_; have NB205_195 := n13_; clear n0_ n1_ n2_ n3_ n4_ n5_ n6_ n7_ n8_ n9_ n10_ n11_ n12_ n13_; clear hb hbox hg; have hnb94 := NB205_193.out; have hnc94 := NB193_205.out; have hnb95 := NB205_194.out; have hnc95 := NB194_205.out; have hnb96 := NB205_195.out; have hnc96 := NB195_205.out; have hcz97_0 : w93.cell? ⟨gb205, 0, none⟩ = some (.int .i64 0) := (blk_cell BK205.out 0).trans rfl; have hcz97_1 : w93.cell? ⟨gb205, 1, none⟩ = some (.string (⟨#[]⟩ : ByteArray)) := (blk_cell BK205.out 1).trans rfl; have hfz97_0 := blk_frozen BK205.out 0; have hfz97_1 := blk_frozen BK205.out 1; have hnb98 := NB195_193.out; have hnc98 := NB193_195.out; have hnb99 := NB195_194.out; have hnc99 := NB194_195.out; have hcz100_0 : w93.cell? ⟨gb195, 0, none⟩ = some (.int .i64 t190) := (blk_cell BK195.out 0).trans rfl; have hcz100_1 : w93.cell? ⟨gb195, 1, none⟩ = some (.string t191) := (blk_cell BK195.out 1).trans rfl; have hfz100_0 := blk_frozen BK195.out 0; have hfz100_1 := blk_frozen BK195.out 1) | ((with_reducible refine gate_callee (f := 20) rfl ?_); refine goesL_ (some 45) rfl rfl Try.func20 (by kernel_rfl) rfl #[.agg #[.int .i64 x8_3, .string (rdOf ByteArray.empty y201 x36_4)], .agg #[.int .i64 t190, .string t191]] rfl (by (try simp only [List.map_toArray, List.map_cons, List.map_nil]); first | done | rfl | (simp only [List.length_drop, List.length_take]; rfl)) ?_; (with_reducible refine (trustquorumref23_Less.calls x8_3 (rdOf ByteArray.empty y201 x36_4) t190 t191 true _ A57.out).mono ?_); rintro e w101 ⟨rfl, hb⟩; refine ⟨_, rfl, ?_⟩; have n0_ := Aside0.mk (Kd.R_below (by (with_reducible repeat (first | apply Kd.R_alloc | apply Kd.R_drewN | apply Kd.R_drew)); exact (Kd.R_mono (Kd.R_far (p := ⟨gb205, 1, none⟩) (Kd.R_far (p := ⟨gb205, 0, none⟩) (Kd.R_types HO_34.out BK205.out (by decide)) (fun _ hk => hk.2) (.int .i64 x8_3)) (fun _ hk => hk.2) (.string (rdOf ByteArray.empty y201 x36_4))) (fun _ h_ => h_.1))) hb); have n1_ := Aside0.mk (blk_below (g := gb193) (o := .cells #[.int .i64 t184, .string t185] 26 (0, 0)) (by (with_reducible repeat (first | refine blk_drewN ?_ _ | refine blk_drew ?_ | refine blk_alloc ?_ _)); refine blk_far ?_ NB193_205.out _; (with_reducible repeat (first | refine blk_drewN ?_ _ | refine blk_drew ?_ | refine blk_alloc ?_ _)); refine blk_far ?_ NB193_205.out _; (with_reducible repeat (first | refine blk_drewN ?_ _ | refine blk_drew ?_ | refine blk_alloc ?_ _)); exact BK193.out) hb); have n2_ := Aside0.mk (blk_below (g := gb194) (o := .cells #[.int .i64 x195000_44, .string x195001_44] 26 (0, 0)) (by (with_reducible repeat (first | refine blk_drewN ?_ _ | refine blk_drew ?_ | refine blk_alloc ?_ _)); refine blk_far ?_ NB194_205.out _; (with_reducible repeat (first | refine blk_drewN ?_ _ | refine blk_drew ?_ | refine blk_alloc ?_ _)); refine blk_far ?_ NB194_205.out _; (with_reducible repeat (first | refine blk_drewN ?_ _ | refine blk_drew ?_ | refine blk_alloc ?_ _)); exact BK194.out) hb); have n3_ := Aside0.mk (blk_below (g := gb195) (o := .cells #[.int .i64 t190, .string t191] 26 (0, 0)) (by (with_reducible repeat (first | refine blk_drewN ?_ _ | refine blk_drew ?_ | refine blk_alloc ?_ _)); refine blk_far ?_ NB195_205.out _; (with_reducible repeat (first | refine blk_drewN ?_ _ | refine blk_drew ?_ | refine blk_alloc ?_ _)); refine blk_far ?_ NB195_205.out _; (with_reducible repeat (first | refine blk_drewN ?_ _ | refine blk_drew ?_ | refine blk_alloc ?_ _)); exact BK195.out) hb); have n4_ := Aside0.mk (blk_below (g := gb205) (o := .cells #[.int .i64 x8_3, .string (rdOf ByteArray.empty y201 x36_4)] 26 (0, 0)) (by (with_reducible repeat (first | refine blk_drewN ?_ _ | refine blk_drew ?_ | refine blk_alloc ?_ _)); refine blk_put (cs := #[.int .i64 x8_3, .string (⟨#[]⟩ : ByteArray)]) ?_ 1 _ rfl; (with_reducible repeat (first | refine blk_drewN ?_ _ | refine blk_drew ?_ | refine blk_alloc ?_ _)); refine blk_put (cs := #[.int .i64 0, .string (⟨#[]⟩ : ByteArray)]) ?_ 0 _ rfl; (with_reducible repeat (first | refine blk_drewN ?_ _ | refine blk_drew ?_ | refine blk_alloc ?_ _)); exact BK205.out) hb); have n5_ := Aside0.mk (below_step (by repeat (first | (with_reducible first | exact HB.out | apply below_alloc | apply pw_below_drewN | apply below_drew1 | refine below_set ?_ GE193.out | refine below_set ?_ GE194.out | refine below_set ?_ GE195.out | refine below_set ?_ GE205.out) | exact HB.out)) hb); clear HO_34; clear BK193; clear BK194; clear BK195; clear BK205; clear HB; have HO_34 := n0_; have BK193 := n1_; have BK194 := n2_; have BK195 := n3_; have BK205 := n4_; have HB := n5_; clear n0_ n1_ n2_ n3_ n4_ n5_; (try clear hb); (try clear hb2); (try clear hk); (try clear hi); have hcz102_0 : w101.cell? ⟨gb205, 0, none⟩ = some (.int .i64 x8_3) := (blk_cell BK205.out 0).trans rfl; have hcz102_1 : w101.cell? ⟨gb205, 1, none⟩ = some (.string (rdOf ByteArray.empty y201 x36_4)) := (blk_cell BK205.out 1).trans rfl; have hfz102_0 := blk_frozen BK205.out 0; have hfz102_1 := blk_frozen BK205.out 1; have hcz103_0 : w101.cell? ⟨gb195, 0, none⟩ = some (.int .i64 t190) := (blk_cell BK195.out 0).trans rfl; have hcz103_1 : w101.cell? ⟨gb195, 1, none⟩ = some (.string t191) := (blk_cell BK195.out 1).trans rfl; have hfz103_0 := blk_frozen BK195.out 0; have hfz103_1 := blk_frozen BK195.out 1) | (go_at_call 21; (with_reducible refine (trustquorumref23_Compatible.calls x8_3 (rdOf ByteArray.empty y201 x36_4) t190 t191 false _ A59.out).mono ?_); rintro e w104 ⟨rfl, hb⟩; have n0_ := Aside0.mk (Kd.R_below (by (with_reducible repeat (first | apply Kd.R_alloc | apply Kd.R_drewN | apply Kd.R_drew)); exact HO_34.out) hb); have n1_ := Aside0.mk (blk_below (g := gb193) (o := .cells #[.int .i64 t184, .string t185] 26 (0, 0)) (by (with_reducible repeat (first | refine blk_drewN ?_ _ | refine blk_drew ?_ | refine blk_alloc ?_ _)); exact BK193.out) hb); have n2_ := Aside0.mk (blk_below (g := gb194) (o := .cells #[.int .i64 x195000_44, .string x195001_44] 26 (0, 0)) (by (with_reducible repeat (first | refine blk_drewN ?_ _ | refine blk_drew ?_ | refine blk_alloc ?_ _)); exact BK194.out) hb); have n3_ := Aside0.mk (blk_below (g := gb195) (o := .cells #[.int .i64 t190, .string t191] 26 (0, 0)) (by (with_reducible repeat (first | refine blk_drewN ?_ _ | refine blk_drew ?_ | refine blk_alloc ?_ _)); exact BK195.out) hb); have n4_ := Aside0.mk (blk_below (g := gb205) (o := .cells #[.int .i64 x8_3, .string (rdOf ByteArray.empty y201 x36_4)] 26 (0, 0)) (by (with_reducible repeat (first | refine blk_drewN ?_ _ | refine blk_drew ?_ | refine blk_alloc ?_ _)); exact BK205.out) hb); have n5_ := Aside0.mk (below_step (by repeat (first | (with_reducible first | exact HB.out | apply below_alloc | apply pw_below_drewN | apply below_drew1 | refine below_set ?_ GE193.out | refine below_set ?_ GE194.out | refine below_set ?_ GE195.out | refine below_set ?_ GE205.out) | exact HB.out)) hb); clear HO_34; clear BK193; clear BK194; clear BK195; clear BK205; clear HB; have HO_34 := n0_; have BK193 := n1_; have BK194 := n2_; have BK195 := n3_; have BK205 := n4_; have HB := n5_; clear n0_ n1_ n2_ n3_ n4_ n5_; (try clear hb); (try clear hb2); (try clear hk); (try clear hi); have hnb105 := NB193_194.out; have hnc105 := NB194_193.out; have hcz106_0 : w104.cell? ⟨gb193, 0, none⟩ = some (.int .i64 t184) := (blk_cell BK193.out 0).trans rfl; have hcz106_1 : w104.cell? ⟨gb193, 1, none⟩ = some (.string t185) := (blk_cell BK193.out 1).trans rfl; have hfz106_0 := blk_frozen BK193.out 0; have hfz106_1 := blk_frozen BK193.out 1; have hcz107_0 : w104.cell? ⟨gb205, 0, none⟩ = some (.int .i64 x8_3) := (blk_cell BK205.out 0).trans rfl; have hcz107_1 : w104.cell? ⟨gb205, 1, none⟩ = some (.string (rdOf ByteArray.empty y201 x36_4)) := (blk_cell BK205.out 1).trans rfl; have hfz107_0 := blk_frozen BK205.out 0; have hfz107_1 := blk_frozen BK205.out 1) | (go_at_call 18; (with_reducible refine (ballots_Aborts.calls k4 t184 t185 x8_3 (rdOf ByteArray.empty y201 x36_4) false _ A73.out).mono ?_); rintro e w108 ⟨rfl, hb⟩; have n0_ := Aside0.mk (Kd.R_below (by (with_reducible repeat (first | apply Kd.R_alloc | apply Kd.R_drewN | apply Kd.R_drew)); exact HO_34.out) hb); have n1_ := Aside0.mk (blk_below (g := gb193) (o := .cells #[.int .i64 t184, .string t185] 26 (0, 0)) (by (with_reducible repeat (first | refine blk_drewN ?_ _ | refine blk_drew ?_ | refine blk_alloc ?_ _)); exact BK193.out) hb); have n2_ := Aside0.mk (blk_below (g := gb194) (o := .cells #[.int .i64 x195000_44, .string x195001_44] 26 (0, 0)) (by (with_reducible repeat (first | refine blk_drewN ?_ _ | refine blk_drew ?_ | refine blk_alloc ?_ _)); exact BK194.out) hb); have n3_ := Aside0.mk (blk_below (g := gb195) (o := .cells #[.int .i64 t190, .string t191] 26 (0, 0)) (by (with_reducible repeat (first | refine blk_drewN ?_ _ | refine blk_drew ?_ | refine blk_alloc ?_ _)); exact BK195.out) hb); have n4_ := Aside0.mk (blk_below (g := gb205) (o := .cells #[.int .i64 x8_3, .string (rdOf ByteArray.empty y201 x36_4)] 26 (0, 0)) (by (with_reducible repeat (first | refine blk_drewN ?_ _ | refine blk_drew ?_ | refine blk_alloc ?_ _)); exact BK205.out) hb); have n5_ := Aside0.mk (below_step (by repeat (first | (with_reducible first | exact HB.out | apply below_alloc | apply pw_below_drewN | apply below_drew1 | refine below_set ?_ GE193.out | refine below_set ?_ GE194.out | refine below_set ?_ GE195.out | refine below_set ?_ GE205.out) | exact HB.out)) hb); clear HO_34; clear BK193; clear BK194; clear BK195; clear BK205; clear HB; have HO_34 := n0_; have BK193 := n1_; have BK194 := n2_; have BK195 := n3_; have BK205 := n4_; have HB := n5_; clear n0_ n1_ n2_ n3_ n4_ n5_; (try clear hb); (try clear hb2); (try clear hk); (try clear hi); have hcz109_0 : w108.cell? ⟨gb194, 0, none⟩ = some (.int .i64 x195000_44) := (blk_cell BK194.out 0).trans rfl; have hcz109_1 : w108.cell? ⟨gb194, 1, none⟩ = some (.string x195001_44) := (blk_cell BK194.out 1).trans rfl; have hfz109_0 := blk_frozen BK194.out 0; have hfz109_1 := blk_frozen BK194.out 1; have hcz110_0 : w108.cell? ⟨gb205, 0, none⟩ = some (.int .i64 x8_3) := (blk_cell BK205.out 0).trans rfl; have hcz110_1 : w108.cell? ⟨gb205, 1, none⟩ = some (.string (rdOf ByteArray.empty y201 x36_4)) := (blk_cell BK205.out 1).trans rfl; have hfz110_0 := blk_frozen BK205.out 0; have hfz110_1 := blk_frozen BK205.out 1) | (go_at_call 18; (with_reducible refine (ballots_Aborts.calls k4 x195000_44 x195001_44 x8_3 (rdOf ByteArray.empty y201 x36_4) true _ A91.out).mono ?_); rintro e w111 ⟨rfl, hb⟩; have n0_ := Aside0.mk (Kd.R_below (by (with_reducible repeat (first | apply Kd.R_alloc | apply Kd.R_drewN | apply Kd.R_drew)); exact HO_34.out) hb); have n1_ := Aside0.mk (blk_below (g := gb193) (o := .cells #[.int .i64 t184, .string t185] 26 (0, 0)) (by (with_reducible repeat (first | refine blk_drewN ?_ _ | refine blk_drew ?_ | refine blk_alloc ?_ _)); exact BK193.out) hb); have n2_ := Aside0.mk (blk_below (g := gb194) (o := .cells #[.int .i64 x195000_44, .string x195001_44] 26 (0, 0)) (by (with_reducible repeat (first | refine blk_drewN ?_ _ | refine blk_drew ?_ | refine blk_alloc ?_ _)); exact BK194.out) hb); have n3_ := Aside0.mk (blk_below (g := gb195) (o := .cells #[.int .i64 t190, .string t191] 26 (0, 0)) (by (with_reducible repeat (first | refine blk_drewN ?_ _ | refine blk_drew ?_ | refine blk_alloc ?_ _)); exact BK195.out) hb); have n4_ := Aside0.mk (blk_below (g := gb205) (o := .cells #[.int .i64 x8_3, .string (rdOf ByteArray.empty y201 x36_4)] 26 (0, 0)) (by (with_reducible repeat (first | refine blk_drewN ?_ _ | refine blk_drew ?_ | refine blk_alloc ?_ _)); exact BK205.out) hb); have n5_ := Aside0.mk (below_step (by repeat (first | (with_reducible first | exact HB.out | apply below_alloc | apply pw_below_drewN | apply below_drew1 | refine below_set ?_ GE193.out | refine below_set ?_ GE194.out | refine below_set ?_ GE195.out | refine below_set ?_ GE205.out) | exact HB.out)) hb); clear HO_34; clear BK193; clear BK194; clear BK195; clear BK205; clear HB; have HO_34 := n0_; have BK193 := n1_; have BK194 := n2_; have BK195 := n3_; have BK205 := n4_; have HB := n5_; clear n0_ n1_ n2_ n3_ n4_ n5_; (try clear hb); (try clear hb2); (try clear hk); (try clear hi)))
                                  go_roundg k4
                                  case measure => have := HJ5.out; have := HJ44.out; have := HK3.out; have := HK4.out; omega
                                  case rel => exact ⟨(x7_4), (wrap64 (x36_4 + 1)), (by first | rfl | (simp; done) | (simp [*]; done)), (by first | rfl | (simp; done) | (simp [*]; done)), H', ⟨by have := HJ5.out; have := HJ44.out; have := HK3.out; have := HK4.out; omega⟩, ⟨by (with_reducible repeat (first | apply Kd.R_alloc | apply Kd.R_drewN | apply Kd.R_drew)); exact HO_34.out⟩, ⟨by (with_reducible repeat (first | refine blk_drewN ?_ _ | refine blk_drew ?_ | refine blk_alloc ?_ _)); exact BK193.out⟩, ⟨by (with_reducible repeat (first | refine blk_drewN ?_ _ | refine blk_drew ?_ | refine blk_alloc ?_ _)); exact BK194.out⟩, ⟨by (with_reducible repeat (first | refine blk_drewN ?_ _ | refine blk_drew ?_ | refine blk_alloc ?_ _)); exact BK195.out⟩, ⟨by repeat (first | (with_reducible first | exact HB.out | apply below_alloc | apply pw_below_drewN | apply below_drew1 | refine below_set ?_ GE193.out | refine below_set ?_ GE194.out | refine below_set ?_ GE195.out | refine below_set ?_ GE205.out) | exact HB.out)⟩⟩
                                · replace c92 := Bool.eq_false_iff.mpr c92
                                  subst c92
                                  have H1 : (trustquorumlaw23_BallotsPrepares.l1 k4 false x8_3 y201 (y201.length : Int) (wrap64 (x36_4 + 1)) t184 t185 x195000_44 x195001_44 t190 t191) = some r := by rw [if_neg (show ¬ (false = true) by decide)] at H; exact H
                                  clear H
                                  have H := H1
                                  clear H1
                                  have H' := Aside0.mk H
                                  clear H
                                  have p204 : 0 ≤ (x36_4 : Int) := of_decide_eq_true (by first | (with_reducible assumption) | assumption)
                                  have q204 : x36_4 < (y201.length : Int) := of_decide_eq_true (by first | (with_reducible assumption) | assumption)
                                  obtain ⟨ad204, e204, hx204_0⟩ := Kd.at_string (Kd.R_reads' HO_34.out).2.2 x36_4 p204 q204
                                  cases e204
                                  replace p204 := eq_true p204
                                  replace q204 := eq_true q204
                                  go_wp2_with (first | ((with_reducible refine gate_dst (N := 11) rfl ?_); refine box_event ?hg (N := 11) ?hd (cs := #[.int .i64 0, .string (⟨#[]⟩ : ByteArray)]) (t := 26) ?hr ?_; (case hd => rfl); (case hg => rfl); (case hr => first | (go_simp; done) | (go_simp; rfl)); intro gb205 hg w112 hbox hb; have n0_ := Aside0.mk (Kd.R_below (by (with_reducible repeat (first | apply Kd.R_alloc | apply Kd.R_drewN | apply Kd.R_drew)); exact HO_34.out) hb); have n1_ := Aside0.mk (blk_below (g := gb193) (o := .cells #[.int .i64 t184, .string t185] 26 (0, 0)) (by (with_reducible repeat (first | refine blk_drewN ?_ _ | refine blk_drew ?_ | refine blk_alloc ?_ _)); exact BK193.out) hb); have n2_ := Aside0.mk (blk_below (g := gb194) (o := .cells #[.int .i64 x195000_44, .string x195001_44] 26 (0, 0)) (by (with_reducible repeat (first | refine blk_drewN ?_ _ | refine blk_drew ?_ | refine blk_alloc ?_ _)); exact BK194.out) hb); have n3_ := Aside0.mk (blk_below (g := gb195) (o := .cells #[.int .i64 t190, .string t191] 26 (0, 0)) (by (with_reducible repeat (first | refine blk_drewN ?_ _ | refine blk_drew ?_ | refine blk_alloc ?_ _)); exact BK195.out) hb); have n4_ := Aside0.mk (below_step (by repeat (first | (with_reducible first | exact HB.out | apply below_alloc | apply pw_below_drewN | apply below_drew1 | refine below_set ?_ GE193.out | refine below_set ?_ GE194.out | refine below_set ?_ GE195.out) | exact HB.out)) hb); have n5_ := Aside0.mk (hbox); have n6_ := Aside0.mk ((by rw [hg]; exact (below_size (by repeat (first | (with_reducible first | exact HB.out | apply below_alloc | apply pw_below_drewN | apply below_drew1 | refine below_set ?_ GE193.out | refine below_set ?_ GE194.out | refine below_set ?_ GE195.out) | exact HB.out))) : w.heap.size ≤ gb205)); have n7_ := Aside0.mk ((by rw [hg]; exact (below_size (by repeat (first | (with_reducible first | exact HB.out | apply below_alloc | apply pw_below_drewN | apply below_drew1 | refine below_set ?_ GE193.out | refine below_set ?_ GE194.out | refine below_set ?_ GE195.out) | exact HB.out))) : w.heap.size ≤ gb205)); have n8_ := Aside0.mk ((by rw [hg]; exact Nat.ne_of_lt (blk_lt (g := gb193) (o := .cells #[.int .i64 t184, .string t185] 26 (0, 0)) (by (with_reducible repeat (first | refine blk_drewN ?_ _ | refine blk_drew ?_ | refine blk_alloc ?_ _)); exact BK193.out)) : gb193 ≠ gb205)); have n9_ := Aside0.mk ((by rw [hg]; exact Nat.ne_of_gt (blk_lt (g := gb193) (o := .cells #[.int .i64 t184, .string t185] 26 (0, 0)) (by (with_reducible repeat (first | refine blk_drewN ?_ _ | refine blk_drew ?_ | refine blk_alloc ?_ _)); exact BK193.out)) : gb205 ≠ gb193)); have n10_ := Aside0.mk ((by rw [hg]; exact Nat.ne_of_lt (blk_lt (g := gb194) (o := .cells #[.int .i64 x195000_44, .string x195001_44] 26 (0, 0)) (by (with_reducible repeat (first | refine blk_drewN ?_ _ | refine blk_drew ?_ | refine blk_alloc ?_ _)); exact BK194.out)) : gb194 ≠ gb205)); have n11_ := Aside0.mk ((by rw [hg]; exact Nat.ne_of_gt (blk_lt (g := gb194) (o := .cells #[.int .i64 x195000_44, .string x195001_44] 26 (0, 0)) (by (with_reducible repeat (first | refine blk_drewN ?_ _ | refine blk_drew ?_ | refine blk_alloc ?_ _)); exact BK194.out)) : gb205 ≠ gb194)); have n12_ := Aside0.mk ((by rw [hg]; exact Nat.ne_of_lt (blk_lt (g := gb195) (o := .cells #[.int .i64 t190, .string t191] 26 (0, 0)) (by (with_reducible repeat (first | refine blk_drewN ?_ _ | refine blk_drew ?_ | refine blk_alloc ?_ _)); exact BK195.out)) : gb195 ≠ gb205)); have n13_ := Aside0.mk ((by rw [hg]; exact Nat.ne_of_gt (blk_lt (g := gb195) (o := .cells #[.int .i64 t190, .string t191] 26 (0, 0)) (by (with_reducible repeat (first | refine blk_drewN ?_ _ | refine blk_drew ?_ | refine blk_alloc ?_ _)); exact BK195.out)) : gb205 ≠ gb195)); clear HO_34; clear BK193; clear BK194; clear BK195; clear HB; have HO_34 := n0_; have BK193 := n1_; have BK194 := n2_; have BK195 := n3_; have HB := n4_; have BK205 := n5_; have GW205 := n6_; have GE205 := n7_; have NB193_205 := n8_; have NB205_193 := n9_; have NB194_205 := n10_; have NB205_194 := n11_; have NB195_205 := n12_; have NB205_195 := n13_; clear n0_ n1_ n2_ n3_ n4_ n5_ n6_ n7_ n8_ n9_ n10_ n11_ n12_ n13_; clear hb hbox hg; have hnb113 := NB205_193.out; have hnc113 := NB193_205.out; have hnb114 := NB205_194.out; have hnc114 := NB194_205.out; have hnb115 := NB205_195.out; have hnc115 := NB195_205.out; have hcz116_0 : w112.cell? ⟨gb205, 0, none⟩ = some (.int .i64 0) := (blk_cell BK205.out 0).trans rfl; have hcz116_1 : w112.cell? ⟨gb205, 1, none⟩ = some (.string (⟨#[]⟩ : ByteArray)) := (blk_cell BK205.out 1).trans rfl; have hfz116_0 := blk_frozen BK205.out 0; have hfz116_1 := blk_frozen BK205.out 1; have hnb117 := NB195_193.out; have hnc117 := NB193_195.out; have hnb118 := NB195_194.out; have hnc118 := NB194_195.out; have hcz119_0 : w112.cell? ⟨gb195, 0, none⟩ = some (.int .i64 t190) := (blk_cell BK195.out 0).trans rfl; have hcz119_1 : w112.cell? ⟨gb195, 1, none⟩ = some (.string t191) := (blk_cell BK195.out 1).trans rfl; have hfz119_0 := blk_frozen BK195.out 0; have hfz119_1 := blk_frozen BK195.out 1) | ((with_reducible refine gate_callee (f := 20) rfl ?_); refine goesL_ (some 45) rfl rfl Try.func20 (by kernel_rfl) rfl #[.agg #[.int .i64 x8_3, .string (rdOf ByteArray.empty y201 x36_4)], .agg #[.int .i64 t190, .string t191]] rfl (by (try simp only [List.map_toArray, List.map_cons, List.map_nil]); first | done | rfl | (simp only [List.length_drop, List.length_take]; rfl)) ?_; (with_reducible refine (trustquorumref23_Less.calls x8_3 (rdOf ByteArray.empty y201 x36_4) t190 t191 true _ A57.out).mono ?_); rintro e w120 ⟨rfl, hb⟩; refine ⟨_, rfl, ?_⟩; have n0_ := Aside0.mk (Kd.R_below (by (with_reducible repeat (first | apply Kd.R_alloc | apply Kd.R_drewN | apply Kd.R_drew)); exact (Kd.R_mono (Kd.R_far (p := ⟨gb205, 1, none⟩) (Kd.R_far (p := ⟨gb205, 0, none⟩) (Kd.R_types HO_34.out BK205.out (by decide)) (fun _ hk => hk.2) (.int .i64 x8_3)) (fun _ hk => hk.2) (.string (rdOf ByteArray.empty y201 x36_4))) (fun _ h_ => h_.1))) hb); have n1_ := Aside0.mk (blk_below (g := gb193) (o := .cells #[.int .i64 t184, .string t185] 26 (0, 0)) (by (with_reducible repeat (first | refine blk_drewN ?_ _ | refine blk_drew ?_ | refine blk_alloc ?_ _)); refine blk_far ?_ NB193_205.out _; (with_reducible repeat (first | refine blk_drewN ?_ _ | refine blk_drew ?_ | refine blk_alloc ?_ _)); refine blk_far ?_ NB193_205.out _; (with_reducible repeat (first | refine blk_drewN ?_ _ | refine blk_drew ?_ | refine blk_alloc ?_ _)); exact BK193.out) hb); have n2_ := Aside0.mk (blk_below (g := gb194) (o := .cells #[.int .i64 x195000_44, .string x195001_44] 26 (0, 0)) (by (with_reducible repeat (first | refine blk_drewN ?_ _ | refine blk_drew ?_ | refine blk_alloc ?_ _)); refine blk_far ?_ NB194_205.out _; (with_reducible repeat (first | refine blk_drewN ?_ _ | refine blk_drew ?_ | refine blk_alloc ?_ _)); refine blk_far ?_ NB194_205.out _; (with_reducible repeat (first | refine blk_drewN ?_ _ | refine blk_drew ?_ | refine blk_alloc ?_ _)); exact BK194.out) hb); have n3_ := Aside0.mk (blk_below (g := gb195) (o := .cells #[.int .i64 t190, .string t191] 26 (0, 0)) (by (with_reducible repeat (first | refine blk_drewN ?_ _ | refine blk_drew ?_ | refine blk_alloc ?_ _)); refine blk_far ?_ NB195_205.out _; (with_reducible repeat (first | refine blk_drewN ?_ _ | refine blk_drew ?_ | refine blk_alloc ?_ _)); refine blk_far ?_ NB195_205.out _; (with_reducible repeat (first | refine blk_drewN ?_ _ | refine blk_drew ?_ | refine blk_alloc ?_ _)); exact BK195.out) hb); have n4_ := Aside0.mk (blk_below (g := gb205) (o := .cells #[.int .i64 x8_3, .string (rdOf ByteArray.empty y201 x36_4)] 26 (0, 0)) (by (with_reducible repeat (first | refine blk_drewN ?_ _ | refine blk_drew ?_ | refine blk_alloc ?_ _)); refine blk_put (cs := #[.int .i64 x8_3, .string (⟨#[]⟩ : ByteArray)]) ?_ 1 _ rfl; (with_reducible repeat (first | refine blk_drewN ?_ _ | refine blk_drew ?_ | refine blk_alloc ?_ _)); refine blk_put (cs := #[.int .i64 0, .string (⟨#[]⟩ : ByteArray)]) ?_ 0 _ rfl; (with_reducible repeat (first | refine blk_drewN ?_ _ | refine blk_drew ?_ | refine blk_alloc ?_ _)); exact BK205.out) hb); have n5_ := Aside0.mk (below_step (by repeat (first | (with_reducible first | exact HB.out | apply below_alloc | apply pw_below_drewN | apply below_drew1 | refine below_set ?_ GE193.out | refine below_set ?_ GE194.out | refine below_set ?_ GE195.out | refine below_set ?_ GE205.out) | exact HB.out)) hb); clear HO_34; clear BK193; clear BK194; clear BK195; clear BK205; clear HB; have HO_34 := n0_; have BK193 := n1_; have BK194 := n2_; have BK195 := n3_; have BK205 := n4_; have HB := n5_; clear n0_ n1_ n2_ n3_ n4_ n5_; (try clear hb); (try clear hb2); (try clear hk); (try clear hi); have hcz121_0 : w120.cell? ⟨gb205, 0, none⟩ = some (.int .i64 x8_3) := (blk_cell BK205.out 0).trans rfl; have hcz121_1 : w120.cell? ⟨gb205, 1, none⟩ = some (.string (rdOf ByteArray.empty y201 x36_4)) := (blk_cell BK205.out 1).trans rfl; have hfz121_0 := blk_frozen BK205.out 0; have hfz121_1 := blk_frozen BK205.out 1; have hcz122_0 : w120.cell? ⟨gb195, 0, none⟩ = some (.int .i64 t190) := (blk_cell BK195.out 0).trans rfl; have hcz122_1 : w120.cell? ⟨gb195, 1, none⟩ = some (.string t191) := (blk_cell BK195.out 1).trans rfl; have hfz122_0 := blk_frozen BK195.out 0; have hfz122_1 := blk_frozen BK195.out 1) | (go_at_call 21; (with_reducible refine (trustquorumref23_Compatible.calls x8_3 (rdOf ByteArray.empty y201 x36_4) t190 t191 false _ A59.out).mono ?_); rintro e w123 ⟨rfl, hb⟩; have n0_ := Aside0.mk (Kd.R_below (by (with_reducible repeat (first | apply Kd.R_alloc | apply Kd.R_drewN | apply Kd.R_drew)); exact HO_34.out) hb); have n1_ := Aside0.mk (blk_below (g := gb193) (o := .cells #[.int .i64 t184, .string t185] 26 (0, 0)) (by (with_reducible repeat (first | refine blk_drewN ?_ _ | refine blk_drew ?_ | refine blk_alloc ?_ _)); exact BK193.out) hb); have n2_ := Aside0.mk (blk_below (g := gb194) (o := .cells #[.int .i64 x195000_44, .string x195001_44] 26 (0, 0)) (by (with_reducible repeat (first | refine blk_drewN ?_ _ | refine blk_drew ?_ | refine blk_alloc ?_ _)); exact BK194.out) hb); have n3_ := Aside0.mk (blk_below (g := gb195) (o := .cells #[.int .i64 t190, .string t191] 26 (0, 0)) (by (with_reducible repeat (first | refine blk_drewN ?_ _ | refine blk_drew ?_ | refine blk_alloc ?_ _)); exact BK195.out) hb); have n4_ := Aside0.mk (blk_below (g := gb205) (o := .cells #[.int .i64 x8_3, .string (rdOf ByteArray.empty y201 x36_4)] 26 (0, 0)) (by (with_reducible repeat (first | refine blk_drewN ?_ _ | refine blk_drew ?_ | refine blk_alloc ?_ _)); exact BK205.out) hb); have n5_ := Aside0.mk (below_step (by repeat (first | (with_reducible first | exact HB.out | apply below_alloc | apply pw_below_drewN | apply below_drew1 | refine below_set ?_ GE193.out | refine below_set ?_ GE194.out | refine below_set ?_ GE195.out | refine below_set ?_ GE205.out) | exact HB.out)) hb); clear HO_34; clear BK193; clear BK194; clear BK195; clear BK205; clear HB; have HO_34 := n0_; have BK193 := n1_; have BK194 := n2_; have BK195 := n3_; have BK205 := n4_; have HB := n5_; clear n0_ n1_ n2_ n3_ n4_ n5_; (try clear hb); (try clear hb2); (try clear hk); (try clear hi); have hnb124 := NB193_194.out; have hnc124 := NB194_193.out; have hcz125_0 : w123.cell? ⟨gb193, 0, none⟩ = some (.int .i64 t184) := (blk_cell BK193.out 0).trans rfl; have hcz125_1 : w123.cell? ⟨gb193, 1, none⟩ = some (.string t185) := (blk_cell BK193.out 1).trans rfl; have hfz125_0 := blk_frozen BK193.out 0; have hfz125_1 := blk_frozen BK193.out 1; have hcz126_0 : w123.cell? ⟨gb205, 0, none⟩ = some (.int .i64 x8_3) := (blk_cell BK205.out 0).trans rfl; have hcz126_1 : w123.cell? ⟨gb205, 1, none⟩ = some (.string (rdOf ByteArray.empty y201 x36_4)) := (blk_cell BK205.out 1).trans rfl; have hfz126_0 := blk_frozen BK205.out 0; have hfz126_1 := blk_frozen BK205.out 1) | (go_at_call 18; (with_reducible refine (ballots_Aborts.calls k4 t184 t185 x8_3 (rdOf ByteArray.empty y201 x36_4) false _ A73.out).mono ?_); rintro e w127 ⟨rfl, hb⟩; have n0_ := Aside0.mk (Kd.R_below (by (with_reducible repeat (first | apply Kd.R_alloc | apply Kd.R_drewN | apply Kd.R_drew)); exact HO_34.out) hb); have n1_ := Aside0.mk (blk_below (g := gb193) (o := .cells #[.int .i64 t184, .string t185] 26 (0, 0)) (by (with_reducible repeat (first | refine blk_drewN ?_ _ | refine blk_drew ?_ | refine blk_alloc ?_ _)); exact BK193.out) hb); have n2_ := Aside0.mk (blk_below (g := gb194) (o := .cells #[.int .i64 x195000_44, .string x195001_44] 26 (0, 0)) (by (with_reducible repeat (first | refine blk_drewN ?_ _ | refine blk_drew ?_ | refine blk_alloc ?_ _)); exact BK194.out) hb); have n3_ := Aside0.mk (blk_below (g := gb195) (o := .cells #[.int .i64 t190, .string t191] 26 (0, 0)) (by (with_reducible repeat (first | refine blk_drewN ?_ _ | refine blk_drew ?_ | refine blk_alloc ?_ _)); exact BK195.out) hb); have n4_ := Aside0.mk (blk_below (g := gb205) (o := .cells #[.int .i64 x8_3, .string (rdOf ByteArray.empty y201 x36_4)] 26 (0, 0)) (by (with_reducible repeat (first | refine blk_drewN ?_ _ | refine blk_drew ?_ | refine blk_alloc ?_ _)); exact BK205.out) hb); have n5_ := Aside0.mk (below_step (by repeat (first | (with_reducible first | exact HB.out | apply below_alloc | apply pw_below_drewN | apply below_drew1 | refine below_set ?_ GE193.out | refine below_set ?_ GE194.out | refine below_set ?_ GE195.out | refine below_set ?_ GE205.out) | exact HB.out)) hb); clear HO_34; clear BK193; clear BK194; clear BK195; clear BK205; clear HB; have HO_34 := n0_; have BK193 := n1_; have BK194 := n2_; have BK195 := n3_; have BK205 := n4_; have HB := n5_; clear n0_ n1_ n2_ n3_ n4_ n5_; (try clear hb); (try clear hb2); (try clear hk); (try clear hi); have hcz128_0 : w127.cell? ⟨gb194, 0, none⟩ = some (.int .i64 x195000_44) := (blk_cell BK194.out 0).trans rfl; have hcz128_1 : w127.cell? ⟨gb194, 1, none⟩ = some (.string x195001_44) := (blk_cell BK194.out 1).trans rfl; have hfz128_0 := blk_frozen BK194.out 0; have hfz128_1 := blk_frozen BK194.out 1; have hcz129_0 : w127.cell? ⟨gb205, 0, none⟩ = some (.int .i64 x8_3) := (blk_cell BK205.out 0).trans rfl; have hcz129_1 : w127.cell? ⟨gb205, 1, none⟩ = some (.string (rdOf ByteArray.empty y201 x36_4)) := (blk_cell BK205.out 1).trans rfl; have hfz129_0 := blk_frozen BK205.out 0; have hfz129_1 := blk_frozen BK205.out 1) | (go_at_call 18; (with_reducible refine (ballots_Aborts.calls k4 x195000_44 x195001_44 x8_3 (rdOf ByteArray.empty y201 x36_4) false _ A91.out).mono ?_); rintro e w130 ⟨rfl, hb⟩; have n0_ := Aside0.mk (Kd.R_below (by (with_reducible repeat (first | apply Kd.R_alloc | apply Kd.R_drewN | apply Kd.R_drew)); exact HO_34.out) hb); have n1_ := Aside0.mk (blk_below (g := gb193) (o := .cells #[.int .i64 t184, .string t185] 26 (0, 0)) (by (with_reducible repeat (first | refine blk_drewN ?_ _ | refine blk_drew ?_ | refine blk_alloc ?_ _)); exact BK193.out) hb); have n2_ := Aside0.mk (blk_below (g := gb194) (o := .cells #[.int .i64 x195000_44, .string x195001_44] 26 (0, 0)) (by (with_reducible repeat (first | refine blk_drewN ?_ _ | refine blk_drew ?_ | refine blk_alloc ?_ _)); exact BK194.out) hb); have n3_ := Aside0.mk (blk_below (g := gb195) (o := .cells #[.int .i64 t190, .string t191] 26 (0, 0)) (by (with_reducible repeat (first | refine blk_drewN ?_ _ | refine blk_drew ?_ | refine blk_alloc ?_ _)); exact BK195.out) hb); have n4_ := Aside0.mk (blk_below (g := gb205) (o := .cells #[.int .i64 x8_3, .string (rdOf ByteArray.empty y201 x36_4)] 26 (0, 0)) (by (with_reducible repeat (first | refine blk_drewN ?_ _ | refine blk_drew ?_ | refine blk_alloc ?_ _)); exact BK205.out) hb); have n5_ := Aside0.mk (below_step (by repeat (first | (with_reducible first | exact HB.out | apply below_alloc | apply pw_below_drewN | apply below_drew1 | refine below_set ?_ GE193.out | refine below_set ?_ GE194.out | refine below_set ?_ GE195.out | refine below_set ?_ GE205.out) | exact HB.out)) hb); clear HO_34; clear BK193; clear BK194; clear BK195; clear BK205; clear HB; have HO_34 := n0_; have BK193 := n1_; have BK194 := n2_; have BK195 := n3_; have BK205 := n4_; have HB := n5_; clear n0_ n1_ n2_ n3_ n4_ n5_; (try clear hb); (try clear hb2); (try clear hk); (try clear hi)))
                                  go_roundg k4
                                  case measure => have := HJ5.out; have := HJ44.out; have := HK3.out; have := HK4.out; omega
                                  case rel => exact ⟨(false), (wrap64 (x36_4 + 1)), (by first | rfl | (simp; done) | (simp [*]; done)), (by first | rfl | (simp; done) | (simp [*]; done)), H', ⟨by have := HJ5.out; have := HJ44.out; have := HK3.out; have := HK4.out; omega⟩, ⟨by (with_reducible repeat (first | apply Kd.R_alloc | apply Kd.R_drewN | apply Kd.R_drew)); exact HO_34.out⟩, ⟨by (with_reducible repeat (first | refine blk_drewN ?_ _ | refine blk_drew ?_ | refine blk_alloc ?_ _)); exact BK193.out⟩, ⟨by (with_reducible repeat (first | refine blk_drewN ?_ _ | refine blk_drew ?_ | refine blk_alloc ?_ _)); exact BK194.out⟩, ⟨by (with_reducible repeat (first | refine blk_drewN ?_ _ | refine blk_drew ?_ | refine blk_alloc ?_ _)); exact BK195.out⟩, ⟨by repeat (first | (with_reducible first | exact HB.out | apply below_alloc | apply pw_below_drewN | apply below_drew1 | refine below_set ?_ GE193.out | refine below_set ?_ GE194.out | refine below_set ?_ GE195.out | refine below_set ?_ GE205.out) | exact HB.out)⟩⟩
                          · replace c58 := Bool.eq_false_iff.mpr c58
                            subst c58
                            have H1 : (trustquorumlaw23_BallotsPrepares.l1 k4 x7_4 x8_3 y201 (y201.length : Int) (wrap64 (x36_4 + 1)) t184 t185 x195000_44 x195001_44 t190 t191) = some r := by rw [if_neg (show ¬ (false = true) by decide)] at H; exact H
                            clear H
                            have H := H1
                            clear H1
                            have H' := Aside0.mk H
                            clear H
                            have p204 : 0 ≤ (x36_4 : Int) := of_decide_eq_true (by first | (with_reducible assumption) | assumption)
                            have q204 : x36_4 < (y201.length : Int) := of_decide_eq_true (by first | (with_reducible assumption) | assumption)
                            obtain ⟨ad204, e204, hx204_0⟩ := Kd.at_string (Kd.R_reads' HO_34.out).2.2 x36_4 p204 q204
                            cases e204
                            replace p204 := eq_true p204
                            replace q204 := eq_true q204
                            go_wp2_with (first | ((with_reducible refine gate_dst (N := 11) rfl ?_); refine box_event ?hg (N := 11) ?hd (cs := #[.int .i64 0, .string (⟨#[]⟩ : ByteArray)]) (t := 26) ?hr ?_; (case hd => rfl); (case hg => rfl); (case hr => first | (go_simp; done) | (go_simp; rfl)); intro gb205 hg w131 hbox hb; have n0_ := Aside0.mk (Kd.R_below (by (with_reducible repeat (first | apply Kd.R_alloc | apply Kd.R_drewN | apply Kd.R_drew)); exact HO_34.out) hb); have n1_ := Aside0.mk (blk_below (g := gb193) (o := .cells #[.int .i64 t184, .string t185] 26 (0, 0)) (by (with_reducible repeat (first | refine blk_drewN ?_ _ | refine blk_drew ?_ | refine blk_alloc ?_ _)); exact BK193.out) hb); have n2_ := Aside0.mk (blk_below (g := gb194) (o := .cells #[.int .i64 x195000_44, .string x195001_44] 26 (0, 0)) (by (with_reducible repeat (first | refine blk_drewN ?_ _ | refine blk_drew ?_ | refine blk_alloc ?_ _)); exact BK194.out) hb); have n3_ := Aside0.mk (blk_below (g := gb195) (o := .cells #[.int .i64 t190, .string t191] 26 (0, 0)) (by (with_reducible repeat (first | refine blk_drewN ?_ _ | refine blk_drew ?_ | refine blk_alloc ?_ _)); exact BK195.out) hb); have n4_ := Aside0.mk (below_step (by repeat (first | (with_reducible first | exact HB.out | apply below_alloc | apply pw_below_drewN | apply below_drew1 | refine below_set ?_ GE193.out | refine below_set ?_ GE194.out | refine below_set ?_ GE195.out) | exact HB.out)) hb); have n5_ := Aside0.mk (hbox); have n6_ := Aside0.mk ((by rw [hg]; exact (below_size (by repeat (first | (with_reducible first | exact HB.out | apply below_alloc | apply pw_below_drewN | apply below_drew1 | refine below_set ?_ GE193.out | refine below_set ?_ GE194.out | refine below_set ?_ GE195.out) | exact HB.out))) : w.heap.size ≤ gb205)); have n7_ := Aside0.mk ((by rw [hg]; exact (below_size (by repeat (first | (with_reducible first | exact HB.out | apply below_alloc | apply pw_below_drewN | apply below_drew1 | refine below_set ?_ GE193.out | refine below_set ?_ GE194.out | refine below_set ?_ GE195.out) | exact HB.out))) : w.heap.size ≤ gb205)); have n8_ := Aside0.mk ((by rw [hg]; exact Nat.ne_of_lt (blk_lt (g := gb193) (o := .cells #[.int .i64 t184, .string t185] 26 (0, 0)) (by (with_reducible repeat (first | refine blk_drewN ?_ _ | refine blk_drew ?_ | refine blk_alloc ?_ _)); exact BK193.out)) : gb193 ≠ gb205)); have n9_ := Aside0.mk ((by rw [hg]; exact Nat.ne_of_gt (blk_lt (g := gb193) (o := .cells #[.int .i64 t184, .string t185] 26 (0, 0)) (by (with_reducible repeat (first | refine blk_drewN ?_ _ | refine blk_drew ?_ | refine blk_alloc ?_ _)); exact BK193.out)) : gb205 ≠ gb193)); have n10_ := Aside0.mk ((by rw [hg]; exact Nat.ne_of_lt (blk_lt (g := gb194) (o := .cells #[.int .i64 x195000_44, .string x195001_44] 26 (0, 0)) (by (with_reducible repeat (first | refine blk_drewN ?_ _ | refine blk_drew ?_ | refine blk_alloc ?_ _)); exact BK194.out)) : gb194 ≠ gb205)); have n11_ := Aside0.mk ((by rw [hg]; exact Nat.ne_of_gt (blk_lt (g := gb194) (o := .cells #[.int .i64 x195000_44, .string x195001_44] 26 (0, 0)) (by (with_reducible repeat (first | refine blk_drewN ?_ _ | refine blk_drew ?_ | refine blk_alloc ?_ _)); exact BK194.out)) : gb205 ≠ gb194)); have n12_ := Aside0.mk ((by rw [hg]; exact Nat.ne_of_lt (blk_lt (g := gb195) (o := .cells #[.int .i64 t190, .string t191] 26 (0, 0)) (by (with_reducible repeat (first | refine blk_drewN ?_ _ | refine blk_drew ?_ | refine blk_alloc ?_ _)); exact BK195.out)) : gb195 ≠ gb205)); have n13_ := Aside0.mk ((by rw [hg]; exact Nat.ne_of_gt (blk_lt (g := gb195) (o := .cells #[.int .i64 t190, .string t191] 26 (0, 0)) (by (with_reducible repeat (first | refine blk_drewN ?_ _ | refine blk_drew ?_ | refine blk_alloc ?_ _)); exact BK195.out)) : gb205 ≠ gb195)); clear HO_34; clear BK193; clear BK194; clear BK195; clear HB; have HO_34 := n0_; have BK193 := n1_; have BK194 := n2_; have BK195 := n3_; have HB := n4_; have BK205 := n5_; have GW205 := n6_; have GE205 := n7_; have NB193_205 := n8_; have NB205_193 := n9_; have NB194_205 := n10_; have NB205_194 := n11_; have NB195_205 := n12_; have NB205_195 := n13_; clear n0_ n1_ n2_ n3_ n4_ n5_ n6_ n7_ n8_ n9_ n10_ n11_ n12_ n13_; clear hb hbox hg; have hnb132 := NB205_193.out; have hnc132 := NB193_205.out; have hnb133 := NB205_194.out; have hnc133 := NB194_205.out; have hnb134 := NB205_195.out; have hnc134 := NB195_205.out; have hcz135_0 : w131.cell? ⟨gb205, 0, none⟩ = some (.int .i64 0) := (blk_cell BK205.out 0).trans rfl; have hcz135_1 : w131.cell? ⟨gb205, 1, none⟩ = some (.string (⟨#[]⟩ : ByteArray)) := (blk_cell BK205.out 1).trans rfl; have hfz135_0 := blk_frozen BK205.out 0; have hfz135_1 := blk_frozen BK205.out 1; have hnb136 := NB195_193.out; have hnc136 := NB193_195.out; have hnb137 := NB195_194.out; have hnc137 := NB194_195.out; have hcz138_0 : w131.cell? ⟨gb195, 0, none⟩ = some (.int .i64 t190) := (blk_cell BK195.out 0).trans rfl; have hcz138_1 : w131.cell? ⟨gb195, 1, none⟩ = some (.string t191) := (blk_cell BK195.out 1).trans rfl; have hfz138_0 := blk_frozen BK195.out 0; have hfz138_1 := blk_frozen BK195.out 1) | ((with_reducible refine gate_callee (f := 20) rfl ?_); refine goesL_ (some 45) rfl rfl Try.func20 (by kernel_rfl) rfl #[.agg #[.int .i64 x8_3, .string (rdOf ByteArray.empty y201 x36_4)], .agg #[.int .i64 t190, .string t191]] rfl (by (try simp only [List.map_toArray, List.map_cons, List.map_nil]); first | done | rfl | (simp only [List.length_drop, List.length_take]; rfl)) ?_; (with_reducible refine (trustquorumref23_Less.calls x8_3 (rdOf ByteArray.empty y201 x36_4) t190 t191 false _ A57.out).mono ?_); rintro e w139 ⟨rfl, hb⟩; refine ⟨_, rfl, ?_⟩; have n0_ := Aside0.mk (Kd.R_below (by (with_reducible repeat (first | apply Kd.R_alloc | apply Kd.R_drewN | apply Kd.R_drew)); exact (Kd.R_mono (Kd.R_far (p := ⟨gb205, 1, none⟩) (Kd.R_far (p := ⟨gb205, 0, none⟩) (Kd.R_types HO_34.out BK205.out (by decide)) (fun _ hk => hk.2) (.int .i64 x8_3)) (fun _ hk => hk.2) (.string (rdOf ByteArray.empty y201 x36_4))) (fun _ h_ => h_.1))) hb); have n1_ := Aside0.mk (blk_below (g := gb193) (o := .cells #[.int .i64 t184, .string t185] 26 (0, 0)) (by (with_reducible repeat (first | refine blk_drewN ?_ _ | refine blk_drew ?_ | refine blk_alloc ?_ _)); refine blk_far ?_ NB193_205.out _; (with_reducible repeat (first | refine blk_drewN ?_ _ | refine blk_drew ?_ | refine blk_alloc ?_ _)); refine blk_far ?_ NB193_205.out _; (with_reducible repeat (first | refine blk_drewN ?_ _ | refine blk_drew ?_ | refine blk_alloc ?_ _)); exact BK193.out) hb); have n2_ := Aside0.mk (blk_below (g := gb194) (o := .cells #[.int .i64 x195000_44, .string x195001_44] 26 (0, 0)) (by (with_reducible repeat (first | refine blk_drewN ?_ _ | refine blk_drew ?_ | refine blk_alloc ?_ _)); refine blk_far ?_ NB194_205.out _; (with_reducible repeat (first | refine blk_drewN ?_ _ | refine blk_drew ?_ | refine blk_alloc ?_ _)); refine blk_far ?_ NB194_205.out _; (with_reducible repeat (first | refine blk_drewN ?_ _ | refine blk_drew ?_ | refine blk_alloc ?_ _)); exact BK194.out) hb); have n3_ := Aside0.mk (blk_below (g := gb195) (o := .cells #[.int .i64 t190, .string t191] 26 (0, 0)) (by (with_reducible repeat (first | refine blk_drewN ?_ _ | refine blk_drew ?_ | refine blk_alloc ?_ _)); refine blk_far ?_ NB195_205.out _; (with_reducible repeat (first | refine blk_drewN ?_ _ | refine blk_drew ?_ | refine blk_alloc ?_ _)); refine blk_far ?_ NB195_205.out _; (with_reducible repeat (first | refine blk_drewN ?_ _ | refine blk_drew ?_ | refine blk_alloc ?_ _)); exact BK195.out) hb); have n4_ := Aside0.mk (blk_below (g := gb205) (o := .cells #[.int .i64 x8_3, .string (rdOf ByteArray.empty y201 x36_4)] 26 (0, 0)) (by (with_reducible repeat (first | refine blk_drewN ?_ _ | refine blk_drew ?_ | refine blk_alloc ?_ _)); refine blk_put (cs := #[.int .i64 x8_3, .string (⟨#[]⟩ : ByteArray)]) ?_ 1 _ rfl; (with_reducible repeat (first | refine blk_drewN ?_ _ | refine blk_drew ?_ | refine blk_alloc ?_ _)); refine blk_put (cs := #[.int .i64 0, .string (⟨#[]⟩ : ByteArray)]) ?_ 0 _ rfl; (with_reducible repeat (first | refine blk_drewN ?_ _ | refine blk_drew ?_ | refine blk_alloc ?_ _)); exact BK205.out) hb); have n5_ := Aside0.mk (below_step (by repeat (first | (with_reducible first | exact HB.out | apply below_alloc | apply pw_below_drewN | apply below_drew1 | refine below_set ?_ GE193.out | refine below_set ?_ GE194.out | refine below_set ?_ GE195.out | refine below_set ?_ GE205.out) | exact HB.out)) hb); clear HO_34; clear BK193; clear BK194; clear BK195; clear BK205; clear HB; have HO_34 := n0_; have BK193 := n1_; have BK194 := n2_; have BK195 := n3_; have BK205 := n4_; have HB := n5_; clear n0_ n1_ n2_ n3_ n4_ n5_; (try clear hb); (try clear hb2); (try clear hk); (try clear hi)))
                            go_roundg k4
                            case measure => have := HJ5.out; have := HJ44.out; have := HK3.out; have := HK4.out; omega
                            case rel => exact ⟨(x7_4), (wrap64 (x36_4 + 1)), (by first | rfl | (simp; done) | (simp [*]; done)), (by first | rfl | (simp; done) | (simp [*]; done)), H', ⟨by have := HJ5.out; have := HJ44.out; have := HK3.out; have := HK4.out; omega⟩, ⟨by (with_reducible repeat (first | apply Kd.R_alloc | apply Kd.R_drewN | apply Kd.R_drew)); exact HO_34.out⟩, ⟨by (with_reducible repeat (first | refine blk_drewN ?_ _ | refine blk_drew ?_ | refine blk_alloc ?_ _)); exact BK193.out⟩, ⟨by (with_reducible repeat (first | refine blk_drewN ?_ _ | refine blk_drew ?_ | refine blk_alloc ?_ _)); exact BK194.out⟩, ⟨by (with_reducible repeat (first | refine blk_drewN ?_ _ | refine blk_drew ?_ | refine blk_alloc ?_ _)); exact BK195.out⟩, ⟨by repeat (first | (with_reducible first | exact HB.out | apply below_alloc | apply pw_below_drewN | apply below_drew1 | refine below_set ?_ GE193.out | refine below_set ?_ GE194.out | refine below_set ?_ GE195.out | refine below_set ?_ GE205.out) | exact HB.out)⟩⟩
                        · rw [if_neg c56] at H
                          exact absurd H (by simp)
                      · rw [if_neg c55] at H
                        exact absurd H (by simp)
                    · rw [if_neg c54] at H
                      have c54b0 : decide (x36_4 < (y201.length : Int)) = false := decide_eq_false c54
                      clear c54
                      have H' := Aside0.mk H
                      clear H
                      go_wp2
                      go_roundg k4
                      case measure => have := HJ5.out; have := HJ44.out; have := HK3.out; have := HK4.out; omega
                      case rel => exact ⟨(x7_4), (wrap64 (x8_3 + 1)), (by first | rfl | (simp; done) | (simp [*]; done)), (by first | rfl | (simp; done) | (simp [*]; done)), H', ⟨by have := HJ5.out; have := HJ44.out; have := HK3.out; have := HK4.out; omega⟩, ⟨by (with_reducible repeat (first | refine blk_drewN ?_ _ | refine blk_drew ?_ | refine blk_alloc ?_ _)); exact BK193.out⟩, ⟨by (with_reducible repeat (first | refine blk_drewN ?_ _ | refine blk_drew ?_ | refine blk_alloc ?_ _)); exact BK194.out⟩, ⟨by (with_reducible repeat (first | refine blk_drewN ?_ _ | refine blk_drew ?_ | refine blk_alloc ?_ _)); exact BK195.out⟩, ⟨by repeat (first | (with_reducible first | exact HB.out | apply below_alloc | apply pw_below_drewN | apply below_drew1 | refine below_set ?_ GE193.out | refine below_set ?_ GE194.out | refine below_set ?_ GE195.out) | exact HB.out)⟩⟩
              · rw [if_neg c50] at H
                have c50b0 : decide (x8_3 ≤ 7) = false := decide_eq_false c50
                clear c50
                replace H := Option.bind_eq_some_iff.mp H
                obtain ⟨t198, A1400, H⟩ := H
                replace H : (if t198 = true then (if x7_3 = true then ((trustquorumlaw23_sane.f k3).bind fun t199 => (some t199)) else (some false)) else ((trustquorumlaw23_sane.f k3).bind fun t200 => (some t200))) = some r := H
                have A140 := Aside0.mk A1400
                clear A1400
                by_cases c141 : t198 = true
                · subst c141
                  have H1 : (if x7_3 = true then ((trustquorumlaw23_sane.f k3).bind fun t199 => (some t199)) else (some false)) = some r := by rw [if_pos rfl] at H; exact H
                  clear H
                  have H := H1
                  clear H1
                  by_cases c142 : x7_3 = true
                  · subst c142
                    have H1 : ((trustquorumlaw23_sane.f k3).bind fun t199 => (some t199)) = some r := by rw [if_pos rfl] at H; exact H
                    clear H
                    have H := H1
                    clear H1
                    replace H := Option.bind_eq_some_iff.mp H
                    obtain ⟨t199, A1430, H⟩ := H
                    replace H : (some t199) = some r := H
                    have A143 := Aside0.mk A1430
                    clear A1430
                    obtain rfl := Option.some.inj H
                    have hnb144 := NB193_194.out
                    have hnc144 := NB194_193.out
                    have hnb145 := NB193_195.out
                    have hnc145 := NB195_193.out
                    have hcz146_0 : wr.cell? ⟨gb193, 0, none⟩ = some (.int .i64 t184) := (blk_cell BK193.out 0).trans rfl
                    have hcz146_1 : wr.cell? ⟨gb193, 1, none⟩ = some (.string t185) := (blk_cell BK193.out 1).trans rfl
                    have hfz146_0 := blk_frozen BK193.out 0
                    have hfz146_1 := blk_frozen BK193.out 1
                    have hnb147 := NB194_195.out
                    have hnc147 := NB195_194.out
                    have hcz148_0 : wr.cell? ⟨gb194, 0, none⟩ = some (.int .i64 x195000_44) := (blk_cell BK194.out 0).trans rfl
                    have hcz148_1 : wr.cell? ⟨gb194, 1, none⟩ = some (.string x195001_44) := (blk_cell BK194.out 1).trans rfl
                    have hfz148_0 := blk_frozen BK194.out 0
                    have hfz148_1 := blk_frozen BK194.out 1
                    have hcz149_0 : wr.cell? ⟨gb195, 0, none⟩ = some (.int .i64 t190) := (blk_cell BK195.out 0).trans rfl
                    have hcz149_1 : wr.cell? ⟨gb195, 1, none⟩ = some (.string t191) := (blk_cell BK195.out 1).trans rfl
                    have hfz149_0 := blk_frozen BK195.out 0
                    have hfz149_1 := blk_frozen BK195.out 1
                    go_wp2_with (first | ((with_reducible refine gate_callee (f := 22) rfl ?_); refine goesL_ (some 68) rfl rfl Try.func22 (by kernel_rfl) rfl #[.agg #[.int .i64 t184, .string t185], .agg #[.int .i64 x195000_44, .string x195001_44], .agg #[.int .i64 t190, .string t191]] rfl (by (try simp only [List.map_toArray, List.map_cons, List.map_nil]); first | done | rfl | (simp only [List.length_drop, List.length_take]; rfl)) ?_; (with_reducible refine (ballots_Prepares.calls k3 t184 t185 x195000_44 x195001_44 t190 t191 true _ A140.out).mono ?_); rintro e w150 ⟨rfl, hb⟩; refine ⟨_, rfl, ?_⟩; have n0_ := Aside0.mk (blk_below (g := gb193) (o := .cells #[.int .i64 t184, .string t185] 26 (0, 0)) (by (with_reducible repeat (first | refine blk_drewN ?_ _ | refine blk_drew ?_ | refine blk_alloc ?_ _)); exact BK193.out) hb); have n1_ := Aside0.mk (blk_below (g := gb194) (o := .cells #[.int .i64 x195000_44, .string x195001_44] 26 (0, 0)) (by (with_reducible repeat (first | refine blk_drewN ?_ _ | refine blk_drew ?_ | refine blk_alloc ?_ _)); exact BK194.out) hb); have n2_ := Aside0.mk (blk_below (g := gb195) (o := .cells #[.int .i64 t190, .string t191] 26 (0, 0)) (by (with_reducible repeat (first | refine blk_drewN ?_ _ | refine blk_drew ?_ | refine blk_alloc ?_ _)); exact BK195.out) hb); have n3_ := Aside0.mk (below_step (by repeat (first | (with_reducible first | exact HB.out | apply below_alloc | apply pw_below_drewN | apply below_drew1 | refine below_set ?_ GE193.out | refine below_set ?_ GE194.out | refine below_set ?_ GE195.out) | exact HB.out)) hb); clear BK193; clear BK194; clear BK195; clear HB; have BK193 := n0_; have BK194 := n1_; have BK195 := n2_; have HB := n3_; clear n0_ n1_ n2_ n3_; (try clear hb); (try clear hb2); (try clear hk); (try clear hi)) | (go_at_call 14; (with_reducible refine (trustquorumlaw23_sane.calls k3  t199 _ A143.out).mono ?_); rintro e w151 ⟨rfl, hb⟩; have n0_ := Aside0.mk (blk_below (g := gb193) (o := .cells #[.int .i64 t184, .string t185] 26 (0, 0)) (by (with_reducible repeat (first | refine blk_drewN ?_ _ | refine blk_drew ?_ | refine blk_alloc ?_ _)); exact BK193.out) hb); have n1_ := Aside0.mk (blk_below (g := gb194) (o := .cells #[.int .i64 x195000_44, .string x195001_44] 26 (0, 0)) (by (with_reducible repeat (first | refine blk_drewN ?_ _ | refine blk_drew ?_ | refine blk_alloc ?_ _)); exact BK194.out) hb); have n2_ := Aside0.mk (blk_below (g := gb195) (o := .cells #[.int .i64 t190, .string t191] 26 (0, 0)) (by (with_reducible repeat (first | refine blk_drewN ?_ _ | refine blk_drew ?_ | refine blk_alloc ?_ _)); exact BK195.out) hb); have n3_ := Aside0.mk (below_step (by repeat (first | (with_reducible first | exact HB.out | apply below_alloc | apply pw_below_drewN | apply below_drew1 | refine below_set ?_ GE193.out | refine below_set ?_ GE194.out | refine below_set ?_ GE195.out) | exact HB.out)) hb); clear BK193; clear BK194; clear BK195; clear HB; have BK193 := n0_; have BK194 := n1_; have BK195 := n2_; have HB := n3_; clear n0_ n1_ n2_ n3_; (try clear hb); (try clear hb2); (try clear hk); (try clear hi)))
                    go_ret
                    exact ⟨by first | rfl | (simp [errW_none, errW_some] <;> rfl) | (simp [*, errW_none, errW_some] <;> rfl), by repeat (first | (with_reducible first | exact HB.out | apply below_alloc | apply pw_below_drewN | apply below_drew1 | refine below_set ?_ GE193.out | refine below_set ?_ GE194.out | refine below_set ?_ GE195.out) | exact HB.out)⟩
                  · replace c142 := Bool.eq_false_iff.mpr c142
                    subst c142
                    have H1 : (some false) = some r := by rw [if_neg (show ¬ (false = true) by decide)] at H; exact H
                    clear H
                    have H := H1
                    clear H1
                    obtain rfl := Option.some.inj H
                    have hnb152 := NB193_194.out
                    have hnc152 := NB194_193.out
                    have hnb153 := NB193_195.out
                    have hnc153 := NB195_193.out
                    have hcz154_0 : wr.cell? ⟨gb193, 0, none⟩ = some (.int .i64 t184) := (blk_cell BK193.out 0).trans rfl
                    have hcz154_1 : wr.cell? ⟨gb193, 1, none⟩ = some (.string t185) := (blk_cell BK193.out 1).trans rfl
                    have hfz154_0 := blk_frozen BK193.out 0
                    have hfz154_1 := blk_frozen BK193.out 1
                    have hnb155 := NB194_195.out
                    have hnc155 := NB195_194.out
                    have hcz156_0 : wr.cell? ⟨gb194, 0, none⟩ = some (.int .i64 x195000_44) := (blk_cell BK194.out 0).trans rfl
                    have hcz156_1 : wr.cell? ⟨gb194, 1, none⟩ = some (.string x195001_44) := (blk_cell BK194.out 1).trans rfl
                    have hfz156_0 := blk_frozen BK194.out 0
                    have hfz156_1 := blk_frozen BK194.out 1
                    have hcz157_0 : wr.cell? ⟨gb195, 0, none⟩ = some (.int .i64 t190) := (blk_cell BK195.out 0).trans rfl
                    have hcz157_1 : wr.cell? ⟨gb195, 1, none⟩ = some (.string t191) := (blk_cell BK195.out 1).trans rfl
                    have hfz157_0 := blk_frozen BK195.out 0
                    have hfz157_1 := blk_frozen BK195.out 1
                    go_wp2_with (first | ((with_reducible refine gate_callee (f := 22) rfl ?_); refine goesL_ (some 68) rfl rfl Try.func22 (by kernel_rfl) rfl #[.agg #[.int .i64 t184, .string t185], .agg #[.int .i64 x195000_44, .string x195001_44], .agg #[.int .i64 t190, .string t191]] rfl (by (try simp only [List.map_toArray, List.map_cons, List.map_nil]); first | done | rfl | (simp only [List.length_drop, List.length_take]; rfl)) ?_; (with_reducible refine (ballots_Prepares.calls k3 t184 t185 x195000_44 x195001_44 t190 t191 true _ A140.out).mono ?_); rintro e w158 ⟨rfl, hb⟩; refine ⟨_, rfl, ?_⟩; have n0_ := Aside0.mk (blk_below (g := gb193) (o := .cells #[.int .i64 t184, .string t185] 26 (0, 0)) (by (with_reducible repeat (first | refine blk_drewN ?_ _ | refine blk_drew ?_ | refine blk_alloc ?_ _)); exact BK193.out) hb); have n1_ := Aside0.mk (blk_below (g := gb194) (o := .cells #[.int .i64 x195000_44, .string x195001_44] 26 (0, 0)) (by (with_reducible repeat (first | refine blk_drewN ?_ _ | refine blk_drew ?_ | refine blk_alloc ?_ _)); exact BK194.out) hb); have n2_ := Aside0.mk (blk_below (g := gb195) (o := .cells #[.int .i64 t190, .string t191] 26 (0, 0)) (by (with_reducible repeat (first | refine blk_drewN ?_ _ | refine blk_drew ?_ | refine blk_alloc ?_ _)); exact BK195.out) hb); have n3_ := Aside0.mk (below_step (by repeat (first | (with_reducible first | exact HB.out | apply below_alloc | apply pw_below_drewN | apply below_drew1 | refine below_set ?_ GE193.out | refine below_set ?_ GE194.out | refine below_set ?_ GE195.out) | exact HB.out)) hb); clear BK193; clear BK194; clear BK195; clear HB; have BK193 := n0_; have BK194 := n1_; have BK195 := n2_; have HB := n3_; clear n0_ n1_ n2_ n3_; (try clear hb); (try clear hb2); (try clear hk); (try clear hi)))
                    go_ret
                    exact ⟨by first | rfl | (simp [errW_none, errW_some] <;> rfl) | (simp [*, errW_none, errW_some] <;> rfl), by repeat (first | (with_reducible first | exact HB.out | apply below_alloc | apply pw_below_drewN | apply below_drew1 | refine below_set ?_ GE193.out | refine below_set ?_ GE194.out | refine below_set ?_ GE195.out) | exact HB.out)⟩
                · replace c141 := Bool.eq_false_iff.mpr c141
                  subst c141
                  have H1 : ((trustquorumlaw23_sane.f k3).bind fun t200 => (some t200)) = some r := by rw [if_neg (show ¬ (false = true) by decide)] at H; exact H
                  clear H
                  have H := H1
                  clear H1
                  replace H := Option.bind_eq_some_iff.mp H
                  obtain ⟨t200, A1590, H⟩ := H
                  replace H : (some t200) = some r := H
                  have A159 := Aside0.mk A1590
                  clear A1590
                  obtain rfl := Option.some.inj H
                  have hnb160 := NB193_194.out
                  have hnc160 := NB194_193.out
                  have hnb161 := NB193_195.out
                  have hnc161 := NB195_193.out
                  have hcz162_0 : wr.cell? ⟨gb193, 0, none⟩ = some (.int .i64 t184) := (blk_cell BK193.out 0).trans rfl
                  have hcz162_1 : wr.cell? ⟨gb193, 1, none⟩ = some (.string t185) := (blk_cell BK193.out 1).trans rfl
                  have hfz162_0 := blk_frozen BK193.out 0
                  have hfz162_1 := blk_frozen BK193.out 1
                  have hnb163 := NB194_195.out
                  have hnc163 := NB195_194.out
                  have hcz164_0 : wr.cell? ⟨gb194, 0, none⟩ = some (.int .i64 x195000_44) := (blk_cell BK194.out 0).trans rfl
                  have hcz164_1 : wr.cell? ⟨gb194, 1, none⟩ = some (.string x195001_44) := (blk_cell BK194.out 1).trans rfl
                  have hfz164_0 := blk_frozen BK194.out 0
                  have hfz164_1 := blk_frozen BK194.out 1
                  have hcz165_0 : wr.cell? ⟨gb195, 0, none⟩ = some (.int .i64 t190) := (blk_cell BK195.out 0).trans rfl
                  have hcz165_1 : wr.cell? ⟨gb195, 1, none⟩ = some (.string t191) := (blk_cell BK195.out 1).trans rfl
                  have hfz165_0 := blk_frozen BK195.out 0
                  have hfz165_1 := blk_frozen BK195.out 1
                  go_wp2_with (first | ((with_reducible refine gate_callee (f := 22) rfl ?_); refine goesL_ (some 68) rfl rfl Try.func22 (by kernel_rfl) rfl #[.agg #[.int .i64 t184, .string t185], .agg #[.int .i64 x195000_44, .string x195001_44], .agg #[.int .i64 t190, .string t191]] rfl (by (try simp only [List.map_toArray, List.map_cons, List.map_nil]); first | done | rfl | (simp only [List.length_drop, List.length_take]; rfl)) ?_; (with_reducible refine (ballots_Prepares.calls k3 t184 t185 x195000_44 x195001_44 t190 t191 false _ A140.out).mono ?_); rintro e w166 ⟨rfl, hb⟩; refine ⟨_, rfl, ?_⟩; have n0_ := Aside0.mk (blk_below (g := gb193) (o := .cells #[.int .i64 t184, .string t185] 26 (0, 0)) (by (with_reducible repeat (first | refine blk_drewN ?_ _ | refine blk_drew ?_ | refine blk_alloc ?_ _)); exact BK193.out) hb); have n1_ := Aside0.mk (blk_below (g := gb194) (o := .cells #[.int .i64 x195000_44, .string x195001_44] 26 (0, 0)) (by (with_reducible repeat (first | refine blk_drewN ?_ _ | refine blk_drew ?_ | refine blk_alloc ?_ _)); exact BK194.out) hb); have n2_ := Aside0.mk (blk_below (g := gb195) (o := .cells #[.int .i64 t190, .string t191] 26 (0, 0)) (by (with_reducible repeat (first | refine blk_drewN ?_ _ | refine blk_drew ?_ | refine blk_alloc ?_ _)); exact BK195.out) hb); have n3_ := Aside0.mk (below_step (by repeat (first | (with_reducible first | exact HB.out | apply below_alloc | apply pw_below_drewN | apply below_drew1 | refine below_set ?_ GE193.out | refine below_set ?_ GE194.out | refine below_set ?_ GE195.out) | exact HB.out)) hb); clear BK193; clear BK194; clear BK195; clear HB; have BK193 := n0_; have BK194 := n1_; have BK195 := n2_; have HB := n3_; clear n0_ n1_ n2_ n3_; (try clear hb); (try clear hb2); (try clear hk); (try clear hi)) | (go_at_call 14; (with_reducible refine (trustquorumlaw23_sane.calls k3  t200 _ A159.out).mono ?_); rintro e w167 ⟨rfl, hb⟩; have n0_ := Aside0.mk (blk_below (g := gb193) (o := .cells #[.int .i64 t184, .string t185] 26 (0, 0)) (by (with_reducible repeat (first | refine blk_drewN ?_ _ | refine blk_drew ?_ | refine blk_alloc ?_ _)); exact BK193.out) hb); have n1_ := Aside0.mk (blk_below (g := gb194) (o := .cells #[.int .i64 x195000_44, .string x195001_44] 26 (0, 0)) (by (with_reducible repeat (first | refine blk_drewN ?_ _ | refine blk_drew ?_ | refine blk_alloc ?_ _)); exact BK194.out) hb); have n2_ := Aside0.mk (blk_below (g := gb195) (o := .cells #[.int .i64 t190, .string t191] 26 (0, 0)) (by (with_reducible repeat (first | refine blk_drewN ?_ _ | refine blk_drew ?_ | refine blk_alloc ?_ _)); exact BK195.out) hb); have n3_ := Aside0.mk (below_step (by repeat (first | (with_reducible first | exact HB.out | apply below_alloc | apply pw_below_drewN | apply below_drew1 | refine below_set ?_ GE193.out | refine below_set ?_ GE194.out | refine below_set ?_ GE195.out) | exact HB.out)) hb); clear BK193; clear BK194; clear BK195; clear HB; have BK193 := n0_; have BK194 := n1_; have BK195 := n2_; have HB := n3_; clear n0_ n1_ n2_ n3_; (try clear hb); (try clear hb2); (try clear hk); (try clear hi)))
                  go_ret
                  exact ⟨by first | rfl | (simp [errW_none, errW_some] <;> rfl) | (simp [*, errW_none, errW_some] <;> rfl), by repeat (first | (with_reducible first | exact HB.out | apply below_alloc | apply pw_below_drewN | apply below_drew1 | refine below_set ?_ GE193.out | refine below_set ?_ GE194.out | refine below_set ?_ GE195.out) | exact HB.out)⟩

/-- THE ONE PURE STATEMENT of trustquorumlaw23_BallotsPrepares: yours. -/
def trustquorumlaw23_BallotsPrepares.Pure : Prop := ∀ (l0 : List Int), l0.length ≤ maxLen → l0.length * 8 ≤ 140737488351232 → (∀ x ∈ l0, (Lit.int .i64 x).wf = true) → ∃ k, trustquorumlaw23_BallotsPrepares.f k l0 = some true
theorem trustquorumlaw23_BallotsPrepares.walk (P : trustquorumlaw23_BallotsPrepares.Pure) (a0 : Option Addr) (len0 cap0 : Nat) (z0 : List Int) (w : World) (w0 : (a0 = none ∧ len0 = 0 ∧ cap0 = 0 ∧ z0 = []) ∨ ∃ x, a0 = some x ∧ len0 ≤ cap0 ∧ cap0 ≤ maxLen ∧ z0.length = cap0 ∧ (∀ i, i < z0.length → w.cell? (x.add i) = some (.int .i64 (z0.getD i 0))) ∧ ∀ n ∈ z0, (Lit.int .i64 n).wf = true) (y0 : len0 * 8 ≤ 140737488351232) :
    Calls Try.prog 5 #[.slice a0 len0 cap0] w fun e w' => e = .returned (.bool true) ∧ Below w.heap.size w w' := by
  obtain ⟨l0, rfl, hr0, hm0, hw0, hc0⟩ := ReadsInt.ofRowC w0
  obtain ⟨k, h⟩ := P l0 hm0 y0 hw0
  refine (trustquorumlaw23_BallotsPrepares.calls k _ _ l0 true w (Kd.C_of_reads (d := (0 : Int)) (h1 := fun _ => rfl) hr0) hc0 h).mono ?_
  rintro e w' ⟨rfl, hd⟩
  exact ⟨rfl, hd⟩

end Go.Proofs.Ytogdpfmlldaeeaa.QBallotsPrepares
