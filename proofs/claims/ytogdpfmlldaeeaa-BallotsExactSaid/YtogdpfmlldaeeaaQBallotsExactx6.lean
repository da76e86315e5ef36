/- Lean functions that answer as the Go functions do which the law reaches, and proofs that the Go code comes to exactly these answers. Conditions: those that each theorem names. -/
import Derived.Test.YtogdpfmlldaeeaaQBallotsExactx0
import Derived.Test.YtogdpfmlldaeeaaQBallotsExactx1
import Derived.Test.YtogdpfmlldaeeaaQBallotsExactx2
import Derived.Test.YtogdpfmlldaeeaaQBallotsExactx3
import Derived.Test.YtogdpfmlldaeeaaQBallotsExactx4
import Derived.Test.YtogdpfmlldaeeaaQBallotsExactx5
namespace Go.Proofs.Ytogdpfmlldaeeaa.QBallotsExact
open Go.RowKit Go.Proofs.YtogdpfmlldaeeaaW.PrintWords Go.Proofs.YtogdpfmlldaeeaaW.PrintLast Go.Proofs.YtogdpfmlldaeeaaW.PrintMore
attribute [local go_sem] max2_int min2_int max_two min_two max_three min_three max_four min_four   -- for this text's walks alone
set_option linter.unusedVariables false
set_option linter.unusedSimpArgs false

attribute [local go_sem high] eqA26
/-! ### trustquorumlaw23_BallotsExact: function 8 -/
mutual
def trustquorumlaw23_BallotsExact.j0 : Nat → List Int → List (S26) → Int → Bool → Int → ByteArray → Int → ByteArray → Int → ByteArray → Option (Bool)
  | 0, _, _, _, _, _, _, _, _, _, _ => none
  | k + 1, x0, x1, x5, x33, x230000, x230001, x231000, x231001, x232000, x232001 => if x33 = true then ((trustquorumlaw23_sane.f k).bind fun t237 => (some t237)) else ((trustquorumplay_New.f x0).bind fun bt238 => ((ballots_Greatest.f k x1).bind fun bt241 => ((trustquorumref23_Greatest.f k x1).bind fun bt243 => (if (!(bt241.1 == bt243.1) || (!(bt241.2.toList == bt243.2.toList))) = true then (some false) else ((trustquorumplay_Src_Ballot.f bt238.1 bt238.2).bind fun bt245 => ((trustquorumplay_Src_Ballot.f bt238.1 bt245.2.2).bind fun bt248 => ((trustquorumplay_Src_Odd.f bt238.1 bt248.2.2).bind fun bt251 => ((some (([(⟨x230000, x230001⟩ : S26), (⟨x231000, x231001⟩ : S26), (⟨x232000, x232001⟩ : S26), (⟨bt245.1, bt245.2.1⟩ : S26), (⟨bt248.1, bt248.2.1⟩ : S26), (⟨bt251.1, (⟨#[97]⟩ : ByteArray)⟩ : S26), (⟨0, (⟨#[]⟩ : ByteArray)⟩ : S26)] : List (S26)) : List (S26))).bind fun y253 => (trustquorumlaw23_BallotsExact.l0 k x5 y253 (y253.length : Int) 0 bt238.1 bt251.2)))))))))
def trustquorumlaw23_BallotsExact.l0 : Nat → Int → List (S26) → Int → Int → List Int → Int → Option (Bool)
  | 0, _, _, _, _, _, _ => none
  | k + 1, x5, x14, x55, x56, x241000, x241001 => if x56 < x55 then (if 0 ≤ x56 then (if x56 < (x14.length : Int) then ((ballots_Zero.f ((rd_T26 x14 x56).f0) ((rd_T26 x14 x56).f1)).bind fun t263 => ((trustquorumref23_Zero.f ((rd_T26 x14 x56).f0) ((rd_T26 x14 x56).f1)).bind fun t264 => (if (t263 != t264) = true then (trustquorumlaw23_BallotsExact.j2 k x5 x14 x55 x56 true x241000 x241001 ((rd_T26 x14 x56).f0) ((rd_T26 x14 x56).f1)) else ((ballots_Valid.f ((rd_T26 x14 x56).f0) ((rd_T26 x14 x56).f1)).bind fun t265 => ((trustquorumref23_Valid.f ((rd_T26 x14 x56).f0) ((rd_T26 x14 x56).f1)).bind fun t266 => (trustquorumlaw23_BallotsExact.j2 k x5 x14 x55 x56 (t265 != t266) x241000 x241001 ((rd_T26 x14 x56).f0) ((rd_T26 x14 x56).f1))))))) else (none)) else (none)) else ((ballots_Greatest.f k x14).bind fun bt256 => ((trustquorumref23_Greatest.f k x14).bind fun bt258 => (if (bt256.1 == bt258.1 && (bt256.2.toList == bt258.2.toList)) = true then ((trustquorumlaw23_sane.f k).bind fun t260 => (some t260)) else (some false))))
def trustquorumlaw23_BallotsExact.j2 : Nat → Int → List (S26) → Int → Int → Bool → List Int → Int → Int → ByteArray → Option (Bool)
  | 0, _, _, _, _, _, _, _, _, _ => none
  | k + 1, x5, x14, x55, x56, x71, x241000, x241001, x263000, x263001 => if x71 = true then (some false) else (trustquorumlaw23_BallotsExact.l1 k x5 x14 x55 x56 (x14.length : Int) 0 x241000 x241001 x263000 x263001)
def trustquorumlaw23_BallotsExact.l1 : Nat → Int → List (S26) → Int → Int → Int → Int → List Int → Int → Int → ByteArray → Option (Bool)
  | 0, _, _, _, _, _, _, _, _, _, _ => none
  | k + 1, x5, x14, x55, x56, x73, x74, x241000, x241001, x263000, x263001 => if x74 < x73 then (if 0 ≤ x74 then (if x74 < (x14.length : Int) then ((ballots_Less.f k x263000 x263001 ((rd_T26 x14 x74).f0) ((rd_T26 x14 x74).f1)).bind fun t269 => ((trustquorumref23_Less.f x263000 x263001 ((rd_T26 x14 x74).f0) ((rd_T26 x14 x74).f1)).bind fun t270 => (if (t269 != t270) = true then (trustquorumlaw23_BallotsExact.j4 k x5 x14 x55 x56 x73 x74 true x241000 x241001 x263000 x263001 ((rd_T26 x14 x74).f0) ((rd_T26 x14 x74).f1)) else ((ballots_LessValue.f k x263001 ((rd_T26 x14 x74).f1)).bind fun t271 => ((trustquorumref23_LessValue.f x263001 ((rd_T26 x14 x74).f1)).bind fun t272 => (if (t271 != t272) = true then (trustquorumlaw23_BallotsExact.j4 k x5 x14 x55 x56 x73 x74 true x241000 x241001 x263000 x263001 ((rd_T26 x14 x74).f0) ((rd_T26 x14 x74).f1)) else ((ballots_Compatible.f x263000 x263001 ((rd_T26 x14 x74).f0) ((rd_T26 x14 x74).f1)).bind fun t273 => ((trustquorumref23_Compatible.f x263000 x263001 ((rd_T26 x14 x74).f0) ((rd_T26 x14 x74).f1)).bind fun t274 => (if (t273 != t274) = true then (trustquorumlaw23_BallotsExact.j4 k x5 x14 x55 x56 x73 x74 true x241000 x241001 x263000 x263001 ((rd_T26 x14 x74).f0) ((rd_T26 x14 x74).f1)) else ((ballots_Covers.f x263000 x263001 ((rd_T26 x14 x74).f0) ((rd_T26 x14 x74).f1)).bind fun t275 => ((trustquorumref23_Covers.f x263000 x263001 ((rd_T26 x14 x74).f0) ((rd_T26 x14 x74).f1)).bind fun t276 => (if (t275 != t276) = true then (trustquorumlaw23_BallotsExact.j4 k x5 x14 x55 x56 x73 x74 true x241000 x241001 x263000 x263001 ((rd_T26 x14 x74).f0) ((rd_T26 x14 x74).f1)) else ((ballots_Aborts.f k x263000 x263001 ((rd_T26 x14 x74).f0) ((rd_T26 x14 x74).f1)).bind fun t277 => ((trustquorumref23_Aborts.f x263000 x263001 ((rd_T26 x14 x74).f0) ((rd_T26 x14 x74).f1)).bind fun t278 => (trustquorumlaw23_BallotsExact.j4 k x5 x14 x55 x56 x73 x74 (t277 != t278) x241000 x241001 x263000 x263001 ((rd_T26 x14 x74).f0) ((rd_T26 x14 x74).f1)))))))))))))))) else (none)) else (none)) else (trustquorumlaw23_BallotsExact.l0 k x5 x14 x55 (wrap64 (x56 + 1)) x241000 x241001)
def trustquorumlaw23_BallotsExact.j4 : Nat → Int → List (S26) → Int → Int → Int → Int → Bool → List Int → Int → Int → ByteArray → Int → ByteArray → Option (Bool)
  | 0, _, _, _, _, _, _, _, _, _, _, _, _, _ => none
  | k + 1, x5, x14, x55, x56, x73, x74, x124, x241000, x241001, x263000, x263001, x269000, x269001 => if x124 = true then (some false) else (trustquorumlaw23_BallotsExact.l2 k x5 x14 x55 x56 x73 x74 (x14.length : Int) 0 x241000 x241001 x263000 x263001 x269000 x269001)
def trustquorumlaw23_BallotsExact.l2 : Nat → Int → List (S26) → Int → Int → Int → Int → Int → Int → List Int → Int → Int → ByteArray → Int → ByteArray → Option (Bool)
  | 0, _, _, _, _, _, _, _, _, _, _, _, _, _, _ => none
  | k + 1, x5, x14, x55, x56, x73, x74, x126, x127, x241000, x241001, x263000, x263001, x269000, x269001 => if x127 < x126 then (if 0 ≤ x127 then (if x127 < (x14.length : Int) then ((ballots_Prepares.f k x263000 x263001 x269000 x269001 ((rd_T26 x14 x127).f0) ((rd_T26 x14 x127).f1)).bind fun t281 => ((trustquorumref23_Prepares.f x263000 x263001 x269000 x269001 ((rd_T26 x14 x127).f0) ((rd_T26 x14 x127).f1)).bind fun t282 => (if (t281 != t282) = true then (some false) else (trustquorumlaw23_BallotsExact.l2 k x5 x14 x55 x56 x73 x74 x126 (wrap64 (x127 + 1)) x241000 x241001 x263000 x263001 x269000 x269001)))) else (none)) else (none)) else ((trustquorumplay_Src_Odd.f x241000 x241001).bind fun bt283 => ((trustquorumplay_Src_Range.f x241000 bt283.2 1 6).bind fun bt285 => (trustquorumlaw23_BallotsExact.l3 k x5 x14 x55 x56 x73 x74 [x5, bt283.1, bt285.1] 0 x241000 bt285.2 x263000 x263001 x269000 x269001)))
def trustquorumlaw23_BallotsExact.l3 : Nat → Int → List (S26) → Int → Int → Int → Int → List Int → Int → List Int → Int → Int → ByteArray → Int → ByteArray → Option (Bool)
  | 0, _, _, _, _, _, _, _, _, _, _, _, _, _, _ => none
  | k + 1, x5, x14, x55, x56, x73, x74, x146, x147, x241000, x241001, x263000, x263001, x269000, x269001 => if x147 < 3 then (if 0 ≤ x147 then ((trustquorumplay_Src_Value.f x241000 x241001).bind fun bt287 => ((ballots_Lowest.f k bt287.1 (rd x146 x147) x263000 x263001 x269000 x269001).bind fun t289 => (if t289 < 1 then (some false) else ((ballots_Lowest.f k (⟨#[97]⟩ : ByteArray) (rd x146 x147) x263000 x263001 x269000 x269001).bind fun t290 => ((trustquorumref23_Lowest.f k (⟨#[97]⟩ : ByteArray) (rd x146 x147) x263000 x263001 x269000 x269001).bind fun t291 => (if t290 = t291 then (trustquorumlaw23_BallotsExact.l3 k x5 x14 x55 x56 x73 x74 x146 (wrap64 (x147 + 1)) x241000 bt287.2 x263000 x263001 x269000 x269001) else (some false))))))) else (none)) else (trustquorumlaw23_BallotsExact.l1 k x5 x14 x55 x56 x73 (wrap64 (x74 + 1)) x241000 x241001 x263000 x263001)
end
def trustquorumlaw23_BallotsExact.f (k : Nat) (l0 : List Int) (l1 : List (S26)) (a2_0 : Int) (a2_1 : ByteArray) (a3_0 : Int) (a3_1 : ByteArray) (a4_0 : Int) (a4_1 : ByteArray) (a5 : Int) : Option (Bool) := (trustquorumlaw23_short.f k l1).bind fun t232 => (if t232 = true then ((trustquorumlaw23_short.f k (([(⟨a2_0, a2_1⟩ : S26), (⟨a3_0, a3_1⟩ : S26), (⟨a4_0, a4_1⟩ : S26)] : List (S26)))).bind fun t236 => (trustquorumlaw23_BallotsExact.j0 k l0 l1 a5 (!t236) a2_0 a2_1 a3_0 a3_1 a4_0 a4_1)) else (trustquorumlaw23_BallotsExact.j0 k l0 l1 a5 true a2_0 a2_1 a3_0 a3_1 a4_0 a4_1))
theorem trustquorumlaw23_BallotsExact.mono_l : ∀ k, (∀ y0 y1 y2 y3 y4 y5 y6 y7 y8 y9, LeO (trustquorumlaw23_BallotsExact.j0 k y0 y1 y2 y3 y4 y5 y6 y7 y8 y9) (trustquorumlaw23_BallotsExact.j0 (k + 1) y0 y1 y2 y3 y4 y5 y6 y7 y8 y9)) ∧ (∀ y0 y1 y2 y3 y4 y5, LeO (trustquorumlaw23_BallotsExact.l0 k y0 y1 y2 y3 y4 y5) (trustquorumlaw23_BallotsExact.l0 (k + 1) y0 y1 y2 y3 y4 y5)) ∧ (∀ y0 y1 y2 y3 y4 y5 y6 y7 y8, LeO (trustquorumlaw23_BallotsExact.j2 k y0 y1 y2 y3 y4 y5 y6 y7 y8) (trustquorumlaw23_BallotsExact.j2 (k + 1) y0 y1 y2 y3 y4 y5 y6 y7 y8)) ∧ (∀ y0 y1 y2 y3 y4 y5 y6 y7 y8 y9, LeO (trustquorumlaw23_BallotsExact.l1 k y0 y1 y2 y3 y4 y5 y6 y7 y8 y9) (trustquorumlaw23_BallotsExact.l1 (k + 1) y0 y1 y2 y3 y4 y5 y6 y7 y8 y9)) ∧ (∀ y0 y1 y2 y3 y4 y5 y6 y7 y8 y9 y10 y11 y12, LeO (trustquorumlaw23_BallotsExact.j4 k y0 y1 y2 y3 y4 y5 y6 y7 y8 y9 y10 y11 y12) (trustquorumlaw23_BallotsExact.j4 (k + 1) y0 y1 y2 y3 y4 y5 y6 y7 y8 y9 y10 y11 y12)) ∧ (∀ y0 y1 y2 y3 y4 y5 y6 y7 y8 y9 y10 y11 y12 y13, LeO (trustquorumlaw23_BallotsExact.l2 k y0 y1 y2 y3 y4 y5 y6 y7 y8 y9 y10 y11 y12 y13) (trustquorumlaw23_BallotsExact.l2 (k + 1) y0 y1 y2 y3 y4 y5 y6 y7 y8 y9 y10 y11 y12 y13)) ∧ (∀ y0 y1 y2 y3 y4 y5 y6 y7 y8 y9 y10 y11 y12 y13, LeO (trustquorumlaw23_BallotsExact.l3 k y0 y1 y2 y3 y4 y5 y6 y7 y8 y9 y10 y11 y12 y13) (trustquorumlaw23_BallotsExact.l3 (k + 1) y0 y1 y2 y3 y4 y5 y6 y7 y8 y9 y10 y11 y12 y13))
  | 0 => ⟨fun _ _ _ _ _ _ _ _ _ _ r h => by simp [trustquorumlaw23_BallotsExact.j0] at h, fun _ _ _ _ _ _ r h => by simp [trustquorumlaw23_BallotsExact.l0] at h, fun _ _ _ _ _ _ _ _ _ r h => by simp [trustquorumlaw23_BallotsExact.j2] at h, fun _ _ _ _ _ _ _ _ _ _ r h => by simp [trustquorumlaw23_BallotsExact.l1] at h, fun _ _ _ _ _ _ _ _ _ _ _ _ _ r h => by simp [trustquorumlaw23_BallotsExact.j4] at h, fun _ _ _ _ _ _ _ _ _ _ _ _ _ _ r h => by simp [trustquorumlaw23_BallotsExact.l2] at h, fun _ _ _ _ _ _ _ _ _ _ _ _ _ _ r h => by simp [trustquorumlaw23_BallotsExact.l3] at h⟩
  | k + 1 => by
    obtain ⟨ih0, ih1, ih2, ih3, ih4, ih5, ih6⟩ := trustquorumlaw23_BallotsExact.mono_l k
    refine ⟨?_, ?_, ?_, ?_, ?_, ?_, ?_⟩
    · intro y0 y1 y2 y3 y4 y5 y6 y7 y8 y9
      unfold trustquorumlaw23_BallotsExact.j0
      repeat' first
      | (with_reducible exact ih0 _ _ _ _ _ _ _ _ _ _)
      | (with_reducible exact ih1 _ _ _ _ _ _)
      | (with_reducible exact ih2 _ _ _ _ _ _ _ _ _)
      | (with_reducible exact ih3 _ _ _ _ _ _ _ _ _ _)
      | (with_reducible exact ih4 _ _ _ _ _ _ _ _ _ _ _ _ _)
      | (with_reducible exact ih5 _ _ _ _ _ _ _ _ _ _ _ _ _ _)
      | (with_reducible exact ih6 _ _ _ _ _ _ _ _ _ _ _ _ _ _)
      | (with_reducible exact ballots_Aborts.mono _ _ _ _ _)
      | (with_reducible exact ballots_Greatest.mono _ _)
      | (with_reducible exact ballots_Less.mono _ _ _ _ _)
      | (with_reducible exact ballots_LessValue.mono _ _ _)
      | (with_reducible exact ballots_Lowest.mono _ _ _ _ _ _ _)
      | (with_reducible exact ballots_Prepares.mono _ _ _ _ _ _ _)
      | (with_reducible exact trustquorumlaw23_sane.mono _)
      | (with_reducible exact trustquorumlaw23_short.mono _ _)
      | (with_reducible exact trustquorumref23_Greatest.mono _ _)
      | (with_reducible exact trustquorumref23_Lowest.mono _ _ _ _ _ _ _)
      | (with_reducible exact LeO.refl _)
      | (with_reducible exact LeO.none _)
      | (with_reducible refine LeO.ite ?_ ?_)
      | (with_reducible refine LeO.bind ?_ (fun _ => ?_))
      | exact ih0 _ _ _ _ _ _ _ _ _ _
      | exact ih1 _ _ _ _ _ _
      | exact ih2 _ _ _ _ _ _ _ _ _
      | exact ih3 _ _ _ _ _ _ _ _ _ _
      | exact ih4 _ _ _ _ _ _ _ _ _ _ _ _ _
      | exact ih5 _ _ _ _ _ _ _ _ _ _ _ _ _ _
      | exact ih6 _ _ _ _ _ _ _ _ _ _ _ _ _ _
      | exact ballots_Aborts.mono _ _ _ _ _
      | exact ballots_Greatest.mono _ _
      | exact ballots_Less.mono _ _ _ _ _
      | exact ballots_LessValue.mono _ _ _
      | exact ballots_Lowest.mono _ _ _ _ _ _ _
      | exact ballots_Prepares.mono _ _ _ _ _ _ _
      | exact trustquorumlaw23_sane.mono _
      | exact trustquorumlaw23_short.mono _ _
      | exact trustquorumref23_Greatest.mono _ _
      | exact trustquorumref23_Lowest.mono _ _ _ _ _ _ _
      | exact LeO.none _
      | refine LeO.ite ?_ ?_
      | refine LeO.bind ?_ (fun _ => ?_)
    · intro y0 y1 y2 y3 y4 y5
      unfold trustquorumlaw23_BallotsExact.l0
      repeat' first
      | (with_reducible exact ih0 _ _ _ _ _ _ _ _ _ _)
      | (with_reducible exact ih1 _ _ _ _ _ _)
      | (with_reducible exact ih2 _ _ _ _ _ _ _ _ _)
      | (with_reducible exact ih3 _ _ _ _ _ _ _ _ _ _)
      | (with_reducible exact ih4 _ _ _ _ _ _ _ _ _ _ _ _ _)
      | (with_reducible exact ih5 _ _ _ _ _ _ _ _ _ _ _ _ _ _)
      | (with_reducible exact ih6 _ _ _ _ _ _ _ _ _ _ _ _ _ _)
      | (with_reducible exact ballots_Aborts.mono _ _ _ _ _)
      | (with_reducible exact ballots_Greatest.mono _ _)
      | (with_reducible exact ballots_Less.mono _ _ _ _ _)
      | (with_reducible exact ballots_LessValue.mono _ _ _)
      | (with_reducible exact ballots_Lowest.mono _ _ _ _ _ _ _)
      | (with_reducible exact ballots_Prepares.mono _ _ _ _ _ _ _)
      | (with_reducible exact trustquorumlaw23_sane.mono _)
      | (with_reducible exact trustquorumlaw23_short.mono _ _)
      | (with_reducible exact trustquorumref23_Greatest.mono _ _)
      | (with_reducible exact trustquorumref23_Lowest.mono _ _ _ _ _ _ _)
      | (with_reducible exact LeO.refl _)
      | (with_reducible exact LeO.none _)
      | (with_reducible refine LeO.ite ?_ ?_)
      | (with_reducible refine LeO.bind ?_ (fun _ => ?_))
      | exact ih0 _ _ _ _ _ _ _ _ _ _
      | exact ih1 _ _ _ _ _ _
      | exact ih2 _ _ _ _ _ _ _ _ _
      | exact ih3 _ _ _ _ _ _ _ _ _ _
      | exact ih4 _ _ _ _ _ _ _ _ _ _ _ _ _
      | exact ih5 _ _ _ _ _ _ _ _ _ _ _ _ _ _
      | exact ih6 _ _ _ _ _ _ _ _ _ _ _ _ _ _
      | exact ballots_Aborts.mono _ _ _ _ _
      | exact ballots_Greatest.mono _ _
      | exact ballots_Less.mono _ _ _ _ _
      | exact ballots_LessValue.mono _ _ _
      | exact ballots_Lowest.mono _ _ _ _ _ _ _
      | exact ballots_Prepares.mono _ _ _ _ _ _ _
      | exact trustquorumlaw23_sane.mono _
      | exact trustquorumlaw23_short.mono _ _
      | exact trustquorumref23_Greatest.mono _ _
      | exact trustquorumref23_Lowest.mono _ _ _ _ _ _ _
      | exact LeO.none _
      | refine LeO.ite ?_ ?_
      | refine LeO.bind ?_ (fun _ => ?_)
    · intro y0 y1 y2 y3 y4 y5 y6 y7 y8
      unfold trustquorumlaw23_BallotsExact.j2
      repeat' first
      | (with_reducible exact ih0 _ _ _ _ _ _ _ _ _ _)
      | (with_reducible exact ih1 _ _ _ _ _ _)
      | (with_reducible exact ih2 _ _ _ _ _ _ _ _ _)
      | (with_reducible exact ih3 _ _ _ _ _ _ _ _ _ _)
      | (with_reducible exact ih4 _ _ _ _ _ _ _ _ _ _ _ _ _)
      | (with_reducible exact ih5 _ _ _ _ _ _ _ _ _ _ _ _ _ _)
      | (with_reducible exact ih6 _ _ _ _ _ _ _ _ _ _ _ _ _ _)
      | (with_reducible exact ballots_Aborts.mono _ _ _ _ _)
      | (with_reducible exact ballots_Greatest.mono _ _)
      | (with_reducible exact ballots_Less.mono _ _ _ _ _)
      | (with_reducible exact ballots_LessValue.mono _ _ _)
      | (with_reducible exact ballots_Lowest.mono _ _ _ _ _ _ _)
      | (with_reducible exact ballots_Prepares.mono _ _ _ _ _ _ _)
      | (with_reducible exact trustquorumlaw23_sane.mono _)
      | (with_reducible exact trustquorumlaw23_short.mono _ _)
      | (with_reducible exact trustquorumref23_Greatest.mono _ _)
      | (with_reducible exact trustquorumref23_Lowest.mono _ _ _ _ _ _ _)
      | (with_reducible exact LeO.refl _)
      | (with_reducible exact LeO.none _)
      | (with_reducible refine LeO.ite ?_ ?_)
      | (with_reducible refine LeO.bind ?_ (fun _ => ?_))
      | exact ih0 _ _ _ _ _ _ _ _ _ _
      | exact ih1 _ _ _ _ _ _
      | exact ih2 _ _ _ _ _ _ _ _ _
      | exact ih3 _ _ _ _ _ _ _ _ _ _
      | exact ih4 _ _ _ _ _ _ _ _ _ _ _ _ _
      | exact ih5 _ _ _ _ _ _ _ _ _ _ _ _ _ _
      | exact ih6 _ _ _ _ _ _ _ _ _ _ _ _ _ _
      | exact ballots_Aborts.mono _ _ _ _ _
      | exact ballots_Greatest.mono _ _
      | exact ballots_Less.mono _ _ _ _ _
      | exact ballots_LessValue.mono _ _ _
      | exact ballots_Lowest.mono _ _ _ _ _ _ _
      | exact ballots_Prepares.mono _ _ _ _ _ _ _
      | exact trustquorumlaw23_sane.mono _
      | exact trustquorumlaw23_short.mono _ _
      | exact trustquorumref23_Greatest.mono _ _
      | exact trustquorumref23_Lowest.mono _ _ _ _ _ _ _
      | exact LeO.none _
      | refine LeO.ite ?_ ?_
      | refine LeO.bind ?_ (fun _ => ?_)
    · intro y0 y1 y2 y3 y4 y5 y6 y7 y8 y9
      unfold trustquorumlaw23_BallotsExact.l1
      repeat' first
      | (with_reducible exact ih0 _ _ _ _ _ _ _ _ _ _)
      | (with_reducible exact ih1 _ _ _ _ _ _)
      | (with_reducible exact ih2 _ _ _ _ _ _ _ _ _)
      | (with_reducible exact ih3 _ _ _ _ _ _ _ _ _ _)
      | (with_reducible exact ih4 _ _ _ _ _ _ _ _ _ _ _ _ _)
      | (with_reducible exact ih5 _ _ _ _ _ _ _ _ _ _ _ _ _ _)
      | (with_reducible exact ih6 _ _ _ _ _ _ _ _ _ _ _ _ _ _)
      | (with_reducible exact ballots_Aborts.mono _ _ _ _ _)
      | (with_reducible exact ballots_Greatest.mono _ _)
      | (with_reducible exact ballots_Less.mono _ _ _ _ _)
      | (with_reducible exact ballots_LessValue.mono _ _ _)
      | (with_reducible exact ballots_Lowest.mono _ _ _ _ _ _ _)
      | (with_reducible exact ballots_Prepares.mono _ _ _ _ _ _ _)
      | (with_reducible exact trustquorumlaw23_sane.mono _)
      | (with_reducible exact trustquorumlaw23_short.mono _ _)
      | (with_reducible exact trustquorumref23_Greatest.mono _ _)
      | (with_reducible exact trustquorumref23_Lowest.mono _ _ _ _ _ _ _)
      | (with_reducible exact LeO.refl _)
      | (with_reducible exact LeO.none _)
      | (with_reducible refine LeO.ite ?_ ?_)
      | (with_reducible refine LeO.bind ?_ (fun _ => ?_))
      | exact ih0 _ _ _ _ _ _ _ _ _ _
      | exact ih1 _ _ _ _ _ _
      | exact ih2 _ _ _ _ _ _ _ _ _
      | exact ih3 _ _ _ _ _ _ _ _ _ _
      | exact ih4 _ _ _ _ _ _ _ _ _ _ _ _ _
      | exact ih5 _ _ _ _ _ _ _ _ _ _ _ _ _ _
      | exact ih6 _ _ _ _ _ _ _ _ _ _ _ _ _ _
      | exact ballots_Aborts.mono _ _ _ _ _
      | exact ballots_Greatest.mono _ _
      | exact ballots_Less.mono _ _ _ _ _
      | exact ballots_LessValue.mono _ _ _
      | exact ballots_Lowest.mono _ _ _ _ _ _ _
      | exact ballots_Prepares.mono _ _ _ _ _ _ _
      | exact trustquorumlaw23_sane.mono _
      | exact trustquorumlaw23_short.mono _ _
      | exact trustquorumref23_Greatest.mono _ _
      | exact trustquorumref23_Lowest.mono _ _ _ _ _ _ _
      | exact LeO.none _
      | refine LeO.ite ?_ ?_
      | refine LeO.bind ?_ (fun _ => ?_)
    · intro y0 y1 y2 y3 y4 y5 y6 y7 y8 y9 y10 y11 y12
      unfold trustquorumlaw23_BallotsExact.j4
      repeat' first
      | (with_reducible exact ih0 _ _ _ _ _ _ _ _ _ _)
      | (with_reducible exact ih1 _ _ _ _ _ _)
      | (with_reducible exact ih2 _ _ _ _ _ _ _ _ _)
      | (with_reducible exact ih3 _ _ _ _ _ _ _ _ _ _)
      | (with_reducible exact ih4 _ _ _ _ _ _ _ _ _ _ _ _ _)
      | (with_reducible exact ih5 _ _ _ _ _ _ _ _ _ _ _ _ _ _)
      | (with_reducible exact ih6 _ _ _ _ _ _ _ _ _ _ _ _ _ _)
      | (with_reducible exact ballots_Aborts.mono _ _ _ _ _)
      | (with_reducible exact ballots_Greatest.mono _ _)
      | (with_reducible exact ballots_Less.mono _ _ _ _ _)
      | (with_reducible exact ballots_LessValue.mono _ _ _)
      | (with_reducible exact ballots_Lowest.mono _ _ _ _ _ _ _)
      | (with_reducible exact ballots_Prepares.mono _ _ _ _ _ _ _)
      | (with_reducible exact trustquorumlaw23_sane.mono _)
      | (with_reducible exact trustquorumlaw23_short.mono _ _)
      | (with_reducible exact trustquorumref23_Greatest.mono _ _)
      | (with_reducible exact trustquorumref23_Lowest.mono _ _ _ _ _ _ _)
      | (with_reducible exact LeO.refl _)
      | (with_reducible exact LeO.none _)
      | (with_reducible refine LeO.ite ?_ ?_)
      | (with_reducible refine LeO.bind ?_ (fun _ => ?_))
      | exact ih0 _ _ _ _ _ _ _ _ _ _
      | exact ih1 _ _ _ _ _ _
      | exact ih2 _ _ _ _ _ _ _ _ _
      | exact ih3 _ _ _ _ _ _ _ _ _ _
      | exact ih4 _ _ _ _ _ _ _ _ _ _ _ _ _
      | exact ih5 _ _ _ _ _ _ _ _ _ _ _ _ _ _
      | exact ih6 _ _ _ _ _ _ _ _ _ _ _ _ _ _
      | exact ballots_Aborts.mono _ _ _ _ _
      | exact ballots_Greatest.mono _ _
      | exact ballots_Less.mono _ _ _ _ _
      | exact ballots_LessValue.mono _ _ _
      | exact ballots_Lowest.mono _ _ _ _ _ _ _
      | exact ballots_Prepares.mono _ _ _ _ _ _ _
      | exact trustquorumlaw23_sane.mono _
      | exact trustquorumlaw23_short.mono _ _
      | exact trustquorumref23_Greatest.mono _ _
      | exact trustquorumref23_Lowest.mono _ _ _ _ _ _ _
      | exact LeO.none _
      | refine LeO.ite ?_ ?_
      | refine LeO.bind ?_ (fun _ => ?_)
    · intro y0 y1 y2 y3 y4 y5 y6 y7 y8 y9 y10 y11 y12 y13
      unfold trustquorumlaw23_BallotsExact.l2
      repeat' first
      | (with_reducible exact ih0 _ _ _ _ _ _ _ _ _ _)
      | (with_reducible exact ih1 _ _ _ _ _ _)
      | (with_reducible exact ih2 _ _ _ _ _ _ _ _ _)
      | (with_reducible exact ih3 _ _ _ _ _ _ _ _ _ _)
      | (with_reducible exact ih4 _ _ _ _ _ _ _ _ _ _ _ _ _)
      | (with_reducible exact ih5 _ _ _ _ _ _ _ _ _ _ _ _ _ _)
      | (with_reducible exact ih6 _ _ _ _ _ _ _ _ _ _ _ _ _ _)
      | (with_reducible exact ballots_Aborts.mono _ _ _ _ _)
      | (with_reducible exact ballots_Greatest.mono _ _)
      | (with_reducible exact ballots_Less.mono _ _ _ _ _)
      | (with_reducible exact ballots_LessValue.mono _ _ _)
      | (with_reducible exact ballots_Lowest.mono _ _ _ _ _ _ _)
      | (with_reducible exact ballots_Prepares.mono _ _ _ _ _ _ _)
      | (with_reducible exact trustquorumlaw23_sane.mono _)
      | (with_reducible exact trustquorumlaw23_short.mono _ _)
      | (with_reducible exact trustquorumref23_Greatest.mono _ _)
      | (with_reducible exact trustquorumref23_Lowest.mono _ _ _ _ _ _ _)
      | (with_reducible exact LeO.refl _)
      | (with_reducible exact LeO.none _)
      | (with_reducible refine LeO.ite ?_ ?_)
      | (with_reducible refine LeO.bind ?_ (fun _ => ?_))
      | exact ih0 _ _ _ _ _ _ _ _ _ _
      | exact ih1 _ _ _ _ _ _
      | exact ih2 _ _ _ _ _ _ _ _ _
      | exact ih3 _ _ _ _ _ _ _ _ _ _
      | exact ih4 _ _ _ _ _ _ _ _ _ _ _ _ _
      | exact ih5 _ _ _ _ _ _ _ _ _ _ _ _ _ _
      | exact ih6 _ _ _ _ _ _ _ _ _ _ _ _ _ _
      | exact ballots_Aborts.mono _ _ _ _ _
      | exact ballots_Greatest.mono _ _
      | exact ballots_Less.mono _ _ _ _ _
      | exact ballots_LessValue.mono _ _ _
      | exact ballots_Lowest.mono _ _ _ _ _ _ _
      | exact ballots_Prepares.mono _ _ _ _ _ _ _
      | exact trustquorumlaw23_sane.mono _
      | exact trustquorumlaw23_short.mono _ _
      | exact trustquorumref23_Greatest.mono _ _
      | exact trustquorumref23_Lowest.mono _ _ _ _ _ _ _
      | exact LeO.none _
      | refine LeO.ite ?_ ?_
      | refine LeO.bind ?_ (fun _ => ?_)
    · intro y0 y1 y2 y3 y4 y5 y6 y7 y8 y9 y10 y11 y12 y13
      unfold trustquorumlaw23_BallotsExact.l3
      repeat' first
      | (with_reducible exact ih0 _ _ _ _ _ _ _ _ _ _)
      | (with_reducible exact ih1 _ _ _ _ _ _)
      | (with_reducible exact ih2 _ _ _ _ _ _ _ _ _)
      | (with_reducible exact ih3 _ _ _ _ _ _ _ _ _ _)
      | (with_reducible exact ih4 _ _ _ _ _ _ _ _ _ _ _ _ _)
      | (with_reducible exact ih5 _ _ _ _ _ _ _ _ _ _ _ _ _ _)
      | (with_reducible exact ih6 _ _ _ _ _ _ _ _ _ _ _ _ _ _)
      | (with_reducible exact ballots_Aborts.mono _ _ _ _ _)
      | (with_reducible exact ballots_Greatest.mono _ _)
      | (with_reducible exact ballots_Less.mono _ _ _ _ _)
      | (with_reducible exact ballots_LessValue.mono _ _ _)
      | (with_reducible exact ballots_Lowest.mono _ _ _ _ _ _ _)
      | (with_reducible exact ballots_Prepares.mono _ _ _ _ _ _ _)
      | (with_reducible exact trustquorumlaw23_sane.mono _)
      | (with_reducible exact trustquorumlaw23_short.mono _ _)
      | (with_reducible exact trustquorumref23_Greatest.mono _ _)
      | (with_reducible exact trustquorumref23_Lowest.mono _ _ _ _ _ _ _)
      | (with_reducible exact LeO.refl _)
      | (with_reducible exact LeO.none _)
      | (with_reducible refine LeO.ite ?_ ?_)
      | (with_reducible refine LeO.bind ?_ (fun _ => ?_))
      | exact ih0 _ _ _ _ _ _ _ _ _ _
      | exact ih1 _ _ _ _ _ _
      | exact ih2 _ _ _ _ _ _ _ _ _
      | exact ih3 _ _ _ _ _ _ _ _ _ _
      | exact ih4 _ _ _ _ _ _ _ _ _ _ _ _ _
      | exact ih5 _ _ _ _ _ _ _ _ _ _ _ _ _ _
      | exact ih6 _ _ _ _ _ _ _ _ _ _ _ _ _ _
      | exact ballots_Aborts.mono _ _ _ _ _
      | exact ballots_Greatest.mono _ _
      | exact ballots_Less.mono _ _ _ _ _
      | exact ballots_LessValue.mono _ _ _
      | exact ballots_Lowest.mono _ _ _ _ _ _ _
      | exact ballots_Prepares.mono _ _ _ _ _ _ _
      | exact trustquorumlaw23_sane.mono _
      | exact trustquorumlaw23_short.mono _ _
      | exact trustquorumref23_Greatest.mono _ _
      | exact trustquorumref23_Lowest.mono _ _ _ _ _ _ _
      | exact LeO.none _
      | refine LeO.ite ?_ ?_
      | refine LeO.bind ?_ (fun _ => ?_)
theorem trustquorumlaw23_BallotsExact.mono : ∀ a0 a1 a2 a3 a4 a5 a6 a7 a8 k, LeO (trustquorumlaw23_BallotsExact.f k a0 a1 a2 a3 a4 a5 a6 a7 a8) (trustquorumlaw23_BallotsExact.f (k + 1) a0 a1 a2 a3 a4 a5 a6 a7 a8) := by
  intro a0 a1 a2 a3 a4 a5 a6 a7 a8 k
  obtain ⟨ih0, ih1, ih2, ih3, ih4, ih5, ih6⟩ := trustquorumlaw23_BallotsExact.mono_l k
  unfold trustquorumlaw23_BallotsExact.f
  repeat' first
      | (with_reducible exact ih0 _ _ _ _ _ _ _ _ _ _)
      | (with_reducible exact ih1 _ _ _ _ _ _)
      | (with_reducible exact ih2 _ _ _ _ _ _ _ _ _)
      | (with_reducible exact ih3 _ _ _ _ _ _ _ _ _ _)
      | (with_reducible exact ih4 _ _ _ _ _ _ _ _ _ _ _ _ _)
      | (with_reducible exact ih5 _ _ _ _ _ _ _ _ _ _ _ _ _ _)
      | (with_reducible exact ih6 _ _ _ _ _ _ _ _ _ _ _ _ _ _)
      | (with_reducible exact ballots_Aborts.mono _ _ _ _ _)
      | (with_reducible exact ballots_Greatest.mono _ _)
      | (with_reducible exact ballots_Less.mono _ _ _ _ _)
      | (with_reducible exact ballots_LessValue.mono _ _ _)
      | (with_reducible exact ballots_Lowest.mono _ _ _ _ _ _ _)
      | (with_reducible exact ballots_Prepares.mono _ _ _ _ _ _ _)
      | (with_reducible exact trustquorumlaw23_sane.mono _)
      | (with_reducible exact trustquorumlaw23_short.mono _ _)
      | (with_reducible exact trustquorumref23_Greatest.mono _ _)
      | (with_reducible exact trustquorumref23_Lowest.mono _ _ _ _ _ _ _)
      | (with_reducible exact LeO.refl _)
      | (with_reducible exact LeO.none _)
      | (with_reducible refine LeO.ite ?_ ?_)
      | (with_reducible refine LeO.bind ?_ (fun _ => ?_))
      | exact ih0 _ _ _ _ _ _ _ _ _ _
      | exact ih1 _ _ _ _ _ _
      | exact ih2 _ _ _ _ _ _ _ _ _
      | exact ih3 _ _ _ _ _ _ _ _ _ _
      | exact ih4 _ _ _ _ _ _ _ _ _ _ _ _ _
      | exact ih5 _ _ _ _ _ _ _ _ _ _ _ _ _ _
      | exact ih6 _ _ _ _ _ _ _ _ _ _ _ _ _ _
      | exact ballots_Aborts.mono _ _ _ _ _
      | exact ballots_Greatest.mono _ _
      | exact ballots_Less.mono _ _ _ _ _
      | exact ballots_LessValue.mono _ _ _
      | exact ballots_Lowest.mono _ _ _ _ _ _ _
      | exact ballots_Prepares.mono _ _ _ _ _ _ _
      | exact trustquorumlaw23_sane.mono _
      | exact trustquorumlaw23_short.mono _ _
      | exact trustquorumref23_Greatest.mono _ _
      | exact trustquorumref23_Lowest.mono _ _ _ _ _ _ _
      | exact LeO.none _
      | refine LeO.ite ?_ ?_
      | refine LeO.bind ?_ (fun _ => ?_)
def trustquorumlaw23_BallotsExact.T6 : Bool × List (List Nat × List Nat) := (true, [([], []), ([], []), ([], []), ([], []), ([3], [3]), ([], []), ([5, 4], [5]), ([], []), ([7, 6], [7]), ([8], [8]), ([], []), ([0, 1, 2, 4, 6, 9, 10], [0, 1, 2, 4, 6, 9, 10]), ([11, 8, 0, 1, 2, 3, 4, 5, 6, 7, 8, 9, 10, 11], [11])])
def trustquorumlaw23_BallotsExact.B6 : List Nat := [0, 0, 0, 0, 8, 0, 56, 0, 248, 504, 0, 2047, 4095]
theorem trustquorumlaw23_BallotsExact.tab6 : rtab .any (opsOf Try.f8 6) = trustquorumlaw23_BallotsExact.T6 := by kernel_rfl
theorem trustquorumlaw23_BallotsExact.bits6 : waitsOk trustquorumlaw23_BallotsExact.T6.2 trustquorumlaw23_BallotsExact.B6 = true := by kernel_rfl
def trustquorumlaw23_BallotsExact.T10 : Bool × List (List Nat × List Nat) := (true, [([], []), ([0], [0]), ([], []), ([2, 1], [2]), ([1, 3], [1, 3]), ([4, 3], [4]), ([5], [5]), ([6, 5, 5], [5, 6]), ([5], [5]), ([8, 7, 5], [5, 8]), ([7, 9, 5], [5, 7, 9]), ([5, 10], [5, 10])])
def trustquorumlaw23_BallotsExact.B10 : List Nat := [0, 1, 0, 7, 15, 31, 63, 127, 63, 511, 1023, 2047]
theorem trustquorumlaw23_BallotsExact.tab10 : rtab .any (opsOf Try.f8 10) = trustquorumlaw23_BallotsExact.T10 := by kernel_rfl
theorem trustquorumlaw23_BallotsExact.bits10 : waitsOk trustquorumlaw23_BallotsExact.T10.2 trustquorumlaw23_BallotsExact.B10 = true := by kernel_rfl
def trustquorumlaw23_BallotsExact.T15 : Bool × List (List Nat × List Nat) := (true, [([], []), ([], []), ([0, 1], [0, 1]), ([], []), ([], []), ([3, 4, 2], [3, 4]), ([2, 5], [2, 5]), ([6, 5], [6]), ([7], [7]), ([8, 7], [7, 8]), ([7], [7]), ([10, 7], [7, 10]), ([9, 11, 7, 7], [7, 9, 11]), ([7], [7]), ([13, 7], [7, 13]), ([7], [7]), ([15, 7], [7, 15]), ([14, 16, 12, 7], [7, 14, 16]), ([12, 17, 7], [7, 12, 17]), ([7, 18], [7, 18]), ([19, 17], [19]), ([20], [20]), ([20], [20]), ([21, 22, 20, 20], [20, 21, 22]), ([20], [20]), ([20], [20]), ([24, 25, 23, 20], [20, 24, 25]), ([23, 26, 20], [20, 23, 26]), ([20, 27], [20, 27]), ([28, 26], [28]), ([29], [29]), ([29], [29]), ([30, 31, 29, 29], [29, 30, 31]), ([29], [29]), ([29], [29]), ([33, 34, 32, 29], [29, 33, 34]), ([32, 35, 29], [29, 32, 35]), ([29, 36], [29, 36]), ([37, 35], [37]), ([38], [38]), ([38], [38]), ([39, 40, 38, 38], [38, 39, 40]), ([38], [38]), ([38], [38]), ([42, 43, 41, 38], [38, 42, 43]), ([41, 44, 38], [38, 41, 44]), ([38, 45], [38, 45])])
def trustquorumlaw23_BallotsExact.B15 : List Nat := [0, 0, 3, 0, 0, 31, 63, 127, 255, 511, 255, 1279, 4095, 255, 8447, 255, 33023, 131071, 262143, 524287, 1048575, 2097151, 2097151, 8388607, 2097151, 2097151, 67108863, 134217727, 268435455, 536870911, 1073741823, 1073741823, 4294967295, 1073741823, 1073741823, 34359738367, 68719476735, 137438953471, 274877906943, 549755813887, 549755813887, 2199023255551, 549755813887, 549755813887, 17592186044415, 35184372088831, 70368744177663]
theorem trustquorumlaw23_BallotsExact.tab15 : rtab .any (opsOf Try.f8 15) = trustquorumlaw23_BallotsExact.T15 := by kernel_rfl
theorem trustquorumlaw23_BallotsExact.bits15 : waitsOk trustquorumlaw23_BallotsExact.T15.2 trustquorumlaw23_BallotsExact.B15 = true := by kernel_rfl
def trustquorumlaw23_BallotsExact.T20 : Bool × List (List Nat × List Nat) := (true, [([], []), ([], []), ([], []), ([0, 1, 2], [0, 1, 2]), ([], []), ([], []), ([], []), ([4, 5, 6, 3], [4, 5, 6]), ([3, 7], [3, 7])])
def trustquorumlaw23_BallotsExact.B20 : List Nat := [0, 0, 0, 7, 0, 0, 0, 127, 255]
theorem trustquorumlaw23_BallotsExact.tab20 : rtab .any (opsOf Try.f8 20) = trustquorumlaw23_BallotsExact.T20 := by kernel_rfl
theorem trustquorumlaw23_BallotsExact.bits20 : waitsOk trustquorumlaw23_BallotsExact.T20.2 trustquorumlaw23_BallotsExact.B20 = true := by kernel_rfl
def trustquorumlaw23_BallotsExact.T26 : Bool × List (List Nat × List Nat) := (true, [([], []), ([0], [0]), ([], []), ([], []), ([], []), ([1, 2, 3, 4, 1], [1, 2, 3, 4]), ([5], [5]), ([6, 5], [6]), ([7], [7]), ([7], [7]), ([7], [7]), ([8, 9, 10, 7, 7], [7, 8, 9, 10]), ([7], [7]), ([7], [7]), ([7], [7]), ([12, 13, 14, 11, 7], [7, 12, 13, 14]), ([11, 15, 7], [7, 11, 15]), ([7, 16], [7, 16])])
def trustquorumlaw23_BallotsExact.B26 : List Nat := [0, 1, 0, 0, 0, 31, 63, 127, 255, 255, 255, 2047, 255, 255, 255, 32767, 65535, 131071]
theorem trustquorumlaw23_BallotsExact.tab26 : rtab .any (opsOf Try.f8 26) = trustquorumlaw23_BallotsExact.T26 := by kernel_rfl
theorem trustquorumlaw23_BallotsExact.bits26 : waitsOk trustquorumlaw23_BallotsExact.T26.2 trustquorumlaw23_BallotsExact.B26 = true := by kernel_rfl
set_option maxHeartbeats 8000000 in
set_option maxRecDepth 100000 in
theorem trustquorumlaw23_BallotsExact.calls (k : Nat) (A0 : Option Addr) (c0 : Nat) (l0 : List Int) (A1 : Option Addr) (c1 : Nat) (l1 : List (S26)) (a2_0 : Int) (a2_1 : ByteArray) (a3_0 : Int) (a3_1 : ByteArray) (a4_0 : Int) (a4_1 : ByteArray) (a5 : Int) (r : Bool) (w : World) (hr0 : Kd.C (Kd.int .i64) w A0 l0.length l0) (hc0 : l0.length ≤ c0) (hr1 : Kd.C k26 w A1 l1.length l1) (hc1 : l1.length ≤ c1) (HRT : Aside0 (r = true)) (h : trustquorumlaw23_BallotsExact.f k l0 l1 a2_0 a2_1 a3_0 a3_1 a4_0 a4_1 a5 = some r) :
    Calls Try.prog 8 #[.slice A0 l0.length c0, .slice A1 l1.length c1, .agg #[.int .i64 a2_0, .string a2_1], .agg #[.int .i64 a3_0, .string a3_1], .agg #[.int .i64 a4_0, .string a4_1], .int .i64 a5] w fun e w' => e = .returned (.bool r) ∧ Below w.heap.size w w' := by
 have hu26 := Try.underlying26; have hu45 := Try.underlying45; have HR0 := Aside0.mk hr0; have HC0 := Aside0.mk hc0; clear hr0 hc0; have HR1 := Aside0.mk hr1; have HC1 := Aside0.mk hc1; clear hr1 hc1; have HB := Aside0.mk (Below.refl w.heap.size w); have H : ((trustquorumlaw23_short.f k l1).bind fun t232 => (if t232 = true then ((trustquorumlaw23_short.f k (([(⟨a2_0, a2_1⟩ : S26), (⟨a3_0, a3_1⟩ : S26), (⟨a4_0, a4_1⟩ : S26)] : List (S26)))).bind fun t236 => (trustquorumlaw23_BallotsExact.j0 k l0 l1 a5 (!t236) a2_0 a2_1 a3_0 a3_1 a4_0 a4_1)) else (trustquorumlaw23_BallotsExact.j0 k l0 l1 a5 true a2_0 a2_1 a3_0 a3_1 a4_0 a4_1))) = some r := h; clear h; have HC7 := Aside0.mk H; clear H
 go_enter Try.func8, Try.ntmps8
 go_upto_region 1 with (first | ((with_reducible refine gate_dst (N := 8) rfl ?_); (try (refine gate_guard (by rfl) ?_; dsimp only)); refine box_event ?hg (N := 8) ?hd (cs := #[.int .i64 a2_0, .string a2_1]) (t := 26) ?hr ?_; (case hd => rfl); (case hg => rfl); (case hr => first | (go_simp; done) | (go_simp; rfl)); intro gb229 hg w8 hbox hb; have n0_ := Aside0.mk (below_step (by repeat (first | (with_reducible first | exact HB.out | apply below_alloc | apply pw_below_drewN | apply below_drew1) | exact HB.out)) hb); have n1_ := Aside0.mk (hbox); have n2_ := Aside0.mk ((by rw [hg]; exact (below_size (by repeat (first | (with_reducible first | exact HB.out | apply below_alloc | apply pw_below_drewN | apply below_drew1) | exact HB.out))) : w.heap.size ≤ gb229)); have n3_ := Aside0.mk ((by rw [hg]; exact (below_size (by repeat (first | (with_reducible first | exact HB.out | apply below_alloc | apply pw_below_drewN | apply below_drew1) | exact HB.out))) : w.heap.size ≤ gb229)); clear HB; have HB := n0_; have BK229 := n1_; have GW229 := n2_; have GE229 := n3_; clear n0_ n1_ n2_ n3_; clear hb hbox hg) | ((with_reducible refine gate_dst (N := 9) rfl ?_); (try (refine gate_guard (by rfl) ?_; dsimp only)); refine box_event ?hg (N := 9) ?hd (cs := #[.int .i64 a3_0, .string a3_1]) (t := 26) ?hr ?_; (case hd => rfl); (case hg => rfl); (case hr => first | (go_simp; done) | (go_simp; rfl)); intro gb230 hg w9 hbox hb; have n0_ := Aside0.mk (blk_below (g := gb229) (o := .cells #[.int .i64 a2_0, .string a2_1] 26 (0, 0)) (by (with_reducible repeat (first | refine blk_drewN ?_ _ | refine blk_drew ?_ | refine blk_alloc ?_ _)); exact BK229.out) hb); have n1_ := Aside0.mk (below_step (by repeat (first | (with_reducible first | exact HB.out | apply below_alloc | apply pw_below_drewN | apply below_drew1 | refine below_set ?_ GE229.out) | exact HB.out)) hb); have n2_ := Aside0.mk (hbox); have n3_ := Aside0.mk ((by rw [hg]; exact (below_size (by repeat (first | (with_reducible first | exact HB.out | apply below_alloc | apply pw_below_drewN | apply below_drew1 | refine below_set ?_ GE229.out) | exact HB.out))) : w.heap.size ≤ gb230)); have n4_ := Aside0.mk ((by rw [hg]; exact (below_size (by repeat (first | (with_reducible first | exact HB.out | apply below_alloc | apply pw_below_drewN | apply below_drew1 | refine below_set ?_ GE229.out) | exact HB.out))) : w.heap.size ≤ gb230)); have n5_ := Aside0.mk ((by rw [hg]; exact Nat.ne_of_lt (blk_lt (g := gb229) (o := .cells #[.int .i64 a2_0, .string a2_1] 26 (0, 0)) (by (with_reducible repeat (first | refine blk_drewN ?_ _ | refine blk_drew ?_ | refine blk_alloc ?_ _)); exact BK229.out)) : gb229 ≠ gb230)); have n6_ := Aside0.mk ((by rw [hg]; exact Nat.ne_of_gt (blk_lt (g := gb229) (o := .cells #[.int .i64 a2_0, .string a2_1] 26 (0, 0)) (by (with_reducible repeat (first | refine blk_drewN ?_ _ | refine blk_drew ?_ | refine blk_alloc ?_ _)); exact BK229.out)) : gb230 ≠ gb229)); clear BK229; clear HB; have BK229 := n0_; have HB := n1_; have BK230 := n2_; have GW230 := n3_; have GE230 := n4_; have NB229_230 := n5_; have NB230_229 := n6_; clear n0_ n1_ n2_ n3_ n4_ n5_ n6_; clear hb hbox hg) | ((with_reducible refine gate_dst (N := 10) rfl ?_); (try (refine gate_guard (by rfl) ?_; dsimp only)); refine box_event ?hg (N := 10) ?hd (cs := #[.int .i64 a4_0, .string a4_1]) (t := 26) ?hr ?_; (case hd => rfl); (case hg => rfl); (case hr => first | (go_simp; done) | (go_simp; rfl)); intro gb231 hg w10 hbox hb; have n0_ := Aside0.mk (blk_below (g := gb229) (o := .cells #[.int .i64 a2_0, .string a2_1] 26 (0, 0)) (by (with_reducible repeat (first | refine blk_drewN ?_ _ | refine blk_drew ?_ | refine blk_alloc ?_ _)); exact BK229.out) hb); have n1_ := Aside0.mk (blk_below (g := gb230) (o := .cells #[.int .i64 a3_0, .string a3_1] 26 (0, 0)) (by (with_reducible repeat (first | refine blk_drewN ?_ _ | refine blk_drew ?_ | refine blk_alloc ?_ _)); exact BK230.out) hb); have n2_ := Aside0.mk (below_step (by repeat (first | (with_reducible first | exact HB.out | apply below_alloc | apply pw_below_drewN | apply below_drew1 | refine below_set ?_ GE229.out | refine below_set ?_ GE230.out) | exact HB.out)) hb); have n3_ := Aside0.mk (hbox); have n4_ := Aside0.mk ((by rw [hg]; exact (below_size (by repeat (first | (with_reducible first | exact HB.out | apply below_alloc | apply pw_below_drewN | apply below_drew1 | refine below_set ?_ GE229.out | refine below_set ?_ GE230.out) | exact HB.out))) : w.heap.size ≤ gb231)); have n5_ := Aside0.mk ((by rw [hg]; exact (below_size (by repeat (first | (with_reducible first | exact HB.out | apply below_alloc | apply pw_below_drewN | apply below_drew1 | refine below_set ?_ GE229.out | refine below_set ?_ GE230.out) | exact HB.out))) : w.heap.size ≤ gb231)); have n6_ := Aside0.mk ((by rw [hg]; exact Nat.ne_of_lt (blk_lt (g := gb229) (o := .cells #[.int .i64 a2_0, .string a2_1] 26 (0, 0)) (by (with_reducible repeat (first | refine blk_drewN ?_ _ | refine blk_drew ?_ | refine blk_alloc ?_ _)); exact BK229.out)) : gb229 ≠ gb231)); have n7_ := Aside0.mk ((by rw [hg]; exact Nat.ne_of_gt (blk_lt (g := gb229) (o := .cells #[.int .i64 a2_0, .string a2_1] 26 (0, 0)) (by (with_reducible repeat (first | refine blk_drewN ?_ _ | refine blk_drew ?_ | refine blk_alloc ?_ _)); exact BK229.out)) : gb231 ≠ gb229)); have n8_ := Aside0.mk ((by rw [hg]; exact Nat.ne_of_lt (blk_lt (g := gb230) (o := .cells #[.int .i64 a3_0, .string a3_1] 26 (0, 0)) (by (with_reducible repeat (first | refine blk_drewN ?_ _ | refine blk_drew ?_ | refine blk_alloc ?_ _)); exact BK230.out)) : gb230 ≠ gb231)); have n9_ := Aside0.mk ((by rw [hg]; exact Nat.ne_of_gt (blk_lt (g := gb230) (o := .cells #[.int .i64 a3_0, .string a3_1] 26 (0, 0)) (by (with_reducible repeat (first | refine blk_drewN ?_ _ | refine blk_drew ?_ | refine blk_alloc ?_ _)); exact BK230.out)) : gb231 ≠ gb230)); clear BK229; clear BK230; clear HB; have BK229 := n0_; have BK230 := n1_; have HB := n2_; have BK231 := n3_; have GW231 := n4_; have GE231 := n5_; have NB229_231 := n6_; have NB231_229 := n7_; have NB230_231 := n8_; have NB231_230 := n9_; clear n0_ n1_ n2_ n3_ n4_ n5_ n6_ n7_ n8_ n9_; clear hb hbox hg))
 (try simp only [Act.put, List.setIfInBounds_toArray, List.set_cons_zero, List.set_cons_succ])
 go_cut [33] (fun v33 wc => ∃ (kq : Nat) (x33_6 : Bool), v33 = .bool x33_6 ∧ Aside0 (trustquorumlaw23_BallotsExact.j0 kq l0 l1 a5 x33_6 a2_0 a2_1 a3_0 a3_1 a4_0 a4_1 = some r) ∧ Aside0 (kq ≤ k) ∧ Aside0 (wc.heap[gb229]? = some (.cells #[.int .i64 a2_0, .string a2_1] 26 (0, 0))) ∧ Aside0 (wc.heap[gb230]? = some (.cells #[.int .i64 a3_0, .string a3_1] 26 (0, 0))) ∧ Aside0 (wc.heap[gb231]? = some (.cells #[.int .i64 a4_0, .string a4_1] 26 (0, 0))) ∧ Aside0 (Below w.heap.size w wc))
 case first =>
  have H := HC7.out; clear HC7; replace H := Option.bind_eq_some_iff.mp H; obtain ⟨t232, A110, H⟩ := H; replace H : (if t232 = true then ((trustquorumlaw23_short.f k (([(⟨a2_0, a2_1⟩ : S26), (⟨a3_0, a3_1⟩ : S26), (⟨a4_0, a4_1⟩ : S26)] : List (S26)))).bind fun t236 => (trustquorumlaw23_BallotsExact.j0 k l0 l1 a5 (!t236) a2_0 a2_1 a3_0 a3_1 a4_0 a4_1)) else (trustquorumlaw23_BallotsExact.j0 k l0 l1 a5 true a2_0 a2_1 a3_0 a3_1 a4_0 a4_1)) = some r := H; have A11 := Aside0.mk A110; clear A110
  by_cases c12 : t232 = true
  ·
   subst c12; have H1 : ((trustquorumlaw23_short.f k (([(⟨a2_0, a2_1⟩ : S26), (⟨a3_0, a3_1⟩ : S26), (⟨a4_0, a4_1⟩ : S26)] : List (S26)))).bind fun t236 => (trustquorumlaw23_BallotsExact.j0 k l0 l1 a5 (!t236) a2_0 a2_1 a3_0 a3_1 a4_0 a4_1)) = some r := by rw [if_pos rfl] at H; exact H
   clear H; have H := H1; clear H1; obtain ⟨y233, hy233⟩ : ∃ y_ : List (S26), y_ = (([(⟨a2_0, a2_1⟩ : S26), (⟨a3_0, a3_1⟩ : S26), (⟨a4_0, a4_1⟩ : S26)] : List (S26))) := ⟨_, rfl⟩; replace H : ((trustquorumlaw23_short.f k y233).bind fun t236 => (trustquorumlaw23_BallotsExact.j0 k l0 l1 a5 (!t236) a2_0 a2_1 a3_0 a3_1 a4_0 a4_1)) = some r := by first | (rw [hy233]; with_reducible exact H) | (have H2_ := (Option.bind_some _ _).symm.trans H; rw [hy233]; with_reducible exact H2_) | (have H2_ := (Option.bind_some _ _).symm.trans H; with_reducible exact H2_) | with_reducible exact H | (rw [hy233]; exact H) | exact H
   have Ny233 := Aside0.mk hy233; clear hy233; replace H := Option.bind_eq_some_iff.mp H; obtain ⟨t236, A130, H⟩ := H; replace H : (trustquorumlaw23_BallotsExact.j0 k l0 l1 a5 (!t236) a2_0 a2_1 a3_0 a3_1 a4_0 a4_1) = some r := H; have A13 := Aside0.mk A130; clear A130; have H' := Aside0.mk H; clear H
   go_wp2_with (first | ((with_reducible refine gate_callee (f := 26) rfl ?_); refine goesL_ (some 24) rfl rfl Try.func26 (by kernel_rfl) rfl #[.slice A1 l1.length c1] rfl (by (try simp only [List.map_toArray, List.map_cons, List.map_nil]); first | done | rfl | (simp only [List.length_drop, List.length_take]; rfl)) ?_; (with_reducible refine (trustquorumlaw23_short.calls k _ _ l1 true _ ?side1 ?side2 A11.out).mono ?_); (case side1 => repeat (first | exact (Kd.C_below HR1.out HB.out) | (with_reducible refine Kd.C_alloc ?_ _) | (with_reducible refine Kd.C_drewN ?_ _) | (with_reducible refine Kd.C_drew ?_))); (case side2 => exact HC1.out); rintro e w14 ⟨rfl, hb⟩; refine ⟨_, rfl, ?_⟩; have n0_ := Aside0.mk (blk_below (g := gb229) (o := .cells #[.int .i64 a2_0, .string a2_1] 26 (0, 0)) (by (with_reducible repeat (first | refine blk_drewN ?_ _ | refine blk_drew ?_ | refine blk_alloc ?_ _)); exact BK229.out) hb); have n1_ := Aside0.mk (blk_below (g := gb230) (o := .cells #[.int .i64 a3_0, .string a3_1] 26 (0, 0)) (by (with_reducible repeat (first | refine blk_drewN ?_ _ | refine blk_drew ?_ | refine blk_alloc ?_ _)); exact BK230.out) hb); have n2_ := Aside0.mk (blk_below (g := gb231) (o := .cells #[.int .i64 a4_0, .string a4_1] 26 (0, 0)) (by (with_reducible repeat (first | refine blk_drewN ?_ _ | refine blk_drew ?_ | refine blk_alloc ?_ _)); exact BK231.out) hb); have n3_ := Aside0.mk (below_step (by repeat (first | (with_reducible first | exact HB.out | apply below_alloc | apply pw_below_drewN | apply below_drew1 | refine below_set ?_ GE229.out | refine below_set ?_ GE230.out | refine below_set ?_ GE231.out) | exact HB.out)) hb); clear BK229; clear BK230; clear BK231; clear HB; have BK229 := n0_; have BK230 := n1_; have BK231 := n2_; have HB := n3_; clear n0_ n1_ n2_ n3_; (try clear hb); (try clear hb2); (try clear hk); (try clear hi); have hnb15 := NB229_230.out; have hnc15 := NB230_229.out; have hnb16 := NB229_231.out; have hnc16 := NB231_229.out; have hcz17_0 : w14.cell? ⟨gb229, 0, none⟩ = some (.int .i64 a2_0) := (blk_cell BK229.out 0).trans rfl; have hcz17_1 : w14.cell? ⟨gb229, 1, none⟩ = some (.string a2_1) := (blk_cell BK229.out 1).trans rfl; have hfz17_0 := blk_frozen BK229.out 0; have hfz17_1 := blk_frozen BK229.out 1; have hnb18 := NB230_231.out; have hnc18 := NB231_230.out; have hcz19_0 : w14.cell? ⟨gb230, 0, none⟩ = some (.int .i64 a3_0) := (blk_cell BK230.out 0).trans rfl; have hcz19_1 : w14.cell? ⟨gb230, 1, none⟩ = some (.string a3_1) := (blk_cell BK230.out 1).trans rfl; have hfz19_0 := blk_frozen BK230.out 0; have hfz19_1 := blk_frozen BK230.out 1; have hcz20_0 : w14.cell? ⟨gb231, 0, none⟩ = some (.int .i64 a4_0) := (blk_cell BK231.out 0).trans rfl; have hcz20_1 : w14.cell? ⟨gb231, 1, none⟩ = some (.string a4_1) := (blk_cell BK231.out 1).trans rfl; have hfz20_0 := blk_frozen BK231.out 0; have hfz20_1 := blk_frozen BK231.out 1) | ((with_reducible refine gate_dst (N := 30) rfl ?_); (try (refine gate_guard (by rfl) ?_; dsimp only)); refine Kd.R_lit k26 _ 26 ?hg (N := 30) ?hd (xs := ([(⟨a2_0, a2_1⟩ : S26), (⟨a3_0, a3_1⟩ : S26), (⟨a4_0, a4_1⟩ : S26)] : List (S26))) (inner := [.int .i64 a2_0, .string a2_1, .int .i64 a3_0, .string a3_1, .int .i64 a4_0, .string a4_1]) (ok := fun _ => True) (okp := fun _ => True) ?hr ?hp (fun _ hk => hk) trivial (Below.refl _ _) (Nat.le_refl _) (by simp) ?_; (case hd => rfl); (case hg => rfl); (case hr => first | (go_simp; done) | (go_simp; rfl)); (case hp => exact (Reps.c2 (show Kd.M k26 _ _ _ (⟨a2_0, a2_1⟩ : S26) [.int .i64 a2_0, .string a2_1] from (k26_mkM _ _ _ (⟨a2_0, a2_1⟩ : S26) )) (Reps.c2 (show Kd.M k26 _ _ _ (⟨a3_0, a3_1⟩ : S26) [.int .i64 a3_0, .string a3_1] from (k26_mkM _ _ _ (⟨a3_0, a3_1⟩ : S26) )) (Reps.c2 (show Kd.M k26 _ _ _ (⟨a4_0, a4_1⟩ : S26) [.int .i64 a4_0, .string a4_1] from (k26_mkM _ _ _ (⟨a4_0, a4_1⟩ : S26) )) (Reps.none _ _))))); intro v234 w21 ho22 hb hg_ hnew_; clear hg_ hnew_; (first | rw [← Ny233.out] at ho22 | (simp only [Int.reduceToNat] at ho22; rw [← Ny233.out] at ho22)); have n0_ := Aside0.mk (Kd.R_lower (Kd.R_newB (Kd.R_newB (Kd.R_newB ho22 (g := gb229) (o := .cells #[.int .i64 a2_0, .string a2_1] 26 (0, 0)) (by (with_reducible repeat (first | refine blk_drewN ?_ _ | refine blk_drew ?_ | refine blk_alloc ?_ _)); exact BK229.out)) (g := gb230) (o := .cells #[.int .i64 a3_0, .string a3_1] 26 (0, 0)) (by (with_reducible repeat (first | refine blk_drewN ?_ _ | refine blk_drew ?_ | refine blk_alloc ?_ _)); exact BK230.out)) (g := gb231) (o := .cells #[.int .i64 a4_0, .string a4_1] 26 (0, 0)) (by (with_reducible repeat (first | refine blk_drewN ?_ _ | refine blk_drew ?_ | refine blk_alloc ?_ _)); exact BK231.out)) (below_size (by repeat (first | (with_reducible first | exact HB.out | apply below_alloc | apply pw_below_drewN | apply below_drew1 | refine below_set ?_ GE229.out | refine below_set ?_ GE230.out | refine below_set ?_ GE231.out) | exact HB.out)))); have n1_ := Aside0.mk (blk_below (g := gb229) (o := .cells #[.int .i64 a2_0, .string a2_1] 26 (0, 0)) (by (with_reducible repeat (first | refine blk_drewN ?_ _ | refine blk_drew ?_ | refine blk_alloc ?_ _)); exact BK229.out) hb); have n2_ := Aside0.mk (blk_below (g := gb230) (o := .cells #[.int .i64 a3_0, .string a3_1] 26 (0, 0)) (by (with_reducible repeat (first | refine blk_drewN ?_ _ | refine blk_drew ?_ | refine blk_alloc ?_ _)); exact BK230.out) hb); have n3_ := Aside0.mk (blk_below (g := gb231) (o := .cells #[.int .i64 a4_0, .string a4_1] 26 (0, 0)) (by (with_reducible repeat (first | refine blk_drewN ?_ _ | refine blk_drew ?_ | refine blk_alloc ?_ _)); exact BK231.out) hb); have n4_ := Aside0.mk (below_step (by repeat (first | (with_reducible first | exact HB.out | apply below_alloc | apply pw_below_drewN | apply below_drew1 | refine below_set ?_ GE229.out | refine below_set ?_ GE230.out | refine below_set ?_ GE231.out) | exact HB.out)) hb); clear BK229; clear BK230; clear BK231; clear HB; have HO235 := n0_; have BK229 := n1_; have BK230 := n2_; have BK231 := n3_; have HB := n4_; clear n0_ n1_ n2_ n3_ n4_; clear hb ho22; obtain ⟨Ao23, co23, eo23⟩ := Kd.R_slice HO235.out; subst eo23) | (go_at_call 26; (with_reducible refine (trustquorumlaw23_short.calls k _ _ y233 t236 _ ?side1 ?side2 A13.out).mono ?_); (case side1 => repeat (first | exact (Kd.R_reads' HO235.out).2.2 | (with_reducible refine Kd.C_alloc ?_ _) | (with_reducible refine Kd.C_drewN ?_ _) | (with_reducible refine Kd.C_drew ?_))); (case side2 => exact (Kd.R_reads' HO235.out).2.1); rintro e w24 ⟨rfl, hb⟩; have n0_ := Aside0.mk (Kd.R_below (by (with_reducible repeat (first | apply Kd.R_alloc | apply Kd.R_drewN | apply Kd.R_drew)); exact HO235.out) hb); have n1_ := Aside0.mk (blk_below (g := gb229) (o := .cells #[.int .i64 a2_0, .string a2_1] 26 (0, 0)) (by (with_reducible repeat (first | refine blk_drewN ?_ _ | refine blk_drew ?_ | refine blk_alloc ?_ _)); exact BK229.out) hb); have n2_ := Aside0.mk (blk_below (g := gb230) (o := .cells #[.int .i64 a3_0, .string a3_1] 26 (0, 0)) (by (with_reducible repeat (first | refine blk_drewN ?_ _ | refine blk_drew ?_ | refine blk_alloc ?_ _)); exact BK230.out) hb); have n3_ := Aside0.mk (blk_below (g := gb231) (o := .cells #[.int .i64 a4_0, .string a4_1] 26 (0, 0)) (by (with_reducible repeat (first | refine blk_drewN ?_ _ | refine blk_drew ?_ | refine blk_alloc ?_ _)); exact BK231.out) hb); have n4_ := Aside0.mk (below_step (by repeat (first | (with_reducible first | exact HB.out | apply below_alloc | apply pw_below_drewN | apply below_drew1 | refine below_set ?_ GE229.out | refine below_set ?_ GE230.out | refine below_set ?_ GE231.out) | exact HB.out)) hb); clear HO235; clear BK229; clear BK230; clear BK231; clear HB; have HO235 := n0_; have BK229 := n1_; have BK230 := n2_; have BK231 := n3_; have HB := n4_; clear n0_ n1_ n2_ n3_ n4_; (try clear hb); (try clear hb2); (try clear hk); (try clear hi)))
   go_meet
   case rel => exact ⟨_, (!t236), (by first | rfl | (simp; done) | (simp [*]; done) | (refine congrArg (Value.int .i64) ?_; unfold wrap64; omega)), H', ⟨by first | omega | exact Nat.le_refl _⟩, ⟨by (with_reducible repeat (first | refine blk_drewN ?_ _ | refine blk_drew ?_ | refine blk_alloc ?_ _)); exact BK229.out⟩, ⟨by (with_reducible repeat (first | refine blk_drewN ?_ _ | refine blk_drew ?_ | refine blk_alloc ?_ _)); exact BK230.out⟩, ⟨by (with_reducible repeat (first | refine blk_drewN ?_ _ | refine blk_drew ?_ | refine blk_alloc ?_ _)); exact BK231.out⟩, ⟨by repeat (first | (with_reducible first | exact HB.out | apply below_alloc | apply pw_below_drewN | apply below_drew1 | refine below_set ?_ GE229.out | refine below_set ?_ GE230.out | refine below_set ?_ GE231.out) | exact HB.out)⟩⟩
  ·
   replace c12 := Bool.eq_false_iff.mpr c12; subst c12; have H1 : (trustquorumlaw23_BallotsExact.j0 k l0 l1 a5 true a2_0 a2_1 a3_0 a3_1 a4_0 a4_1) = some r := by rw [if_neg (show ¬ (false = true) by decide)] at H; exact H
   clear H; have H := H1; clear H1; have H' := Aside0.mk H; clear H
   go_wp2_with (first | ((with_reducible refine gate_callee (f := 26) rfl ?_); refine goesL_ (some 24) rfl rfl Try.func26 (by kernel_rfl) rfl #[.slice A1 l1.length c1] rfl (by (try simp only [List.map_toArray, List.map_cons, List.map_nil]); first | done | rfl | (simp only [List.length_drop, List.length_take]; rfl)) ?_; (with_reducible refine (trustquorumlaw23_short.calls k _ _ l1 false _ ?side1 ?side2 A11.out).mono ?_); (case side1 => repeat (first | exact (Kd.C_below HR1.out HB.out) | (with_reducible refine Kd.C_alloc ?_ _) | (with_reducible refine Kd.C_drewN ?_ _) | (with_reducible refine Kd.C_drew ?_))); (case side2 => exact HC1.out); rintro e w25 ⟨rfl, hb⟩; refine ⟨_, rfl, ?_⟩; have n0_ := Aside0.mk (blk_below (g := gb229) (o := .cells #[.int .i64 a2_0, .string a2_1] 26 (0, 0)) (by (with_reducible repeat (first | refine blk_drewN ?_ _ | refine blk_drew ?_ | refine blk_alloc ?_ _)); exact BK229.out) hb); have n1_ := Aside0.mk (blk_below (g := gb230) (o := .cells #[.int .i64 a3_0, .string a3_1] 26 (0, 0)) (by (with_reducible repeat (first | refine blk_drewN ?_ _ | refine blk_drew ?_ | refine blk_alloc ?_ _)); exact BK230.out) hb); have n2_ := Aside0.mk (blk_below (g := gb231) (o := .cells #[.int .i64 a4_0, .string a4_1] 26 (0, 0)) (by (with_reducible repeat (first | refine blk_drewN ?_ _ | refine blk_drew ?_ | refine blk_alloc ?_ _)); exact BK231.out) hb); have n3_ := Aside0.mk (below_step (by repeat (first | (with_reducible first | exact HB.out | apply below_alloc | apply pw_below_drewN | apply below_drew1 | refine below_set ?_ GE229.out | refine below_set ?_ GE230.out | refine below_set ?_ GE231.out) | exact HB.out)) hb); clear BK229; clear BK230; clear BK231; clear HB; have BK229 := n0_; have BK230 := n1_; have BK231 := n2_; have HB := n3_; clear n0_ n1_ n2_ n3_; (try clear hb); (try clear hb2); (try clear hk); (try clear hi)))
   go_meet
   case rel => exact ⟨_, (true), (by first | rfl | (simp; done) | (simp [*]; done) | (refine congrArg (Value.int .i64) ?_; unfold wrap64; omega)), H', ⟨by first | omega | exact Nat.le_refl _⟩, ⟨by (with_reducible repeat (first | refine blk_drewN ?_ _ | refine blk_drew ?_ | refine blk_alloc ?_ _)); exact BK229.out⟩, ⟨by (with_reducible repeat (first | refine blk_drewN ?_ _ | refine blk_drew ?_ | refine blk_alloc ?_ _)); exact BK230.out⟩, ⟨by (with_reducible repeat (first | refine blk_drewN ?_ _ | refine blk_drew ?_ | refine blk_alloc ?_ _)); exact BK231.out⟩, ⟨by repeat (first | (with_reducible first | exact HB.out | apply below_alloc | apply pw_below_drewN | apply below_drew1 | refine below_set ?_ GE229.out | refine below_set ?_ GE230.out | refine below_set ?_ GE231.out) | exact HB.out)⟩⟩
 case rest =>
  clear HC7; (try clear c1); (try clear c2); (try clear p2); (try clear p6); (try clear c8); (try clear c12); (try clear c15); (try clear c16); (try clear c18); (try clear hcz17_0); (try clear hcz17_1); (try clear hcz19_0); (try clear hcz19_1); (try clear hcz20_0); (try clear hcz20_1); (try clear hfz17_0); (try clear hfz17_1); (try clear hfz19_0); (try clear hfz19_1); (try clear hfz20_0); (try clear hfz20_1); obtain ⟨kq, x33_6, rfl, HA, HJ6, BK229, BK230, BK231, HB⟩ := hcut
  cases kq with
  | zero => exact absurd HA.out (by simp [trustquorumlaw23_BallotsExact.j0])
  | succ kj6 =>
   have H := HA.out; clear HA; simp only [trustquorumlaw23_BallotsExact.j0] at H
   by_cases c26 : x33_6 = true
   ·
    subst c26; have H1 : ((trustquorumlaw23_sane.f kj6).bind fun t237 => (some t237)) = some r := by rw [if_pos rfl] at H; exact H
    clear H; have H := H1; clear H1; replace H := Option.bind_eq_some_iff.mp H; obtain ⟨t237, A270, H⟩ := H; replace H : (some t237) = some r := H; have A27 := Aside0.mk A270; clear A270; obtain rfl := Option.some.inj H
    go_wp2_with (first | ((with_reducible refine gate_callee (f := 14) rfl ?_); refine goesL_ (some 34) rfl rfl Try.func14 (by kernel_rfl) rfl #[] rfl (by (try simp only [List.map_toArray, List.map_cons, List.map_nil]); first | done | rfl | (simp only [List.length_drop, List.length_take]; rfl)) ?_; (with_reducible refine (trustquorumlaw23_sane.calls kj6  t237 _ A27.out).mono ?_); rintro e w28 ⟨rfl, hb⟩; refine ⟨_, rfl, ?_⟩; have n0_ := Aside0.mk (blk_below (g := gb229) (o := .cells #[.int .i64 a2_0, .string a2_1] 26 (0, 0)) (by (with_reducible repeat (first | refine blk_drewN ?_ _ | refine blk_drew ?_ | refine blk_alloc ?_ _)); exact BK229.out) hb); have n1_ := Aside0.mk (blk_below (g := gb230) (o := .cells #[.int .i64 a3_0, .string a3_1] 26 (0, 0)) (by (with_reducible repeat (first | refine blk_drewN ?_ _ | refine blk_drew ?_ | refine blk_alloc ?_ _)); exact BK230.out) hb); have n2_ := Aside0.mk (blk_below (g := gb231) (o := .cells #[.int .i64 a4_0, .string a4_1] 26 (0, 0)) (by (with_reducible repeat (first | refine blk_drewN ?_ _ | refine blk_drew ?_ | refine blk_alloc ?_ _)); exact BK231.out) hb); have n3_ := Aside0.mk (below_step (by repeat (first | (with_reducible first | exact HB.out | apply below_alloc | apply pw_below_drewN | apply below_drew1 | refine below_set ?_ GE229.out | refine below_set ?_ GE230.out | refine below_set ?_ GE231.out) | exact HB.out)) hb); clear BK229; clear BK230; clear BK231; clear HB; have BK229 := n0_; have BK230 := n1_; have BK231 := n2_; have HB := n3_; clear n0_ n1_ n2_ n3_; (try clear hb); (try clear hb2); (try clear hk); (try clear hi)))
    go_ret
    exact ⟨by first | rfl | (simp [errW_none, errW_some] <;> rfl) | (simp [*, errW_none, errW_some] <;> rfl), by repeat (first | (with_reducible first | exact HB.out | apply below_alloc | apply pw_below_drewN | apply below_drew1 | refine below_set ?_ GE229.out | refine below_set ?_ GE230.out | refine below_set ?_ GE231.out) | exact HB.out)⟩
   ·
    replace c26 := Bool.eq_false_iff.mpr c26; subst c26; have H1 : ((trustquorumplay_New.f l0).bind fun bt238 => ((ballots_Greatest.f kj6 l1).bind fun bt241 => ((trustquorumref23_Greatest.f kj6 l1).bind fun bt243 => (if (!(bt241.1 == bt243.1) || (!(bt241.2.toList == bt243.2.toList))) = true then (some false) else ((trustquorumplay_Src_Ballot.f bt238.1 bt238.2).bind fun bt245 => ((trustquorumplay_Src_Ballot.f bt238.1 bt245.2.2).bind fun bt248 => ((trustquorumplay_Src_Odd.f bt238.1 bt248.2.2).bind fun bt251 => ((some (([(⟨a2_0, a2_1⟩ : S26), (⟨a3_0, a3_1⟩ : S26), (⟨a4_0, a4_1⟩ : S26), (⟨bt245.1, bt245.2.1⟩ : S26), (⟨bt248.1, bt248.2.1⟩ : S26), (⟨bt251.1, (⟨#[97]⟩ : ByteArray)⟩ : S26), (⟨0, (⟨#[]⟩ : ByteArray)⟩ : S26)] : List (S26)) : List (S26))).bind fun y253 => (trustquorumlaw23_BallotsExact.l0 kj6 a5 y253 (y253.length : Int) 0 bt238.1 bt251.2))))))))) = some r := by rw [if_neg (show ¬ (false = true) by decide)] at H; exact H
    clear H; have H := H1; clear H1; replace H := Option.bind_eq_some_iff.mp H; obtain ⟨⟨t238, t239⟩, A290, H⟩ := H; replace H : ((ballots_Greatest.f kj6 l1).bind fun bt241 => ((trustquorumref23_Greatest.f kj6 l1).bind fun bt243 => (if (!(bt241.1 == bt243.1) || (!(bt241.2.toList == bt243.2.toList))) = true then (some false) else ((trustquorumplay_Src_Ballot.f t238 t239).bind fun bt245 => ((trustquorumplay_Src_Ballot.f t238 bt245.2.2).bind fun bt248 => ((trustquorumplay_Src_Odd.f t238 bt248.2.2).bind fun bt251 => ((some (([(⟨a2_0, a2_1⟩ : S26), (⟨a3_0, a3_1⟩ : S26), (⟨a4_0, a4_1⟩ : S26), (⟨bt245.1, bt245.2.1⟩ : S26), (⟨bt248.1, bt248.2.1⟩ : S26), (⟨bt251.1, (⟨#[97]⟩ : ByteArray)⟩ : S26), (⟨0, (⟨#[]⟩ : ByteArray)⟩ : S26)] : List (S26)) : List (S26))).bind fun y253 => (trustquorumlaw23_BallotsExact.l0 kj6 a5 y253 (y253.length : Int) 0 t238 bt251.2)))))))) = some r := H; have A29 := Aside0.mk A290; clear A290; replace H := Option.bind_eq_some_iff.mp H; obtain ⟨⟨t241, t242⟩, A300, H⟩ := H; replace H : ((trustquorumref23_Greatest.f kj6 l1).bind fun bt243 => (if (!(t241 == bt243.1) || (!(t242.toList == bt243.2.toList))) = true then (some false) else ((trustquorumplay_Src_Ballot.f t238 t239).bind fun bt245 => ((trustquorumplay_Src_Ballot.f t238 bt245.2.2).bind fun bt248 => ((trustquorumplay_Src_Odd.f t238 bt248.2.2).bind fun bt251 => ((some (([(⟨a2_0, a2_1⟩ : S26), (⟨a3_0, a3_1⟩ : S26), (⟨a4_0, a4_1⟩ : S26), (⟨bt245.1, bt245.2.1⟩ : S26), (⟨bt248.1, bt248.2.1⟩ : S26), (⟨bt251.1, (⟨#[97]⟩ : ByteArray)⟩ : S26), (⟨0, (⟨#[]⟩ : ByteArray)⟩ : S26)] : List (S26)) : List (S26))).bind fun y253 => (trustquorumlaw23_BallotsExact.l0 kj6 a5 y253 (y253.length : Int) 0 t238 bt251.2))))))) = some r := H
    have A30 := Aside0.mk A300; clear A300; replace H := Option.bind_eq_some_iff.mp H; obtain ⟨⟨t243, t244⟩, A310, H⟩ := H; replace H : (if (!(t241 == t243) || (!(t242.toList == t244.toList))) = true then (some false) else ((trustquorumplay_Src_Ballot.f t238 t239).bind fun bt245 => ((trustquorumplay_Src_Ballot.f t238 bt245.2.2).bind fun bt248 => ((trustquorumplay_Src_Odd.f t238 bt248.2.2).bind fun bt251 => ((some (([(⟨a2_0, a2_1⟩ : S26), (⟨a3_0, a3_1⟩ : S26), (⟨a4_0, a4_1⟩ : S26), (⟨bt245.1, bt245.2.1⟩ : S26), (⟨bt248.1, bt248.2.1⟩ : S26), (⟨bt251.1, (⟨#[97]⟩ : ByteArray)⟩ : S26), (⟨0, (⟨#[]⟩ : ByteArray)⟩ : S26)] : List (S26)) : List (S26))).bind fun y253 => (trustquorumlaw23_BallotsExact.l0 kj6 a5 y253 (y253.length : Int) 0 t238 bt251.2)))))) = some r := H; have A31 := Aside0.mk A310; clear A310
    by_cases c32 : (!(t241 == t243) || (!(t242.toList == t244.toList))) = true
    ·
     rw [if_pos c32] at H; have c32b0 : (!(t241 == t243) || (!(t242.toList == t244.toList))) = true := c32; clear c32; exact absurd ((Option.some.inj H).trans HRT.out) (by decide)
    ·
     rw [if_neg c32] at H; have c32b0 : (!(t241 == t243) || (!(t242.toList == t244.toList))) = false := by simpa using c32
     clear c32; replace H := Option.bind_eq_some_iff.mp H; obtain ⟨⟨t245, t246, t247⟩, A330, H⟩ := H; replace H : ((trustquorumplay_Src_Ballot.f t238 t247).bind fun bt248 => ((trustquorumplay_Src_Odd.f t238 bt248.2.2).bind fun bt251 => ((some (([(⟨a2_0, a2_1⟩ : S26), (⟨a3_0, a3_1⟩ : S26), (⟨a4_0, a4_1⟩ : S26), (⟨t245, t246⟩ : S26), (⟨bt248.1, bt248.2.1⟩ : S26), (⟨bt251.1, (⟨#[97]⟩ : ByteArray)⟩ : S26), (⟨0, (⟨#[]⟩ : ByteArray)⟩ : S26)] : List (S26)) : List (S26))).bind fun y253 => (trustquorumlaw23_BallotsExact.l0 kj6 a5 y253 (y253.length : Int) 0 t238 bt251.2)))) = some r := H; have A33 := Aside0.mk A330; clear A330; replace H := Option.bind_eq_some_iff.mp H; obtain ⟨⟨t248, t249, t250⟩, A340, H⟩ := H; replace H : ((trustquorumplay_Src_Odd.f t238 t250).bind fun bt251 => ((some (([(⟨a2_0, a2_1⟩ : S26), (⟨a3_0, a3_1⟩ : S26), (⟨a4_0, a4_1⟩ : S26), (⟨t245, t246⟩ : S26), (⟨t248, t249⟩ : S26), (⟨bt251.1, (⟨#[97]⟩ : ByteArray)⟩ : S26), (⟨0, (⟨#[]⟩ : ByteArray)⟩ : S26)] : List (S26)) : List (S26))).bind fun y253 => (trustquorumlaw23_BallotsExact.l0 kj6 a5 y253 (y253.length : Int) 0 t238 bt251.2))) = some r := H; have A34 := Aside0.mk A340; clear A340; replace H := Option.bind_eq_some_iff.mp H; obtain ⟨⟨t251, t252⟩, A350, H⟩ := H; replace H : ((some (([(⟨a2_0, a2_1⟩ : S26), (⟨a3_0, a3_1⟩ : S26), (⟨a4_0, a4_1⟩ : S26), (⟨t245, t246⟩ : S26), (⟨t248, t249⟩ : S26), (⟨t251, (⟨#[97]⟩ : ByteArray)⟩ : S26), (⟨0, (⟨#[]⟩ : ByteArray)⟩ : S26)] : List (S26)) : List (S26))).bind fun y253 => (trustquorumlaw23_BallotsExact.l0 kj6 a5 y253 (y253.length : Int) 0 t238 t252)) = some r := H
     have A35 := Aside0.mk A350; clear A350; obtain ⟨y253, hy253⟩ : ∃ y_ : List (S26), y_ = (([(⟨a2_0, a2_1⟩ : S26), (⟨a3_0, a3_1⟩ : S26), (⟨a4_0, a4_1⟩ : S26), (⟨t245, t246⟩ : S26), (⟨t248, t249⟩ : S26), (⟨t251, (⟨#[97]⟩ : ByteArray)⟩ : S26), (⟨0, (⟨#[]⟩ : ByteArray)⟩ : S26)] : List (S26))) := ⟨_, rfl⟩; replace H : (trustquorumlaw23_BallotsExact.l0 kj6 a5 y253 (y253.length : Int) 0 t238 t252) = some r := by first | (rw [hy253]; with_reducible exact H) | (have H2_ := (Option.bind_some _ _).symm.trans H; rw [hy253]; with_reducible exact H2_) | (have H2_ := (Option.bind_some _ _).symm.trans H; with_reducible exact H2_) | with_reducible exact H | (rw [hy253]; exact H) | exact H
     have Ny253 := Aside0.mk hy253; clear hy253; have H' := Aside0.mk H; clear H
     try go_wp2_with (first | ((with_reducible refine gate_callee (f := 9) rfl ?_); refine goesL_ (some 36) rfl rfl Try.func9 (by kernel_rfl) rfl #[.slice A0 l0.length c0] rfl (by (try simp only [List.map_toArray, List.map_cons, List.map_nil]); first | done | rfl | (simp only [List.length_drop, List.length_take]; rfl)) ?_; (with_reducible refine (trustquorumplay_New.calls _ _ l0 t238 t239 w _ ?side1 ?side2 ?side3 A29.out).mono ?_); (case side1 => repeat (first | (with_reducible first | exact HB.out | apply below_alloc | apply pw_below_drewN | apply below_drew1 | refine below_set ?_ GE229.out | refine below_set ?_ GE230.out | refine below_set ?_ GE231.out) | exact HB.out)); (case side2 => exact HR0.out); (case side3 => exact HC0.out); rintro e w36 ⟨g240, rfl, hi, hb, hb2⟩; refine ⟨_, rfl, ?_⟩; have n0_ := Aside0.mk (blk_below (g := gb229) (o := .cells #[.int .i64 a2_0, .string a2_1] 26 (0, 0)) (by (with_reducible repeat (first | refine blk_drewN ?_ _ | refine blk_drew ?_ | refine blk_alloc ?_ _)); exact BK229.out) hb2); have n1_ := Aside0.mk (blk_below (g := gb230) (o := .cells #[.int .i64 a3_0, .string a3_1] 26 (0, 0)) (by (with_reducible repeat (first | refine blk_drewN ?_ _ | refine blk_drew ?_ | refine blk_alloc ?_ _)); exact BK230.out) hb2); have n2_ := Aside0.mk (blk_below (g := gb231) (o := .cells #[.int .i64 a4_0, .string a4_1] 26 (0, 0)) (by (with_reducible repeat (first | refine blk_drewN ?_ _ | refine blk_drew ?_ | refine blk_alloc ?_ _)); exact BK231.out) hb2); have n3_ := Aside0.mk (hb); have n4_ := Aside0.mk (hi); have n5_ := Aside0.mk (IsS48.ne_blk hi (blk_below (g := gb229) (o := .cells #[.int .i64 a2_0, .string a2_1] 26 (0, 0)) (by (with_reducible repeat (first | refine blk_drewN ?_ _ | refine blk_drew ?_ | refine blk_alloc ?_ _)); exact BK229.out) hb2) (by decide)); have n6_ := Aside0.mk (Ne.symm (IsS48.ne_blk hi (blk_below (g := gb229) (o := .cells #[.int .i64 a2_0, .string a2_1] 26 (0, 0)) (by (with_reducible repeat (first | refine blk_drewN ?_ _ | refine blk_drew ?_ | refine blk_alloc ?_ _)); exact BK229.out) hb2) (by decide))); have n7_ := Aside0.mk (IsS48.ne_blk hi (blk_below (g := gb230) (o := .cells #[.int .i64 a3_0, .string a3_1] 26 (0, 0)) (by (with_reducible repeat (first | refine blk_drewN ?_ _ | refine blk_drew ?_ | refine blk_alloc ?_ _)); exact BK230.out) hb2) (by decide)); have n8_ := Aside0.mk (Ne.symm (IsS48.ne_blk hi (blk_below (g := gb230) (o := .cells #[.int .i64 a3_0, .string a3_1] 26 (0, 0)) (by (with_reducible repeat (first | refine blk_drewN ?_ _ | refine blk_drew ?_ | refine blk_alloc ?_ _)); exact BK230.out) hb2) (by decide))); have n9_ := Aside0.mk (IsS48.ne_blk hi (blk_below (g := gb231) (o := .cells #[.int .i64 a4_0, .string a4_1] 26 (0, 0)) (by (with_reducible repeat (first | refine blk_drewN ?_ _ | refine blk_drew ?_ | refine blk_alloc ?_ _)); exact BK231.out) hb2) (by decide)); have n10_ := Aside0.mk (Ne.symm (IsS48.ne_blk hi (blk_below (g := gb231) (o := .cells #[.int .i64 a4_0, .string a4_1] 26 (0, 0)) (by (with_reducible repeat (first | refine blk_drewN ?_ _ | refine blk_drew ?_ | refine blk_alloc ?_ _)); exact BK231.out) hb2) (by decide))); clear BK229; clear BK230; clear BK231; clear HB; have BK229 := n0_; have BK230 := n1_; have BK231 := n2_; have HB := n3_; have HI240 := n4_; have NB240_229 := n5_; have NB229_240 := n6_; have NB240_230 := n7_; have NB230_240 := n8_; have NB240_231 := n9_; have NB231_240 := n10_; clear n0_ n1_ n2_ n3_ n4_ n5_ n6_ n7_ n8_ n9_ n10_; (try clear hb); (try clear hb2); (try clear hk); (try clear hi)) | ((with_reducible refine gate_callee (f := 24) rfl ?_); refine goesL_ (some 38) rfl rfl Try.func24 (by kernel_rfl) rfl #[.slice A1 l1.length c1] rfl (by (try simp only [List.map_toArray, List.map_cons, List.map_nil]); first | done | rfl | (simp only [List.length_drop, List.length_take]; rfl)) ?_; (with_reducible refine (ballots_Greatest.calls kj6 _ _ l1 t241 t242 _ ?side1 ?side2 A30.out).mono ?_); (case side1 => repeat (first | exact (Kd.C_below HR1.out HB.out) | (with_reducible refine Kd.C_alloc ?_ _) | (with_reducible refine Kd.C_drewN ?_ _) | (with_reducible refine Kd.C_drew ?_))); (case side2 => exact HC1.out); rintro e w37 ⟨rfl, hb⟩; refine ⟨_, rfl, ?_⟩; have n0_ := Aside0.mk (blk_below (g := gb229) (o := .cells #[.int .i64 a2_0, .string a2_1] 26 (0, 0)) (by (with_reducible repeat (first | refine blk_drewN ?_ _ | refine blk_drew ?_ | refine blk_alloc ?_ _)); exact BK229.out) hb); have n1_ := Aside0.mk (blk_below (g := gb230) (o := .cells #[.int .i64 a3_0, .string a3_1] 26 (0, 0)) (by (with_reducible repeat (first | refine blk_drewN ?_ _ | refine blk_drew ?_ | refine blk_alloc ?_ _)); exact BK230.out) hb); have n2_ := Aside0.mk (blk_below (g := gb231) (o := .cells #[.int .i64 a4_0, .string a4_1] 26 (0, 0)) (by (with_reducible repeat (first | refine blk_drewN ?_ _ | refine blk_drew ?_ | refine blk_alloc ?_ _)); exact BK231.out) hb); have n3_ := Aside0.mk (IsS48.below (by repeat (first | (with_reducible first | exact HI240.out | apply IsS48.alloc | apply IsS48.drewN | apply IsS48.drew | apply IsS48.set_1 | refine IsS48.far ?_ NB240_229.out _ | refine IsS48.far ?_ NB240_230.out _ | refine IsS48.far ?_ NB240_231.out _) | exact HI240.out)) hb); have n4_ := Aside0.mk (below_step (by repeat (first | (with_reducible first | exact HB.out | apply below_alloc | apply pw_below_drewN | apply below_drew1 | refine below_set ?_ (IsS48.ge HI240.out) | refine below_set ?_ GE229.out | refine below_set ?_ GE230.out | refine below_set ?_ GE231.out) | exact HB.out)) hb); clear BK229; clear BK230; clear BK231; clear HI240; clear HB; have BK229 := n0_; have BK230 := n1_; have BK231 := n2_; have HI240 := n3_; have HB := n4_; clear n0_ n1_ n2_ n3_ n4_; (try clear hb); (try clear hb2); (try clear hk); (try clear hi)) | ((with_reducible refine gate_callee (f := 27) rfl ?_); refine goesL_ (some 40) rfl rfl Try.func27 (by kernel_rfl) rfl #[.slice A1 l1.length c1] rfl (by (try simp only [List.map_toArray, List.map_cons, List.map_nil]); first | done | rfl | (simp only [List.length_drop, List.length_take]; rfl)) ?_; (with_reducible refine (trustquorumref23_Greatest.calls kj6 _ _ l1 t243 t244 _ ?side1 ?side2 A31.out).mono ?_); (case side1 => repeat (first | exact (Kd.C_below HR1.out HB.out) | (with_reducible refine Kd.C_alloc ?_ _) | (with_reducible refine Kd.C_drewN ?_ _) | (with_reducible refine Kd.C_drew ?_))); (case side2 => exact HC1.out); rintro e w38 ⟨rfl, hb⟩; refine ⟨_, rfl, ?_⟩; have n0_ := Aside0.mk (blk_below (g := gb229) (o := .cells #[.int .i64 a2_0, .string a2_1] 26 (0, 0)) (by (with_reducible repeat (first | refine blk_drewN ?_ _ | refine blk_drew ?_ | refine blk_alloc ?_ _)); exact BK229.out) hb); have n1_ := Aside0.mk (blk_below (g := gb230) (o := .cells #[.int .i64 a3_0, .string a3_1] 26 (0, 0)) (by (with_reducible repeat (first | refine blk_drewN ?_ _ | refine blk_drew ?_ | refine blk_alloc ?_ _)); exact BK230.out) hb); have n2_ := Aside0.mk (blk_below (g := gb231) (o := .cells #[.int .i64 a4_0, .string a4_1] 26 (0, 0)) (by (with_reducible repeat (first | refine blk_drewN ?_ _ | refine blk_drew ?_ | refine blk_alloc ?_ _)); exact BK231.out) hb); have n3_ := Aside0.mk (IsS48.below (by repeat (first | (with_reducible first | exact HI240.out | apply IsS48.alloc | apply IsS48.drewN | apply IsS48.drew | apply IsS48.set_1 | refine IsS48.far ?_ NB240_229.out _ | refine IsS48.far ?_ NB240_230.out _ | refine IsS48.far ?_ NB240_231.out _) | exact HI240.out)) hb); have n4_ := Aside0.mk (below_step (by repeat (first | (with_reducible first | exact HB.out | apply below_alloc | apply pw_below_drewN | apply below_drew1 | refine below_set ?_ (IsS48.ge HI240.out) | refine below_set ?_ GE229.out | refine below_set ?_ GE230.out | refine below_set ?_ GE231.out) | exact HB.out)) hb); clear BK229; clear BK230; clear BK231; clear HI240; clear HB; have BK229 := n0_; have BK230 := n1_; have BK231 := n2_; have HI240 := n3_; have HB := n4_; clear n0_ n1_ n2_ n3_ n4_; (try clear hb); (try clear hb2); (try clear hk); (try clear hi)))
     have n0_ := Aside0.mk (blk_drew BK229.out); have n1_ := Aside0.mk (blk_drew BK230.out); have n2_ := Aside0.mk (blk_drew BK231.out); have n3_ := Aside0.mk (IsS48.drew HI240.out); have n4_ := Aside0.mk (below_drew1 HB.out); clear BK229; clear BK230; clear BK231; clear HI240; clear HB; have BK229 := n0_; have BK230 := n1_; have BK231 := n2_; have HI240 := n3_; have HB := n4_; clear n0_ n1_ n2_ n3_ n4_; refine start_ (n := 13) (S := fun w' => w'.cell? ⟨gb229, 0, none⟩ = some (.int .i64 a2_0) ∧ w'.cell? ⟨gb229, 1, none⟩ = some (.string a2_1) ∧ w'.cell? ⟨gb230, 0, none⟩ = some (.int .i64 a3_0) ∧ w'.cell? ⟨gb230, 1, none⟩ = some (.string a3_1) ∧ w'.cell? ⟨gb231, 0, none⟩ = some (.int .i64 a4_0) ∧ w'.cell? ⟨gb231, 1, none⟩ = some (.string a4_1)) (ds := []) #[false, false, false, false, false, false, false, false, false, false, false, false, false] (by kernel_rfl) rfl rfl ⟨(blk_cell BK229.out 0).trans rfl, (blk_cell BK229.out 1).trans rfl, (blk_cell BK230.out 0).trans rfl, (blk_cell BK230.out 1).trans rfl, (blk_cell BK231.out 0).trans rfl, (blk_cell BK231.out 1).trans rfl⟩ (fun hHeld => ?_); refine with_tabW trustquorumlaw23_BallotsExact.tab6 trustquorumlaw23_BallotsExact.bits6 (fun HT_ HW_ => ?_); generalize w38.drew = w39 at BK229 BK230 BK231 HI240 HB hHeld ⊢; refine pure_ (i := 3) (N := some 45) (v := ?_) (a' := ?_) #[false, false, false, true, false, false, false, false, false, false, false, false, false] rfl rfl (any_of HT_.out (by kernel_rfl)) (fun _ _ _ h => h) (Or.inl ⟨by rfl, ?_⟩) ?_ ?_
     rotate_left
     ·
      intro w'; go_simp
      with_reducible rfl
     rotate_left
     ·
      simp only [Act.put, List.setIfInBounds_toArray, List.set_cons_zero, List.set_cons_succ, i64_w, i32_w]; rfl
     refine pure_ (i := 5) (N := some 47) (v := ?_) (a' := ?_) #[false, false, false, true, false, true, false, false, false, false, false, false, false] rfl rfl (any_of HT_.out (by kernel_rfl)) (fun _ _ _ h => h) (Or.inl ⟨by rfl, ?_⟩) ?_ ?_; rotate_left
     ·
      intro w'; go_simp
      with_reducible rfl
     rotate_left
     ·
      simp only [Act.put, List.setIfInBounds_toArray, List.set_cons_zero, List.set_cons_succ, i64_w, i32_w]; rfl
     refine pure_ (i := 7) (N := some 49) (v := ?_) (a' := ?_) #[false, false, false, true, false, true, false, true, false, false, false, false, false] rfl rfl (any_of HT_.out (by kernel_rfl)) (fun _ _ _ h => h) (Or.inl ⟨by rfl, ?_⟩) ?_ ?_; rotate_left
     ·
      intro w'; go_simp
      with_reducible rfl
     rotate_left
     ·
      simp only [Act.put, List.setIfInBounds_toArray, List.set_cons_zero, List.set_cons_succ, i64_w, i32_w]; rfl
     refine pure_ (i := 10) (N := some 52) (v := ?_) (a' := ?_) #[false, false, false, true, false, true, false, true, false, false, true, false, false] rfl rfl (any_of HT_.out (by kernel_rfl)) (fun _ _ _ h => h) (Or.inl ⟨by rfl, ?_⟩) ?_ ?_; rotate_left
     ·
      intro w'; go_simp
      with_reducible rfl
     rotate_left
     ·
      simp only [Act.put, List.setIfInBounds_toArray, List.set_cons_zero, List.set_cons_succ, i64_w, i32_w]; rfl
     refine take_ (i := 0) (N := some 42) (v := ?_) (a' := ?_) #[true, false, false, true, false, true, false, true, false, false, true, false, false] rfl rfl (take_ofW HT_.out HW_.out (by kernel_rfl)) (fun _ _ _ h => h) (Or.inl ⟨by rfl, ?_⟩) hHeld ?_ ?_; rotate_left
     ·
      rintro w' ⟨s0, s1, s2, s3, s4, s5⟩; go_simp
      with_reducible rfl
     rotate_left
     ·
      simp only [Act.put, List.setIfInBounds_toArray, List.set_cons_zero, List.set_cons_succ, i64_w, i32_w]; rfl
     refine take_ (i := 1) (N := some 43) (v := ?_) (a' := ?_) #[true, true, false, true, false, true, false, true, false, false, true, false, false] rfl rfl (take_ofW HT_.out HW_.out (by kernel_rfl)) (fun _ _ _ h => h) (Or.inl ⟨by rfl, ?_⟩) hHeld ?_ ?_; rotate_left
     ·
      rintro w' ⟨s0, s1, s2, s3, s4, s5⟩; go_simp
      with_reducible rfl
     rotate_left
     ·
      simp only [Act.put, List.setIfInBounds_toArray, List.set_cons_zero, List.set_cons_succ, i64_w, i32_w]; rfl
     refine take_ (i := 2) (N := some 44) (v := ?_) (a' := ?_) #[true, true, true, true, false, true, false, true, false, false, true, false, false] rfl rfl (take_ofW HT_.out HW_.out (by kernel_rfl)) (fun _ _ _ h => h) (Or.inl ⟨by rfl, ?_⟩) hHeld ?_ ?_; rotate_left
     ·
      rintro w' ⟨s0, s1, s2, s3, s4, s5⟩; go_simp
      with_reducible rfl
     rotate_left
     ·
      simp only [Act.put, List.setIfInBounds_toArray, List.set_cons_zero, List.set_cons_succ, i64_w, i32_w]; rfl
     refine one_ (i := 4) (N := some 46) #[true, true, true, true, true, true, false, true, false, false, true, false, false] rfl rfl (one_of HT_.out (by kernel_rfl)) (by decide) (fun K hK => ?_); refine goes_ Try.func15 (by kernel_rfl) rfl #[.pointer (some ⟨g240, 0, none⟩)] (by rfl) rfl rfl (by (try simp only [List.map_toArray, List.map_cons, List.map_nil]); first | done | rfl | (simp only [List.length_drop, List.length_take]; rfl)) ?_
     with_reducible refine (trustquorumplay_Src_Ballot.calls g240 t238 t239 t245 t246 t247 w _ ?side1 ?side2 A33.out).mono ?_
     (case side1 => repeat (first | (with_reducible first | exact HI240.out | apply IsS48.alloc | apply IsS48.drewN | apply IsS48.drew | apply IsS48.set_1 | refine IsS48.far ?_ NB240_229.out _ | refine IsS48.far ?_ NB240_230.out _ | refine IsS48.far ?_ NB240_231.out _) | exact HI240.out))
     (case side2 => repeat (first | (with_reducible first | exact HB.out | apply below_alloc | apply pw_below_drewN | apply below_drew1 | refine below_set ?_ (IsS48.ge HI240.out) | refine below_set ?_ GE229.out | refine below_set ?_ GE230.out | refine below_set ?_ GE231.out) | exact HB.out))
     rintro e w40 ⟨rfl, hi, hb, hk⟩; refine ⟨_, rfl, ?_⟩; have n0_ := Aside0.mk (KeepBut.blk hk (g' := gb229) (o := .cells #[.int .i64 a2_0, .string a2_1] 26 (0, 0)) (by (with_reducible repeat (first | refine blk_drewN ?_ _ | refine blk_drew ?_ | refine blk_alloc ?_ _)); exact BK229.out) NB229_240.out (by simp))
     have n1_ := Aside0.mk (KeepBut.blk hk (g' := gb230) (o := .cells #[.int .i64 a3_0, .string a3_1] 26 (0, 0)) (by (with_reducible repeat (first | refine blk_drewN ?_ _ | refine blk_drew ?_ | refine blk_alloc ?_ _)); exact BK230.out) NB230_240.out (by simp))
     have n2_ := Aside0.mk (KeepBut.blk hk (g' := gb231) (o := .cells #[.int .i64 a4_0, .string a4_1] 26 (0, 0)) (by (with_reducible repeat (first | refine blk_drewN ?_ _ | refine blk_drew ?_ | refine blk_alloc ?_ _)); exact BK231.out) NB231_240.out (by simp))
     have n3_ := Aside0.mk (hb); have n4_ := Aside0.mk (hi); clear BK229; clear BK230; clear BK231; clear HB; clear HI240; have BK229 := n0_; have BK230 := n1_; have BK231 := n2_; have HB := n3_; have HI240 := n4_; clear n0_ n1_ n2_ n3_ n4_; (try clear hb); (try clear hb2); (try clear hk); (try clear hi); refine hK.out _ _ ⟨(blk_cell BK229.out 0).trans rfl, (blk_cell BK229.out 1).trans rfl, (blk_cell BK230.out 0).trans rfl, (blk_cell BK230.out 1).trans rfl, (blk_cell BK231.out 0).trans rfl, (blk_cell BK231.out 1).trans rfl⟩ (fun hHeld => ?_); clear hK K; refine norm_ (a' := ?_) ?_ ?_; rotate_left
     ·
      show Act.put _ (some 46) _ = _
      simp only [Act.put, List.setIfInBounds_toArray, List.set_cons_zero, List.set_cons_succ, i64_w, i32_w]; rfl
     refine one_ (i := 6) (N := some 48) #[true, true, true, true, true, true, true, true, false, false, true, false, false] rfl rfl (one_of HT_.out (by kernel_rfl)) (by decide) (fun K hK => ?_); refine goes_ Try.func15 (by kernel_rfl) rfl #[.pointer (some ⟨g240, 0, none⟩)] (by rfl) rfl rfl (by (try simp only [List.map_toArray, List.map_cons, List.map_nil]); first | done | rfl | (simp only [List.length_drop, List.length_take]; rfl)) ?_
     with_reducible refine (trustquorumplay_Src_Ballot.calls g240 t238 t247 t248 t249 t250 w _ ?side1 ?side2 A34.out).mono ?_
     (case side1 => repeat (first | (with_reducible first | exact HI240.out | apply IsS48.alloc | apply IsS48.drewN | apply IsS48.drew | apply IsS48.set_1 | refine IsS48.far ?_ NB240_229.out _ | refine IsS48.far ?_ NB240_230.out _ | refine IsS48.far ?_ NB240_231.out _) | exact HI240.out))
     (case side2 => repeat (first | (with_reducible first | exact HB.out | apply below_alloc | apply pw_below_drewN | apply below_drew1 | refine below_set ?_ (IsS48.ge HI240.out) | refine below_set ?_ GE229.out | refine below_set ?_ GE230.out | refine below_set ?_ GE231.out) | exact HB.out))
     rintro e w41 ⟨rfl, hi, hb, hk⟩; refine ⟨_, rfl, ?_⟩; have n0_ := Aside0.mk (KeepBut.blk hk (g' := gb229) (o := .cells #[.int .i64 a2_0, .string a2_1] 26 (0, 0)) (by (with_reducible repeat (first | refine blk_drewN ?_ _ | refine blk_drew ?_ | refine blk_alloc ?_ _)); exact BK229.out) NB229_240.out (by simp))
     have n1_ := Aside0.mk (KeepBut.blk hk (g' := gb230) (o := .cells #[.int .i64 a3_0, .string a3_1] 26 (0, 0)) (by (with_reducible repeat (first | refine blk_drewN ?_ _ | refine blk_drew ?_ | refine blk_alloc ?_ _)); exact BK230.out) NB230_240.out (by simp))
     have n2_ := Aside0.mk (KeepBut.blk hk (g' := gb231) (o := .cells #[.int .i64 a4_0, .string a4_1] 26 (0, 0)) (by (with_reducible repeat (first | refine blk_drewN ?_ _ | refine blk_drew ?_ | refine blk_alloc ?_ _)); exact BK231.out) NB231_240.out (by simp))
     have n3_ := Aside0.mk (hb); have n4_ := Aside0.mk (hi); clear BK229; clear BK230; clear BK231; clear HB; clear HI240; have BK229 := n0_; have BK230 := n1_; have BK231 := n2_; have HB := n3_; have HI240 := n4_; clear n0_ n1_ n2_ n3_ n4_; (try clear hb); (try clear hb2); (try clear hk); (try clear hi); refine hK.out _ _ ⟨(blk_cell BK229.out 0).trans rfl, (blk_cell BK229.out 1).trans rfl, (blk_cell BK230.out 0).trans rfl, (blk_cell BK230.out 1).trans rfl, (blk_cell BK231.out 0).trans rfl, (blk_cell BK231.out 1).trans rfl⟩ (fun hHeld => ?_); clear hK K; refine norm_ (a' := ?_) ?_ ?_; rotate_left
     ·
      show Act.put _ (some 48) _ = _
      simp only [Act.put, List.setIfInBounds_toArray, List.set_cons_zero, List.set_cons_succ, i64_w, i32_w]; rfl
     refine one_ (i := 8) (N := some 50) #[true, true, true, true, true, true, true, true, true, false, true, false, false] rfl rfl (one_of HT_.out (by kernel_rfl)) (by decide) (fun K hK => ?_); refine goes_ Try.func28 (by kernel_rfl) rfl #[.pointer (some ⟨g240, 0, none⟩)] (by rfl) rfl rfl (by (try simp only [List.map_toArray, List.map_cons, List.map_nil]); first | done | rfl | (simp only [List.length_drop, List.length_take]; rfl)) ?_
     with_reducible refine (trustquorumplay_Src_Odd.calls g240 t238 t250 t251 t252 w _ ?side1 ?side2 A35.out).mono ?_
     (case side1 => repeat (first | (with_reducible first | exact HI240.out | apply IsS48.alloc | apply IsS48.drewN | apply IsS48.drew | apply IsS48.set_1 | refine IsS48.far ?_ NB240_229.out _ | refine IsS48.far ?_ NB240_230.out _ | refine IsS48.far ?_ NB240_231.out _) | exact HI240.out))
     (case side2 => repeat (first | (with_reducible first | exact HB.out | apply below_alloc | apply pw_below_drewN | apply below_drew1 | refine below_set ?_ (IsS48.ge HI240.out) | refine below_set ?_ GE229.out | refine below_set ?_ GE230.out | refine below_set ?_ GE231.out) | exact HB.out))
     rintro e w42 ⟨rfl, hi, hb, hk⟩; refine ⟨_, rfl, ?_⟩; have n0_ := Aside0.mk (KeepBut.blk hk (g' := gb229) (o := .cells #[.int .i64 a2_0, .string a2_1] 26 (0, 0)) (by (with_reducible repeat (first | refine blk_drewN ?_ _ | refine blk_drew ?_ | refine blk_alloc ?_ _)); exact BK229.out) NB229_240.out (by simp))
     have n1_ := Aside0.mk (KeepBut.blk hk (g' := gb230) (o := .cells #[.int .i64 a3_0, .string a3_1] 26 (0, 0)) (by (with_reducible repeat (first | refine blk_drewN ?_ _ | refine blk_drew ?_ | refine blk_alloc ?_ _)); exact BK230.out) NB230_240.out (by simp))
     have n2_ := Aside0.mk (KeepBut.blk hk (g' := gb231) (o := .cells #[.int .i64 a4_0, .string a4_1] 26 (0, 0)) (by (with_reducible repeat (first | refine blk_drewN ?_ _ | refine blk_drew ?_ | refine blk_alloc ?_ _)); exact BK231.out) NB231_240.out (by simp))
     have n3_ := Aside0.mk (hb); have n4_ := Aside0.mk (hi); clear BK229; clear BK230; clear BK231; clear HB; clear HI240; have BK229 := n0_; have BK230 := n1_; have BK231 := n2_; have HB := n3_; have HI240 := n4_; clear n0_ n1_ n2_ n3_ n4_; (try clear hb); (try clear hb2); (try clear hk); (try clear hi); refine hK.out _ _ ⟨(blk_cell BK229.out 0).trans rfl, (blk_cell BK229.out 1).trans rfl, (blk_cell BK230.out 0).trans rfl, (blk_cell BK230.out 1).trans rfl, (blk_cell BK231.out 0).trans rfl, (blk_cell BK231.out 1).trans rfl⟩ (fun hHeld => ?_); clear hK K; refine norm_ (a' := ?_) ?_ ?_; rotate_left
     ·
      show Act.put _ (some 50) _ = _
      simp only [Act.put, List.setIfInBounds_toArray, List.set_cons_zero, List.set_cons_succ, i64_w, i32_w]; rfl
     refine pure_ (i := 9) (N := some 51) (v := ?_) (a' := ?_) #[true, true, true, true, true, true, true, true, true, true, true, false, false] rfl rfl (any_of HT_.out (by kernel_rfl)) (fun _ _ _ h => h) (Or.inl ⟨by rfl, ?_⟩) ?_ ?_; rotate_left
     ·
      intro w'; go_simp
      with_reducible rfl
     rotate_left
     ·
      simp only [Act.put, List.setIfInBounds_toArray, List.set_cons_zero, List.set_cons_succ, i64_w, i32_w]; rfl
     refine one_ (i := 11) (N := some 53) #[true, true, true, true, true, true, true, true, true, true, true, true, false] rfl rfl (one_of HT_.out (by kernel_rfl)) (by decide) (fun K hK => ?_); refine Kd.R_lit_step k26 _ 26 ?hg (N := 53) ?hd (xs := ([(⟨a2_0, a2_1⟩ : S26), (⟨a3_0, a3_1⟩ : S26), (⟨a4_0, a4_1⟩ : S26), (⟨t245, t246⟩ : S26), (⟨t248, t249⟩ : S26), (⟨t251, (⟨#[97]⟩ : ByteArray)⟩ : S26), (⟨0, (⟨#[]⟩ : ByteArray)⟩ : S26)] : List (S26))) (inner := [.int .i64 a2_0, .string a2_1, .int .i64 a3_0, .string a3_1, .int .i64 a4_0, .string a4_1, .int .i64 t245, .string t246, .int .i64 t248, .string t249, .int .i64 t251, .string (⟨#[97]⟩ : ByteArray), .int .i64 0, .string (⟨#[]⟩ : ByteArray)]) (ok := fun _ => True) (okp := fun _ => True) ?hr ?hp (fun _ hk => hk) trivial (Below.refl _ _) (Nat.le_refl _) (by simp) ?_; (case hd => rfl); (case hg => rfl); (case hr => first | (go_simp; done) | (go_simp; rfl)); (case hp => exact (Reps.c2 (show Kd.M k26 _ _ _ (⟨a2_0, a2_1⟩ : S26) [.int .i64 a2_0, .string a2_1] from (k26_mkM _ _ _ (⟨a2_0, a2_1⟩ : S26) )) (Reps.c2 (show Kd.M k26 _ _ _ (⟨a3_0, a3_1⟩ : S26) [.int .i64 a3_0, .string a3_1] from (k26_mkM _ _ _ (⟨a3_0, a3_1⟩ : S26) )) (Reps.c2 (show Kd.M k26 _ _ _ (⟨a4_0, a4_1⟩ : S26) [.int .i64 a4_0, .string a4_1] from (k26_mkM _ _ _ (⟨a4_0, a4_1⟩ : S26) )) (Reps.c2 (show Kd.M k26 _ _ _ (⟨t245, t246⟩ : S26) [.int .i64 t245, .string t246] from (k26_mkM _ _ _ (⟨t245, t246⟩ : S26) )) (Reps.c2 (show Kd.M k26 _ _ _ (⟨t248, t249⟩ : S26) [.int .i64 t248, .string t249] from (k26_mkM _ _ _ (⟨t248, t249⟩ : S26) )) (Reps.c2 (show Kd.M k26 _ _ _ (⟨t251, (⟨#[97]⟩ : ByteArray)⟩ : S26) [.int .i64 t251, .string (⟨#[97]⟩ : ByteArray)] from (k26_mkM _ _ _ (⟨t251, (⟨#[97]⟩ : ByteArray)⟩ : S26) )) (Reps.c2 (show Kd.M k26 _ _ _ (⟨0, (⟨#[]⟩ : ByteArray)⟩ : S26) [.int .i64 0, .string (⟨#[]⟩ : ByteArray)] from (k26_mkM _ _ _ (⟨0, (⟨#[]⟩ : ByteArray)⟩ : S26) )) (Reps.none _ _)))))))))
     intro v254 w43 ho44 hb hg_ hnew_; clear hg_ hnew_; (first | rw [← Ny253.out] at ho44 | (simp only [Int.reduceToNat] at ho44; rw [← Ny253.out] at ho44)); have n0_ := Aside0.mk (Kd.R_lower (Kd.R_newB (Kd.R_newB (Kd.R_newB ho44 (g := gb229) (o := .cells #[.int .i64 a2_0, .string a2_1] 26 (0, 0)) (by (with_reducible repeat (first | refine blk_drewN ?_ _ | refine blk_drew ?_ | refine blk_alloc ?_ _)); exact BK229.out)) (g := gb230) (o := .cells #[.int .i64 a3_0, .string a3_1] 26 (0, 0)) (by (with_reducible repeat (first | refine blk_drewN ?_ _ | refine blk_drew ?_ | refine blk_alloc ?_ _)); exact BK230.out)) (g := gb231) (o := .cells #[.int .i64 a4_0, .string a4_1] 26 (0, 0)) (by (with_reducible repeat (first | refine blk_drewN ?_ _ | refine blk_drew ?_ | refine blk_alloc ?_ _)); exact BK231.out)) (below_size (by repeat (first | (with_reducible first | exact HB.out | apply below_alloc | apply pw_below_drewN | apply below_drew1 | refine below_set ?_ (IsS48.ge HI240.out) | refine below_set ?_ GE229.out | refine below_set ?_ GE230.out | refine below_set ?_ GE231.out) | exact HB.out))))
     have n1_ := Aside0.mk (blk_below (g := gb229) (o := .cells #[.int .i64 a2_0, .string a2_1] 26 (0, 0)) (by (with_reducible repeat (first | refine blk_drewN ?_ _ | refine blk_drew ?_ | refine blk_alloc ?_ _)); exact BK229.out) hb)
     have n2_ := Aside0.mk (blk_below (g := gb230) (o := .cells #[.int .i64 a3_0, .string a3_1] 26 (0, 0)) (by (with_reducible repeat (first | refine blk_drewN ?_ _ | refine blk_drew ?_ | refine blk_alloc ?_ _)); exact BK230.out) hb)
     have n3_ := Aside0.mk (blk_below (g := gb231) (o := .cells #[.int .i64 a4_0, .string a4_1] 26 (0, 0)) (by (with_reducible repeat (first | refine blk_drewN ?_ _ | refine blk_drew ?_ | refine blk_alloc ?_ _)); exact BK231.out) hb)
     have n4_ := Aside0.mk (IsS48.below (by repeat (first | (with_reducible first | exact HI240.out | apply IsS48.alloc | apply IsS48.drewN | apply IsS48.drew | apply IsS48.set_1 | refine IsS48.far ?_ NB240_229.out _ | refine IsS48.far ?_ NB240_230.out _ | refine IsS48.far ?_ NB240_231.out _) | exact HI240.out)) hb); have n5_ := Aside0.mk (below_step (by repeat (first | (with_reducible first | exact HB.out | apply below_alloc | apply pw_below_drewN | apply below_drew1 | refine below_set ?_ (IsS48.ge HI240.out) | refine below_set ?_ GE229.out | refine below_set ?_ GE230.out | refine below_set ?_ GE231.out) | exact HB.out)) hb); clear BK229; clear BK230; clear BK231; clear HI240; clear HB; have HO255 := n0_; have BK229 := n1_; have BK230 := n2_; have BK231 := n3_; have HI240 := n4_; have HB := n5_; clear n0_ n1_ n2_ n3_ n4_ n5_; clear hb ho44; refine hK.out _ _ ⟨(blk_cell BK229.out 0).trans rfl, (blk_cell BK229.out 1).trans rfl, (blk_cell BK230.out 0).trans rfl, (blk_cell BK230.out 1).trans rfl, (blk_cell BK231.out 0).trans rfl, (blk_cell BK231.out 1).trans rfl⟩ (fun hHeld => ?_); clear hK K; refine norm_ (a' := ?_) ?_ ?_; rotate_left
     ·
      show Act.put _ (some 53) _ = _
      simp only [Act.put, List.setIfInBounds_toArray, List.set_cons_zero, List.set_cons_succ, i64_w, i32_w]; rfl
     refine pure_ (i := 12) (N := some 14) (v := ?_) (a' := ?_) #[true, true, true, true, true, true, true, true, true, true, true, true, true] rfl rfl (any_of HT_.out (by kernel_rfl)) (fun _ _ _ h => h) (Or.inl ⟨by rfl, ?_⟩) ?_ ?_; rotate_left
     ·
      intro w'; go_simp
      with_reducible rfl
     rotate_left
     ·
      simp only [Act.put, List.setIfInBounds_toArray, List.set_cons_zero, List.set_cons_succ, i64_w, i32_w]; rfl
     refine done_ (done_of HT_.out (by kernel_rfl)) ?_; obtain ⟨Ao45, co45, eo45⟩ := Kd.R_slice HO255.out; subst eo45
     try go_wp2
     go_loopg [56] kj6 (fun kq v56 w' => ∃ (x56_2 : Int) (x241001_2 : Int), v56 = .int .i64 x56_2 ∧ Aside0 (trustquorumlaw23_BallotsExact.l0 kq a5 y253 (y253.length : Int) x56_2 t238 x241001_2 = some r) ∧ Aside0 (kq ≤ kj6) ∧ Aside0 (Kd.R k26 26 w' w.heap.size (fun _ => True) (.slice Ao45 y253.length co45) y253) ∧ Aside0 (IsS48 w w' g240 t238 x241001_2) ∧ Aside0 (Below w.heap.size w w'))
     case atStart => exact ⟨(0), (t252), (by first | rfl | (simp; done) | (simp [*]; done) | (refine congrArg (Value.int .i64) ?_; unfold wrap64; omega)), H', ⟨Nat.le_refl _⟩, ⟨by (with_reducible repeat (first | apply Kd.R_alloc | apply Kd.R_drewN | apply Kd.R_drew)); exact Kd.R_mono HO255.out (fun _ hk => trivial)⟩, ⟨by repeat (first | (with_reducible first | exact HI240.out | apply IsS48.alloc | apply IsS48.drewN | apply IsS48.drew | apply IsS48.set_1 | refine IsS48.far ?_ NB240_229.out _ | refine IsS48.far ?_ NB240_230.out _ | refine IsS48.far ?_ NB240_231.out _) | exact HI240.out)⟩, ⟨by repeat (first | (with_reducible first | exact HB.out | apply below_alloc | apply pw_below_drewN | apply below_drew1 | refine below_set ?_ (IsS48.ge HI240.out) | refine below_set ?_ GE229.out | refine below_set ?_ GE230.out | refine below_set ?_ GE231.out) | exact HB.out)⟩⟩
     case round =>
      clear H'; (try clear c1); (try clear c2); (try clear p2); (try clear c3); (try clear p6); (try clear c8); (try clear c9); (try clear c12); (try clear c14); (try clear c15); (try clear c16); (try clear c18); (try clear c24); (try clear c26); (try clear c27); (try clear c28); (try clear c32); (try clear c32b0); (try clear hcz17_0); (try clear hcz17_1); (try clear hcz19_0); (try clear hcz19_1); (try clear hcz20_0); (try clear hcz20_1); (try clear hfz17_0); (try clear hfz17_1); (try clear hfz19_0); (try clear hfz19_1); (try clear hfz20_0); (try clear hfz20_1); (try clear p2); (try clear p6); obtain ⟨x56_2, x241001_2, rfl, HA, HK2, HO_14, HI240, HB⟩ := hrel
      cases gk with
      | zero => exact absurd HA.out (by simp [trustquorumlaw23_BallotsExact.l0])
      | succ k2 =>
       have H := HA.out; clear HA; simp only [trustquorumlaw23_BallotsExact.l0] at H
       by_cases c46 : x56_2 < (y253.length : Int)
       ·
        rw [if_pos c46] at H; have c46b0 : decide (x56_2 < (y253.length : Int)) = true := decide_eq_true c46; clear c46
        by_cases c47 : 0 ≤ x56_2
        ·
         rw [if_pos c47] at H; have c47b0 : decide (0 ≤ x56_2) = true := decide_eq_true c47; clear c47
         by_cases c48 : x56_2 < (y253.length : Int)
         ·
          rw [if_pos c48] at H; have c48b0 : decide (x56_2 < (y253.length : Int)) = true := decide_eq_true c48; clear c48; have HC49 := Aside0.mk H; clear H; have p261 : 0 ≤ (x56_2 : Int) := of_decide_eq_true (by first | (with_reducible assumption) | assumption); have q261 : x56_2 < (y253.length : Int) := of_decide_eq_true (by first | (with_reducible assumption) | assumption); obtain ⟨ad261, e261, hx261_0, hx261_1⟩ := at_T26 (Kd.R_reads' HO_14.out).2.2 x56_2 p261 q261
          cases e261
          replace p261 := eq_true p261; replace q261 := eq_true q261
          go_upto_region 10 with (first | ((with_reducible refine gate_dst (N := 16) rfl ?_); (try (refine gate_guard (by rfl) ?_; dsimp only)); refine box_event ?hg (N := 16) ?hd (cs := #[.int .i64 0, .string (⟨#[]⟩ : ByteArray)]) (t := 26) ?hr ?_; (case hd => rfl); (case hg => rfl); (case hr => first | (go_simp; done) | (go_simp; rfl)); intro gb262 hg w50 hbox hb; have n0_ := Aside0.mk (Kd.R_below (Kd.R_elderB (by (with_reducible repeat (first | apply Kd.R_alloc | apply Kd.R_drewN | apply Kd.R_drew)); exact HO_14.out) gb262 (Nat.le_of_eq hg.symm)) hb); have n1_ := Aside0.mk (IsS48.below (by repeat (first | (with_reducible first | exact HI240.out | apply IsS48.alloc | apply IsS48.drewN | apply IsS48.drew | apply IsS48.set_1) | exact HI240.out)) hb); have n2_ := Aside0.mk (below_step (by repeat (first | (with_reducible first | exact HB.out | apply below_alloc | apply pw_below_drewN | apply below_drew1 | refine below_set ?_ (IsS48.ge HI240.out)) | exact HB.out)) hb); have n3_ := Aside0.mk (hbox); have n4_ := Aside0.mk ((by rw [hg]; exact (below_size (by repeat (first | (with_reducible first | exact HB.out | apply below_alloc | apply pw_below_drewN | apply below_drew1 | refine below_set ?_ (IsS48.ge HI240.out)) | exact HB.out))) : w.heap.size ≤ gb262)); have n5_ := Aside0.mk ((by rw [hg]; exact (below_size (by repeat (first | (with_reducible first | exact HB.out | apply below_alloc | apply pw_below_drewN | apply below_drew1 | refine below_set ?_ (IsS48.ge HI240.out)) | exact HB.out))) : w.heap.size ≤ gb262)); have n6_ := Aside0.mk ((by rw [hg]; exact Nat.ne_of_lt (IsS48.lt (show IsS48 w _ g240 t238 x241001_2 from by repeat (first | (with_reducible first | exact HI240.out | apply IsS48.alloc | apply IsS48.drewN | apply IsS48.drew | apply IsS48.set_1) | exact HI240.out))) : g240 ≠ gb262)); have n7_ := Aside0.mk ((by rw [hg]; exact Nat.ne_of_gt (IsS48.lt (show IsS48 w _ g240 t238 x241001_2 from by repeat (first | (with_reducible first | exact HI240.out | apply IsS48.alloc | apply IsS48.drewN | apply IsS48.drew | apply IsS48.set_1) | exact HI240.out))) : gb262 ≠ g240)); clear HO_14; clear HI240; clear HB; have HO_14 := n0_; have HI240 := n1_; have HB := n2_; have BK262 := n3_; have GW262 := n4_; have GE262 := n5_; have NB240_262 := n6_; have NB262_240 := n7_; clear n0_ n1_ n2_ n3_ n4_ n5_ n6_ n7_; clear hb hbox hg; have hnb51 := NB262_240.out; have hnc51 := NB240_262.out; have hcz52_0 : w50.cell? ⟨gb262, 0, none⟩ = some (.int .i64 0) := (blk_cell BK262.out 0).trans rfl; have hcz52_1 : w50.cell? ⟨gb262, 1, none⟩ = some (.string (⟨#[]⟩ : ByteArray)) := (blk_cell BK262.out 1).trans rfl; have hfz52_0 := blk_frozen BK262.out 0; have hfz52_1 := blk_frozen BK262.out 1))
          (try simp only [Act.put, List.setIfInBounds_toArray, List.set_cons_zero, List.set_cons_succ])
          go_cut [71] (fun v71 wc => ∃ (kq : Nat) (x71_48 : Bool), v71 = .bool x71_48 ∧ Aside0 (trustquorumlaw23_BallotsExact.j2 kq a5 y253 (y253.length : Int) x56_2 x71_48 t238 x241001_2 ((rd_T26 y253 x56_2).f0) ((rd_T26 y253 x56_2).f1) = some r) ∧ Aside0 (kq ≤ k2) ∧ Aside0 (Kd.R k26 26 wc w.heap.size (fun k_ => k_ ≠ gb262) (.slice (some ad261) y253.length co45) y253) ∧ Aside0 (wc.heap[gb262]? = some (.cells #[.int .i64 ((rd_T26 y253 x56_2).f0), .string ((rd_T26 y253 x56_2).f1)] 26 (0, 0))) ∧ Aside0 (IsS48 w wc g240 t238 x241001_2) ∧ Aside0 (Below w.heap.size w wc))
          case first =>
           have H := HC49.out; clear HC49; replace H := Option.bind_eq_some_iff.mp H; obtain ⟨t263, A530, H⟩ := H; replace H : ((trustquorumref23_Zero.f ((rd_T26 y253 x56_2).f0) ((rd_T26 y253 x56_2).f1)).bind fun t264 => (if (t263 != t264) = true then (trustquorumlaw23_BallotsExact.j2 k2 a5 y253 (y253.length : Int) x56_2 true t238 x241001_2 ((rd_T26 y253 x56_2).f0) ((rd_T26 y253 x56_2).f1)) else ((ballots_Valid.f ((rd_T26 y253 x56_2).f0) ((rd_T26 y253 x56_2).f1)).bind fun t265 => ((trustquorumref23_Valid.f ((rd_T26 y253 x56_2).f0) ((rd_T26 y253 x56_2).f1)).bind fun t266 => (trustquorumlaw23_BallotsExact.j2 k2 a5 y253 (y253.length : Int) x56_2 (t265 != t266) t238 x241001_2 ((rd_T26 y253 x56_2).f0) ((rd_T26 y253 x56_2).f1)))))) = some r := H; have A53 := Aside0.mk A530; clear A530; replace H := Option.bind_eq_some_iff.mp H; obtain ⟨t264, A540, H⟩ := H; replace H : (if (t263 != t264) = true then (trustquorumlaw23_BallotsExact.j2 k2 a5 y253 (y253.length : Int) x56_2 true t238 x241001_2 ((rd_T26 y253 x56_2).f0) ((rd_T26 y253 x56_2).f1)) else ((ballots_Valid.f ((rd_T26 y253 x56_2).f0) ((rd_T26 y253 x56_2).f1)).bind fun t265 => ((trustquorumref23_Valid.f ((rd_T26 y253 x56_2).f0) ((rd_T26 y253 x56_2).f1)).bind fun t266 => (trustquorumlaw23_BallotsExact.j2 k2 a5 y253 (y253.length : Int) x56_2 (t265 != t266) t238 x241001_2 ((rd_T26 y253 x56_2).f0) ((rd_T26 y253 x56_2).f1))))) = some r := H; have A54 := Aside0.mk A540; clear A540
           by_cases c55 : (t263 != t264) = true
           ·
            rw [if_pos c55] at H; have c55b0 : (t263 != t264) = true := c55; (try (have c55b1 : decide (t263 = t264) = false := by simpa using c55)); (try (have c55b2 : (t263 == t264) = false := by simpa using c55)); (try (have c55b3 : ¬ (t263 = t264) := by simpa using c55)); clear c55; (first | rw [c55b0] | (simp only [i64_w, i32_w]; rw [c55b0]) | skip)
            cases k2 with
            | zero => exact absurd H (by simp [trustquorumlaw23_BallotsExact.j2])
            | succ kz_ => rw [trustquorumlaw23_BallotsExact.j2, if_pos rfl] at H; exact absurd ((Option.some.inj H).trans HRT.out) (by decide)
           ·
            rw [if_neg c55] at H; have c55b0 : (t263 != t264) = false := by simpa using c55
            (try (have c55b1 : decide (t263 = t264) = true := by simpa using c55)); (try (have c55b2 : (t263 == t264) = true := by simpa using c55)); clear c55; (first | rw [c55b0] | (simp only [i64_w, i32_w]; rw [c55b0]) | skip); replace H := Option.bind_eq_some_iff.mp H; obtain ⟨t265, A560, H⟩ := H; replace H : ((trustquorumref23_Valid.f ((rd_T26 y253 x56_2).f0) ((rd_T26 y253 x56_2).f1)).bind fun t266 => (trustquorumlaw23_BallotsExact.j2 k2 a5 y253 (y253.length : Int) x56_2 (t265 != t266) t238 x241001_2 ((rd_T26 y253 x56_2).f0) ((rd_T26 y253 x56_2).f1))) = some r := H; have A56 := Aside0.mk A560; clear A560; replace H := Option.bind_eq_some_iff.mp H; obtain ⟨t266, A570, H⟩ := H; replace H : (trustquorumlaw23_BallotsExact.j2 k2 a5 y253 (y253.length : Int) x56_2 (t265 != t266) t238 x241001_2 ((rd_T26 y253 x56_2).f0) ((rd_T26 y253 x56_2).f1)) = some r := H; have A57 := Aside0.mk A570; clear A570; have H' := Aside0.mk H; clear H
            try go_wp2
            have n0_ : Aside0 (Kd.R k26 26 ((w50.setCell ⟨gb262, 0, none⟩ (.int .i64 ((rd_T26 y253 x56_2).f0))).setCell ⟨gb262, 1, none⟩ (.string ((rd_T26 y253 x56_2).f1))) w.heap.size (fun k_ => k_ ≠ gb262) (.slice (some ad261) y253.length co45) y253) := ⟨by (with_reducible repeat (first | apply Kd.R_alloc | apply Kd.R_drewN | apply Kd.R_drew)); exact Kd.R_mono (Kd.R_far (p := ⟨gb262, 1, none⟩) (Kd.R_far (p := ⟨gb262, 0, none⟩) (Kd.R_mono HO_14.out (fun k_ hk => (⟨hk, hk.2⟩ : _ ∧ k_ ≠ gb262))) (fun _ hk => hk.2) (.int .i64 ((rd_T26 y253 x56_2).f0))) (fun _ hk => hk.2) (.string ((rd_T26 y253 x56_2).f1))) (fun _ hk => hk.1.2)⟩
            have n1_ : Aside0 (((w50.setCell ⟨gb262, 0, none⟩ (.int .i64 ((rd_T26 y253 x56_2).f0))).setCell ⟨gb262, 1, none⟩ (.string ((rd_T26 y253 x56_2).f1))).heap[gb262]? = some (.cells #[.int .i64 ((rd_T26 y253 x56_2).f0), .string ((rd_T26 y253 x56_2).f1)] 26 (0, 0))) := ⟨by (with_reducible repeat (first | refine blk_drewN ?_ _ | refine blk_drew ?_ | refine blk_alloc ?_ _)); refine blk_put (cs := #[.int .i64 ((rd_T26 y253 x56_2).f0), .string (⟨#[]⟩ : ByteArray)]) ?_ 1 _ rfl; (with_reducible repeat (first | refine blk_drewN ?_ _ | refine blk_drew ?_ | refine blk_alloc ?_ _)); refine blk_put (cs := #[.int .i64 0, .string (⟨#[]⟩ : ByteArray)]) ?_ 0 _ rfl; (with_reducible repeat (first | refine blk_drewN ?_ _ | refine blk_drew ?_ | refine blk_alloc ?_ _)); exact BK262.out⟩
            have n2_ : Aside0 (IsS48 w ((w50.setCell ⟨gb262, 0, none⟩ (.int .i64 ((rd_T26 y253 x56_2).f0))).setCell ⟨gb262, 1, none⟩ (.string ((rd_T26 y253 x56_2).f1))) g240 t238 x241001_2) := ⟨by repeat (first | (with_reducible first | exact HI240.out | apply IsS48.alloc | apply IsS48.drewN | apply IsS48.drew | apply IsS48.set_1 | refine IsS48.far ?_ NB240_262.out _) | exact HI240.out)⟩; have n3_ : Aside0 (Below w.heap.size w ((w50.setCell ⟨gb262, 0, none⟩ (.int .i64 ((rd_T26 y253 x56_2).f0))).setCell ⟨gb262, 1, none⟩ (.string ((rd_T26 y253 x56_2).f1)))) := ⟨by repeat (first | (with_reducible first | exact HB.out | apply below_alloc | apply pw_below_drewN | apply below_drew1 | refine below_set ?_ (IsS48.ge HI240.out) | refine below_set ?_ GE262.out) | exact HB.out)⟩; (try clear HO_14); (try clear BK262); (try clear HI240); (try clear HB); generalize ((w50.setCell ⟨gb262, 0, none⟩ (.int .i64 ((rd_T26 y253 x56_2).f0))).setCell ⟨gb262, 1, none⟩ (.string ((rd_T26 y253 x56_2).f1))) = w58 at n0_ n1_ n2_ n3_ ⊢; have HO_14 := n0_; have BK262 := n1_; have HI240 := n2_; have HB := n3_; clear n0_ n1_ n2_ n3_; have n0_ := Aside0.mk (Kd.R_drew HO_14.out); have n1_ := Aside0.mk (blk_drew BK262.out); have n2_ := Aside0.mk (IsS48.drew HI240.out); have n3_ := Aside0.mk (below_drew1 HB.out); clear HO_14; clear BK262; clear HI240; clear HB; have HO_14 := n0_; have BK262 := n1_; have HI240 := n2_; have HB := n3_; clear n0_ n1_ n2_ n3_; refine start_ (n := 12) (S := fun w' => w'.cell? ⟨gb262, 0, none⟩ = some (.int .i64 ((rd_T26 y253 x56_2).f0)) ∧ w'.cell? ⟨gb262, 1, none⟩ = some (.string ((rd_T26 y253 x56_2).f1))) (ds := []) #[false, false, false, false, false, false, false, false, false, false, false, false] (by kernel_rfl) rfl rfl ⟨(blk_cell BK262.out 0).trans rfl, (blk_cell BK262.out 1).trans rfl⟩ (fun hHeld => ?_); refine with_tabW trustquorumlaw23_BallotsExact.tab10 trustquorumlaw23_BallotsExact.bits10 (fun HT_ HW_ => ?_)
            generalize w58.drew = w59 at HO_14 BK262 HI240 HB hHeld ⊢; refine take_ (i := 0) (N := some 60) (v := ?_) (a' := ?_) #[true, false, false, false, false, false, false, false, false, false, false, false] rfl rfl (take_ofW HT_.out HW_.out (by kernel_rfl)) (fun _ _ _ h => h) (Or.inl ⟨by rfl, ?_⟩) hHeld ?_ ?_; rotate_left
            ·
             rintro w' ⟨s0, s1⟩; go_simp
             with_reducible rfl
            rotate_left
            ·
             simp only [Act.put, List.setIfInBounds_toArray, List.set_cons_zero, List.set_cons_succ, i64_w, i32_w]; rfl
            refine take_ (i := 2) (N := some 62) (v := ?_) (a' := ?_) #[true, false, true, false, false, false, false, false, false, false, false, false] rfl rfl (take_ofW HT_.out HW_.out (by kernel_rfl)) (fun _ _ _ h => h) (Or.inl ⟨by rfl, ?_⟩) hHeld ?_ ?_; rotate_left
            ·
             rintro w' ⟨s0, s1⟩; go_simp
             with_reducible rfl
            rotate_left
            ·
             simp only [Act.put, List.setIfInBounds_toArray, List.set_cons_zero, List.set_cons_succ, i64_w, i32_w]; rfl
            refine one_ (i := 1) (N := some 61) #[true, true, true, false, false, false, false, false, false, false, false, false] rfl rfl (one_of HT_.out (by kernel_rfl)) (by decide) (fun K hK => ?_); refine goes_ Try.func25 (by kernel_rfl) rfl #[.agg #[.int .i64 ((rd_T26 y253 x56_2).f0), .string ((rd_T26 y253 x56_2).f1)]] (by rfl) rfl rfl (by (try simp only [List.map_toArray, List.map_cons, List.map_nil]); first | done | rfl | (simp only [List.length_drop, List.length_take]; rfl)) ?_
            with_reducible refine (ballots_Zero.calls ((rd_T26 y253 x56_2).f0) ((rd_T26 y253 x56_2).f1) t263 _ A53.out).mono ?_
            rintro e w60 ⟨rfl, hb⟩; refine ⟨_, rfl, ?_⟩; have n0_ := Aside0.mk (Kd.R_below (by (with_reducible repeat (first | apply Kd.R_alloc | apply Kd.R_drewN | apply Kd.R_drew)); exact HO_14.out) hb)
            have n1_ := Aside0.mk (IsS48.below (by repeat (first | (with_reducible first | exact HI240.out | apply IsS48.alloc | apply IsS48.drewN | apply IsS48.drew | apply IsS48.set_1 | refine IsS48.far ?_ NB240_262.out _) | exact HI240.out)) hb); have n2_ := Aside0.mk (blk_below (g := gb262) (o := .cells #[.int .i64 ((rd_T26 y253 x56_2).f0), .string ((rd_T26 y253 x56_2).f1)] 26 (0, 0)) (by (with_reducible repeat (first | refine blk_drewN ?_ _ | refine blk_drew ?_ | refine blk_alloc ?_ _)); exact BK262.out) hb)
            have n3_ := Aside0.mk (below_step (by repeat (first | (with_reducible first | exact HB.out | apply below_alloc | apply pw_below_drewN | apply below_drew1 | refine below_set ?_ (IsS48.ge HI240.out) | refine below_set ?_ GE262.out) | exact HB.out)) hb); clear HO_14; clear HI240; clear BK262; clear HB; have HO_14 := n0_; have HI240 := n1_; have BK262 := n2_; have HB := n3_; clear n0_ n1_ n2_ n3_; (try clear hb); (try clear hb2); (try clear hk); (try clear hi); refine hK.out _ _ ⟨(blk_cell BK262.out 0).trans rfl, (blk_cell BK262.out 1).trans rfl⟩ (fun hHeld => ?_); clear hK K; refine norm_ (a' := ?_) ?_ ?_; rotate_left
            ·
             show Act.put _ (some 61) _ = _
             simp only [Act.put, List.setIfInBounds_toArray, List.set_cons_zero, List.set_cons_succ, i64_w, i32_w]; rfl
            refine one_ (i := 3) (N := some 63) #[true, true, true, true, false, false, false, false, false, false, false, false] rfl rfl (one_of HT_.out (by kernel_rfl)) (by decide) (fun K hK => ?_); refine goes_ Try.func29 (by kernel_rfl) rfl #[.agg #[.int .i64 ((rd_T26 y253 x56_2).f0), .string ((rd_T26 y253 x56_2).f1)]] (by rfl) rfl rfl (by (try simp only [List.map_toArray, List.map_cons, List.map_nil]); first | done | rfl | (simp only [List.length_drop, List.length_take]; rfl)) ?_
            with_reducible refine (trustquorumref23_Zero.calls ((rd_T26 y253 x56_2).f0) ((rd_T26 y253 x56_2).f1) t264 _ A54.out).mono ?_
            rintro e w61 ⟨rfl, hb⟩; refine ⟨_, rfl, ?_⟩; have n0_ := Aside0.mk (Kd.R_below (by (with_reducible repeat (first | apply Kd.R_alloc | apply Kd.R_drewN | apply Kd.R_drew)); exact HO_14.out) hb)
            have n1_ := Aside0.mk (IsS48.below (by repeat (first | (with_reducible first | exact HI240.out | apply IsS48.alloc | apply IsS48.drewN | apply IsS48.drew | apply IsS48.set_1 | refine IsS48.far ?_ NB240_262.out _) | exact HI240.out)) hb); have n2_ := Aside0.mk (blk_below (g := gb262) (o := .cells #[.int .i64 ((rd_T26 y253 x56_2).f0), .string ((rd_T26 y253 x56_2).f1)] 26 (0, 0)) (by (with_reducible repeat (first | refine blk_drewN ?_ _ | refine blk_drew ?_ | refine blk_alloc ?_ _)); exact BK262.out) hb)
            have n3_ := Aside0.mk (below_step (by repeat (first | (with_reducible first | exact HB.out | apply below_alloc | apply pw_below_drewN | apply below_drew1 | refine below_set ?_ (IsS48.ge HI240.out) | refine below_set ?_ GE262.out) | exact HB.out)) hb); clear HO_14; clear HI240; clear BK262; clear HB; have HO_14 := n0_; have HI240 := n1_; have BK262 := n2_; have HB := n3_; clear n0_ n1_ n2_ n3_; (try clear hb); (try clear hb2); (try clear hk); (try clear hi); refine hK.out _ _ ⟨(blk_cell BK262.out 0).trans rfl, (blk_cell BK262.out 1).trans rfl⟩ (fun hHeld => ?_); clear hK K; refine norm_ (a' := ?_) ?_ ?_; rotate_left
            ·
             show Act.put _ (some 63) _ = _
             simp only [Act.put, List.setIfInBounds_toArray, List.set_cons_zero, List.set_cons_succ, i64_w, i32_w]; rfl
            refine pure_ (i := 4) (N := some 64) (v := ?_) (a' := ?_) #[true, true, true, true, true, false, false, false, false, false, false, false] rfl rfl (any_of HT_.out (by kernel_rfl)) (fun _ _ _ h => h) (Or.inl ⟨by rfl, ?_⟩) ?_ ?_; rotate_left
            ·
             intro w'; go_simp
             with_reducible rfl
            rotate_left
            ·
             simp only [Act.put, List.setIfInBounds_toArray, List.set_cons_zero, List.set_cons_succ, i64_w, i32_w]; rfl
            refine pure_ (i := 5) (N := some 65) (v := ?_) (a' := ?_) #[true, true, true, true, true, true, false, false, false, false, false, false] rfl rfl (any_of HT_.out (by kernel_rfl)) (fun _ _ _ h => h) (Or.inl ⟨by rfl, ?_⟩) ?_ ?_; rotate_left
            ·
             intro w'; go_simp
             with_reducible rfl
            rotate_left
            ·
             simp only [Act.put, List.setIfInBounds_toArray, List.set_cons_zero, List.set_cons_succ, i64_w, i32_w]; rfl
            refine take_ (i := 6) (N := some 66) (v := ?_) (a' := ?_) #[true, true, true, true, true, true, true, false, false, false, false, false] rfl rfl (take_ofW HT_.out HW_.out (by kernel_rfl)) (fun _ _ _ h => h) (Or.inl ⟨by rfl, ?_⟩) hHeld ?_ ?_; rotate_left
            ·
             rintro w' ⟨s0, s1⟩; go_simp
             with_reducible rfl
            rotate_left
            ·
             simp only [Act.put, List.setIfInBounds_toArray, List.set_cons_zero, List.set_cons_succ, i64_w, i32_w]; rfl
            refine take_ (i := 8) (N := some 68) (v := ?_) (a' := ?_) #[true, true, true, true, true, true, true, false, true, false, false, false] rfl rfl (take_ofW HT_.out HW_.out (by kernel_rfl)) (fun _ _ _ h => h) (Or.inl ⟨by rfl, ?_⟩) hHeld ?_ ?_; rotate_left
            ·
             rintro w' ⟨s0, s1⟩; go_simp
             with_reducible rfl
            rotate_left
            ·
             simp only [Act.put, List.setIfInBounds_toArray, List.set_cons_zero, List.set_cons_succ, i64_w, i32_w]; rfl
            refine one_ (i := 7) (N := some 67) #[true, true, true, true, true, true, true, true, true, false, false, false] rfl rfl (one_of HT_.out (by kernel_rfl)) (by decide) (fun K hK => ?_); refine goes_ Try.func30 (by kernel_rfl) rfl #[.agg #[.int .i64 ((rd_T26 y253 x56_2).f0), .string ((rd_T26 y253 x56_2).f1)]] (by rfl) rfl rfl (by (try simp only [List.map_toArray, List.map_cons, List.map_nil]); first | done | rfl | (simp only [List.length_drop, List.length_take]; rfl)) ?_
            with_reducible refine (ballots_Valid.calls ((rd_T26 y253 x56_2).f0) ((rd_T26 y253 x56_2).f1) t265 _ A56.out).mono ?_
            rintro e w62 ⟨rfl, hb⟩; refine ⟨_, rfl, ?_⟩; have n0_ := Aside0.mk (Kd.R_below (by (with_reducible repeat (first | apply Kd.R_alloc | apply Kd.R_drewN | apply Kd.R_drew)); exact HO_14.out) hb)
            have n1_ := Aside0.mk (IsS48.below (by repeat (first | (with_reducible first | exact HI240.out | apply IsS48.alloc | apply IsS48.drewN | apply IsS48.drew | apply IsS48.set_1 | refine IsS48.far ?_ NB240_262.out _) | exact HI240.out)) hb); have n2_ := Aside0.mk (blk_below (g := gb262) (o := .cells #[.int .i64 ((rd_T26 y253 x56_2).f0), .string ((rd_T26 y253 x56_2).f1)] 26 (0, 0)) (by (with_reducible repeat (first | refine blk_drewN ?_ _ | refine blk_drew ?_ | refine blk_alloc ?_ _)); exact BK262.out) hb)
            have n3_ := Aside0.mk (below_step (by repeat (first | (with_reducible first | exact HB.out | apply below_alloc | apply pw_below_drewN | apply below_drew1 | refine below_set ?_ (IsS48.ge HI240.out) | refine below_set ?_ GE262.out) | exact HB.out)) hb); clear HO_14; clear HI240; clear BK262; clear HB; have HO_14 := n0_; have HI240 := n1_; have BK262 := n2_; have HB := n3_; clear n0_ n1_ n2_ n3_; (try clear hb); (try clear hb2); (try clear hk); (try clear hi); refine hK.out _ _ ⟨(blk_cell BK262.out 0).trans rfl, (blk_cell BK262.out 1).trans rfl⟩ (fun hHeld => ?_); clear hK K; refine norm_ (a' := ?_) ?_ ?_; rotate_left
            ·
             show Act.put _ (some 67) _ = _
             simp only [Act.put, List.setIfInBounds_toArray, List.set_cons_zero, List.set_cons_succ, i64_w, i32_w]; rfl
            refine one_ (i := 9) (N := some 69) #[true, true, true, true, true, true, true, true, true, true, false, false] rfl rfl (one_of HT_.out (by kernel_rfl)) (by decide) (fun K hK => ?_); refine goes_ Try.func31 (by kernel_rfl) rfl #[.agg #[.int .i64 ((rd_T26 y253 x56_2).f0), .string ((rd_T26 y253 x56_2).f1)]] (by rfl) rfl rfl (by (try simp only [List.map_toArray, List.map_cons, List.map_nil]); first | done | rfl | (simp only [List.length_drop, List.length_take]; rfl)) ?_
            with_reducible refine (trustquorumref23_Valid.calls ((rd_T26 y253 x56_2).f0) ((rd_T26 y253 x56_2).f1) t266 _ A57.out).mono ?_
            rintro e w63 ⟨rfl, hb⟩; refine ⟨_, rfl, ?_⟩; have n0_ := Aside0.mk (Kd.R_below (by (with_reducible repeat (first | apply Kd.R_alloc | apply Kd.R_drewN | apply Kd.R_drew)); exact HO_14.out) hb)
            have n1_ := Aside0.mk (IsS48.below (by repeat (first | (with_reducible first | exact HI240.out | apply IsS48.alloc | apply IsS48.drewN | apply IsS48.drew | apply IsS48.set_1 | refine IsS48.far ?_ NB240_262.out _) | exact HI240.out)) hb); have n2_ := Aside0.mk (blk_below (g := gb262) (o := .cells #[.int .i64 ((rd_T26 y253 x56_2).f0), .string ((rd_T26 y253 x56_2).f1)] 26 (0, 0)) (by (with_reducible repeat (first | refine blk_drewN ?_ _ | refine blk_drew ?_ | refine blk_alloc ?_ _)); exact BK262.out) hb)
            have n3_ := Aside0.mk (below_step (by repeat (first | (with_reducible first | exact HB.out | apply below_alloc | apply pw_below_drewN | apply below_drew1 | refine below_set ?_ (IsS48.ge HI240.out) | refine below_set ?_ GE262.out) | exact HB.out)) hb); clear HO_14; clear HI240; clear BK262; clear HB; have HO_14 := n0_; have HI240 := n1_; have BK262 := n2_; have HB := n3_; clear n0_ n1_ n2_ n3_; (try clear hb); (try clear hb2); (try clear hk); (try clear hi); refine hK.out _ _ ⟨(blk_cell BK262.out 0).trans rfl, (blk_cell BK262.out 1).trans rfl⟩ (fun hHeld => ?_); clear hK K; refine norm_ (a' := ?_) ?_ ?_; rotate_left
            ·
             show Act.put _ (some 69) _ = _
             simp only [Act.put, List.setIfInBounds_toArray, List.set_cons_zero, List.set_cons_succ, i64_w, i32_w]; rfl
            refine pure_ (i := 10) (N := some 70) (v := ?_) (a' := ?_) #[true, true, true, true, true, true, true, true, true, true, true, false] rfl rfl (any_of HT_.out (by kernel_rfl)) (fun _ _ _ h => h) (Or.inl ⟨by rfl, ?_⟩) ?_ ?_; rotate_left
            ·
             intro w'; go_simp
             with_reducible rfl
            rotate_left
            ·
             simp only [Act.put, List.setIfInBounds_toArray, List.set_cons_zero, List.set_cons_succ, i64_w, i32_w]; rfl
            refine pure_ (i := 11) (N := some 71) (v := ?_) (a' := ?_) #[true, true, true, true, true, true, true, true, true, true, true, true] rfl rfl (any_of HT_.out (by kernel_rfl)) (fun _ _ _ h => h) (Or.inl ⟨by rfl, ?_⟩) ?_ ?_; rotate_left
            ·
             intro w'; go_simp
             with_reducible rfl
            rotate_left
            ·
             simp only [Act.put, List.setIfInBounds_toArray, List.set_cons_zero, List.set_cons_succ, i64_w, i32_w]; rfl
            refine done_ (done_of HT_.out (by kernel_rfl)) ?_
            try go_wp2
            go_meet
            case rel => exact ⟨_, ((t265 != t266)), (by first | rfl | (simp; done) | (simp [*]; done) | (refine congrArg (Value.int .i64) ?_; unfold wrap64; omega)), H', ⟨by have := HJ6.out; have := HK2.out; first | omega | exact Nat.le_refl _⟩, ⟨by (with_reducible repeat (first | apply Kd.R_alloc | apply Kd.R_drewN | apply Kd.R_drew)); exact HO_14.out⟩, ⟨by (with_reducible repeat (first | refine blk_drewN ?_ _ | refine blk_drew ?_ | refine blk_alloc ?_ _)); exact BK262.out⟩, ⟨by repeat (first | (with_reducible first | exact HI240.out | apply IsS48.alloc | apply IsS48.drewN | apply IsS48.drew | apply IsS48.set_1 | refine IsS48.far ?_ NB240_262.out _) | exact HI240.out)⟩, ⟨by repeat (first | (with_reducible first | exact HB.out | apply below_alloc | apply pw_below_drewN | apply below_drew1 | refine below_set ?_ (IsS48.ge HI240.out) | refine below_set ?_ GE262.out) | exact HB.out)⟩⟩
          case rest =>
           clear HC49; (try clear c1); (try clear c2); (try clear p2); (try clear q2); (try clear hx2); (try clear c3); (try clear c4); (try clear c5); (try clear p6); (try clear c8); (try clear c9); (try clear c12); (try clear c14); (try clear c15); (try clear c16); (try clear c18); (try clear c24); (try clear c25); (try clear c26); (try clear p26); (try clear q26); (try clear hx26); (try clear c27); (try clear c28); (try clear c29); (try clear c30); (try clear c31); (try clear c32); (try clear c32b0); (try clear c46); (try clear c46b0); (try clear c47); (try clear c47b0); (try clear c48); (try clear c48b0); (try clear c51); (try clear c55); (try clear c55b0); (try clear c55b1); (try clear c55b2); (try clear hcz17_0); (try clear hcz17_1); (try clear hcz19_0); (try clear hcz19_1); (try clear hcz20_0); (try clear hcz20_1); (try clear hcz52_0); (try clear hcz52_1); (try clear hfz17_0); (try clear hfz17_1); (try clear hfz19_0); (try clear hfz19_1); (try clear hfz20_0); (try clear hfz20_1); (try clear hfz52_0); (try clear hfz52_1); (try clear hx261_0); (try clear hx261_1); (try clear p2); (try clear p261); (try clear p6); (try clear q261); obtain ⟨kq, x71_48, rfl, HA, HJ48, HO_14, BK262, HI240, HB⟩ := hcut
           cases kq with
           | zero => exact absurd HA.out (by simp [trustquorumlaw23_BallotsExact.j2])
           | succ kj48 =>
            have H := HA.out; clear HA; simp only [trustquorumlaw23_BallotsExact.j2] at H
            by_cases c64 : x71_48 = true
            ·
             subst c64; have H1 : (some false) = some r := by rw [if_pos rfl] at H; exact H
             clear H; have H := H1; clear H1; exact absurd ((Option.some.inj H).trans HRT.out) (by decide)
            ·
             replace c64 := Bool.eq_false_iff.mpr c64; subst c64; have H1 : (trustquorumlaw23_BallotsExact.l1 kj48 a5 y253 (y253.length : Int) x56_2 (y253.length : Int) 0 t238 x241001_2 ((rd_T26 y253 x56_2).f0) ((rd_T26 y253 x56_2).f1)) = some r := by rw [if_neg (show ¬ (false = true) by decide)] at H; exact H
             clear H; have H := H1; clear H1; have H' := Aside0.mk H; clear H
             go_wp2
             go_loopg [74] kj48 (fun kq v74 w' => ∃ (x74_4 : Int) (x241001_4 : Int), v74 = .int .i64 x74_4 ∧ Aside0 (trustquorumlaw23_BallotsExact.l1 kq a5 y253 (y253.length : Int) x56_2 (y253.length : Int) x74_4 t238 x241001_4 ((rd_T26 y253 x56_2).f0) ((rd_T26 y253 x56_2).f1) = some r) ∧ Aside0 (kq ≤ kj48) ∧ Aside0 (Kd.R k26 26 w' w.heap.size (fun k_ => k_ ≠ gb262) (.slice (some ad261) y253.length co45) y253) ∧ Aside0 (w'.heap[gb262]? = some (.cells #[.int .i64 ((rd_T26 y253 x56_2).f0), .string ((rd_T26 y253 x56_2).f1)] 26 (0, 0))) ∧ Aside0 (IsS48 w w' g240 t238 x241001_4) ∧ Aside0 (Below w.heap.size w w'))
             case atStart => exact ⟨(0), (x241001_2), (by first | rfl | (simp; done) | (simp [*]; done) | (refine congrArg (Value.int .i64) ?_; unfold wrap64; omega)), H', ⟨Nat.le_refl _⟩, ⟨by (with_reducible repeat (first | apply Kd.R_alloc | apply Kd.R_drewN | apply Kd.R_drew)); exact HO_14.out⟩, ⟨by (with_reducible repeat (first | refine blk_drewN ?_ _ | refine blk_drew ?_ | refine blk_alloc ?_ _)); exact BK262.out⟩, ⟨by repeat (first | (with_reducible first | exact HI240.out | apply IsS48.alloc | apply IsS48.drewN | apply IsS48.drew | apply IsS48.set_1 | refine IsS48.far ?_ NB240_262.out _) | exact HI240.out)⟩, ⟨by repeat (first | (with_reducible first | exact HB.out | apply below_alloc | apply pw_below_drewN | apply below_drew1 | refine below_set ?_ (IsS48.ge HI240.out) | refine below_set ?_ GE262.out) | exact HB.out)⟩⟩
             case round =>
              clear H'; (try clear c1); (try clear c2); (try clear p2); (try clear q2); (try clear hx2); (try clear c3); (try clear c4); (try clear c5); (try clear c6); (try clear p6); (try clear c8); (try clear c9); (try clear c12); (try clear c14); (try clear c15); (try clear c16); (try clear c18); (try clear c24); (try clear c25); (try clear c26); (try clear p26); (try clear q26); (try clear hx26); (try clear c27); (try clear c28); (try clear c29); (try clear c30); (try clear c31); (try clear c32); (try clear c32b0); (try clear c46); (try clear c46b0); (try clear c47); (try clear c47b0); (try clear c48); (try clear c48b0); (try clear c51); (try clear c55); (try clear c55b0); (try clear c55b1); (try clear c55b2); (try clear c64); (try clear p64); (try clear hcz17_0); (try clear hcz17_1); (try clear hcz19_0); (try clear hcz19_1); (try clear hcz20_0); (try clear hcz20_1); (try clear hcz52_0); (try clear hcz52_1); (try clear hfz17_0); (try clear hfz17_1); (try clear hfz19_0); (try clear hfz19_1); (try clear hfz20_0); (try clear hfz20_1); (try clear hfz52_0); (try clear hfz52_1); (try clear hx261_0); (try clear hx261_1); (try clear p2); (try clear p26); (try clear p261); (try clear p6); (try clear q2); (try clear q26); (try clear q261); obtain ⟨x74_4, x241001_4, rfl, HA, HK4, HO_14, BK262, HI240, HB⟩ := hrel
              cases gk with
              | zero => exact absurd HA.out (by simp [trustquorumlaw23_BallotsExact.l1])
              | succ k4 =>
               have H := HA.out; clear HA; simp only [trustquorumlaw23_BallotsExact.l1] at H
               by_cases c65 : x74_4 < (y253.length : Int)
               ·
                rw [if_pos c65] at H; have c65b0 : decide (x74_4 < (y253.length : Int)) = true := decide_eq_true c65; clear c65
                by_cases c66 : 0 ≤ x74_4
                ·
                 rw [if_pos c66] at H; have c66b0 : decide (0 ≤ x74_4) = true := decide_eq_true c66; clear c66
                 by_cases c67 : x74_4 < (y253.length : Int)
                 ·
                  rw [if_pos c67] at H; have c67b0 : decide (x74_4 < (y253.length : Int)) = true := decide_eq_true c67; clear c67; have HC68 := Aside0.mk H; clear H; have p267 : 0 ≤ (x74_4 : Int) := of_decide_eq_true (by first | (with_reducible assumption) | assumption); have q267 : x74_4 < (y253.length : Int) := of_decide_eq_true (by first | (with_reducible assumption) | assumption); obtain ⟨ad267, e267, hx267_0, hx267_1⟩ := at_T26 (Kd.R_reads' HO_14.out).2.2 x74_4 p267 q267; obtain rfl : ad261 = ad267 := (by injection e267); replace p267 := eq_true p267; replace q267 := eq_true q267
                  go_upto_region 15 with (first | ((with_reducible refine gate_dst (N := 18) rfl ?_); (try (refine gate_guard (by rfl) ?_; dsimp only)); refine box_event ?hg (N := 18) ?hd (cs := #[.int .i64 0, .string (⟨#[]⟩ : ByteArray)]) (t := 26) ?hr ?_; (case hd => rfl); (case hg => rfl); (case hr => first | (go_simp; done) | (go_simp; rfl)); intro gb268 hg w69 hbox hb; have n0_ := Aside0.mk (Kd.R_below (Kd.R_elderB (by (with_reducible repeat (first | apply Kd.R_alloc | apply Kd.R_drewN | apply Kd.R_drew)); exact HO_14.out) gb268 (Nat.le_of_eq hg.symm)) hb); have n1_ := Aside0.mk (blk_below (g := gb262) (o := .cells #[.int .i64 ((rd_T26 y253 x56_2).f0), .string ((rd_T26 y253 x56_2).f1)] 26 (0, 0)) (by (with_reducible repeat (first | refine blk_drewN ?_ _ | refine blk_drew ?_ | refine blk_alloc ?_ _)); exact BK262.out) hb); have n2_ := Aside0.mk (IsS48.below (by repeat (first | (with_reducible first | exact HI240.out | apply IsS48.alloc | apply IsS48.drewN | apply IsS48.drew | apply IsS48.set_1 | refine IsS48.far ?_ NB240_262.out _) | exact HI240.out)) hb); have n3_ := Aside0.mk (below_step (by repeat (first | (with_reducible first | exact HB.out | apply below_alloc | apply pw_below_drewN | apply below_drew1 | refine below_set ?_ (IsS48.ge HI240.out) | refine below_set ?_ GE262.out) | exact HB.out)) hb); have n4_ := Aside0.mk (hbox); have n5_ := Aside0.mk ((by rw [hg]; exact (below_size (by repeat (first | (with_reducible first | exact HB.out | apply below_alloc | apply pw_below_drewN | apply below_drew1 | refine below_set ?_ (IsS48.ge HI240.out) | refine below_set ?_ GE262.out) | exact HB.out))) : w.heap.size ≤ gb268)); have n6_ := Aside0.mk ((by rw [hg]; exact (below_size (by repeat (first | (with_reducible first | exact HB.out | apply below_alloc | apply pw_below_drewN | apply below_drew1 | refine below_set ?_ (IsS48.ge HI240.out) | refine below_set ?_ GE262.out) | exact HB.out))) : w.heap.size ≤ gb268)); have n7_ := Aside0.mk ((by rw [hg]; exact Nat.ne_of_lt (blk_lt (g := gb262) (o := .cells #[.int .i64 ((rd_T26 y253 x56_2).f0), .string ((rd_T26 y253 x56_2).f1)] 26 (0, 0)) (by (with_reducible repeat (first | refine blk_drewN ?_ _ | refine blk_drew ?_ | refine blk_alloc ?_ _)); exact BK262.out)) : gb262 ≠ gb268)); have n8_ := Aside0.mk ((by rw [hg]; exact Nat.ne_of_gt (blk_lt (g := gb262) (o := .cells #[.int .i64 ((rd_T26 y253 x56_2).f0), .string ((rd_T26 y253 x56_2).f1)] 26 (0, 0)) (by (with_reducible repeat (first | refine blk_drewN ?_ _ | refine blk_drew ?_ | refine blk_alloc ?_ _)); exact BK262.out)) : gb268 ≠ gb262)); have n9_ := Aside0.mk ((by rw [hg]; exact Nat.ne_of_lt (IsS48.lt (show IsS48 w _ g240 t238 x241001_4 from by repeat (first | (with_reducible first | exact HI240.out | apply IsS48.alloc | apply IsS48.drewN | apply IsS48.drew | apply IsS48.set_1 | refine IsS48.far ?_ NB240_262.out _) | exact HI240.out))) : g240 ≠ gb268)); have n10_ := Aside0.mk ((by rw [hg]; exact Nat.ne_of_gt (IsS48.lt (show IsS48 w _ g240 t238 x241001_4 from by repeat (first | (with_reducible first | exact HI240.out | apply IsS48.alloc | apply IsS48.drewN | apply IsS48.drew | apply IsS48.set_1 | refine IsS48.far ?_ NB240_262.out _) | exact HI240.out))) : gb268 ≠ g240)); clear HO_14; clear BK262; clear HI240; clear HB; have HO_14 := n0_; have BK262 := n1_; have HI240 := n2_; have HB := n3_; have BK268 := n4_; have GW268 := n5_; have GE268 := n6_; have NB262_268 := n7_; have NB268_262 := n8_; have NB240_268 := n9_; have NB268_240 := n10_; clear n0_ n1_ n2_ n3_ n4_ n5_ n6_ n7_ n8_ n9_ n10_; clear hb hbox hg; have hnb70 := NB268_262.out; have hnc70 := NB262_268.out; have hnb71 := NB268_240.out; have hnc71 := NB240_268.out; have hcz72_0 : w69.cell? ⟨gb268, 0, none⟩ = some (.int .i64 0) := (blk_cell BK268.out 0).trans rfl; have hcz72_1 : w69.cell? ⟨gb268, 1, none⟩ = some (.string (⟨#[]⟩ : ByteArray)) := (blk_cell BK268.out 1).trans rfl; have hfz72_0 := blk_frozen BK268.out 0; have hfz72_1 := blk_frozen BK268.out 1))
                  (try simp only [Act.put, List.setIfInBounds_toArray, List.set_cons_zero, List.set_cons_succ])
                  go_cut [124] (fun v124 wc => ∃ (kq : Nat) (x124_67 : Bool), v124 = .bool x124_67 ∧ Aside0 (trustquorumlaw23_BallotsExact.j4 kq a5 y253 (y253.length : Int) x56_2 (y253.length : Int) x74_4 x124_67 t238 x241001_4 ((rd_T26 y253 x56_2).f0) ((rd_T26 y253 x56_2).f1) ((rd_T26 y253 x74_4).f0) ((rd_T26 y253 x74_4).f1) = some r) ∧ Aside0 (kq ≤ k4) ∧ Aside0 (Kd.R k26 26 wc w.heap.size (fun k_ => k_ ≠ gb262 ∧ k_ ≠ gb268) (.slice (some ad261) y253.length co45) y253) ∧ Aside0 (wc.heap[gb262]? = some (.cells #[.int .i64 ((rd_T26 y253 x56_2).f0), .string ((rd_T26 y253 x56_2).f1)] 26 (0, 0))) ∧ Aside0 (wc.heap[gb268]? = some (.cells #[.int .i64 ((rd_T26 y253 x74_4).f0), .string ((rd_T26 y253 x74_4).f1)] 26 (0, 0))) ∧ Aside0 (IsS48 w wc g240 t238 x241001_4) ∧ Aside0 (Below w.heap.size w wc))
                  case first =>
                   have H := HC68.out; clear HC68; replace H := Option.bind_eq_some_iff.mp H; obtain ⟨t269, A730, H⟩ := H; replace H : ((trustquorumref23_Less.f ((rd_T26 y253 x56_2).f0) ((rd_T26 y253 x56_2).f1) ((rd_T26 y253 x74_4).f0) ((rd_T26 y253 x74_4).f1)).bind fun t270 => (if (t269 != t270) = true then (trustquorumlaw23_BallotsExact.j4 k4 a5 y253 (y253.length : Int) x56_2 (y253.length : Int) x74_4 true t238 x241001_4 ((rd_T26 y253 x56_2).f0) ((rd_T26 y253 x56_2).f1) ((rd_T26 y253 x74_4).f0) ((rd_T26 y253 x74_4).f1)) else ((ballots_LessValue.f k4 ((rd_T26 y253 x56_2).f1) ((rd_T26 y253 x74_4).f1)).bind fun t271 => ((trustquorumref23_LessValue.f ((rd_T26 y253 x56_2).f1) ((rd_T26 y253 x74_4).f1)).bind fun t272 => (if (t271 != t272) = true then (trustquorumlaw23_BallotsExact.j4 k4 a5 y253 (y253.length : Int) x56_2 (y253.length : Int) x74_4 true t238 x241001_4 ((rd_T26 y253 x56_2).f0) ((rd_T26 y253 x56_2).f1) ((rd_T26 y253 x74_4).f0) ((rd_T26 y253 x74_4).f1)) else ((ballots_Compatible.f ((rd_T26 y253 x56_2).f0) ((rd_T26 y253 x56_2).f1) ((rd_T26 y253 x74_4).f0) ((rd_T26 y253 x74_4).f1)).bind fun t273 => ((trustquorumref23_Compatible.f ((rd_T26 y253 x56_2).f0) ((rd_T26 y253 x56_2).f1) ((rd_T26 y253 x74_4).f0) ((rd_T26 y253 x74_4).f1)).bind fun t274 => (if (t273 != t274) = true then (trustquorumlaw23_BallotsExact.j4 k4 a5 y253 (y253.length : Int) x56_2 (y253.length : Int) x74_4 true t238 x241001_4 ((rd_T26 y253 x56_2).f0) ((rd_T26 y253 x56_2).f1) ((rd_T26 y253 x74_4).f0) ((rd_T26 y253 x74_4).f1)) else ((ballots_Covers.f ((rd_T26 y253 x56_2).f0) ((rd_T26 y253 x56_2).f1) ((rd_T26 y253 x74_4).f0) ((rd_T26 y253 x74_4).f1)).bind fun t275 => ((trustquorumref23_Covers.f ((rd_T26 y253 x56_2).f0) ((rd_T26 y253 x56_2).f1) ((rd_T26 y253 x74_4).f0) ((rd_T26 y253 x74_4).f1)).bind fun t276 => (if (t275 != t276) = true then (trustquorumlaw23_BallotsExact.j4 k4 a5 y253 (y253.length : Int) x56_2 (y253.length : Int) x74_4 true t238 x241001_4 ((rd_T26 y253 x56_2).f0) ((rd_T26 y253 x56_2).f1) ((rd_T26 y253 x74_4).f0) ((rd_T26 y253 x74_4).f1)) else ((ballots_Aborts.f k4 ((rd_T26 y253 x56_2).f0) ((rd_T26 y253 x56_2).f1) ((rd_T26 y253 x74_4).f0) ((rd_T26 y253 x74_4).f1)).bind fun t277 => ((trustquorumref23_Aborts.f ((rd_T26 y253 x56_2).f0) ((rd_T26 y253 x56_2).f1) ((rd_T26 y253 x74_4).f0) ((rd_T26 y253 x74_4).f1)).bind fun t278 => (trustquorumlaw23_BallotsExact.j4 k4 a5 y253 (y253.length : Int) x56_2 (y253.length : Int) x74_4 (t277 != t278) t238 x241001_4 ((rd_T26 y253 x56_2).f0) ((rd_T26 y253 x56_2).f1) ((rd_T26 y253 x74_4).f0) ((rd_T26 y253 x74_4).f1))))))))))))))) = some r := H
                   have A73 := Aside0.mk A730; clear A730; replace H := Option.bind_eq_some_iff.mp H; obtain ⟨t270, A740, H⟩ := H; replace H : (if (t269 != t270) = true then (trustquorumlaw23_BallotsExact.j4 k4 a5 y253 (y253.length : Int) x56_2 (y253.length : Int) x74_4 true t238 x241001_4 ((rd_T26 y253 x56_2).f0) ((rd_T26 y253 x56_2).f1) ((rd_T26 y253 x74_4).f0) ((rd_T26 y253 x74_4).f1)) else ((ballots_LessValue.f k4 ((rd_T26 y253 x56_2).f1) ((rd_T26 y253 x74_4).f1)).bind fun t271 => ((trustquorumref23_LessValue.f ((rd_T26 y253 x56_2).f1) ((rd_T26 y253 x74_4).f1)).bind fun t272 => (if (t271 != t272) = true then (trustquorumlaw23_BallotsExact.j4 k4 a5 y253 (y253.length : Int) x56_2 (y253.length : Int) x74_4 true t238 x241001_4 ((rd_T26 y253 x56_2).f0) ((rd_T26 y253 x56_2).f1) ((rd_T26 y253 x74_4).f0) ((rd_T26 y253 x74_4).f1)) else ((ballots_Compatible.f ((rd_T26 y253 x56_2).f0) ((rd_T26 y253 x56_2).f1) ((rd_T26 y253 x74_4).f0) ((rd_T26 y253 x74_4).f1)).bind fun t273 => ((trustquorumref23_Compatible.f ((rd_T26 y253 x56_2).f0) ((rd_T26 y253 x56_2).f1) ((rd_T26 y253 x74_4).f0) ((rd_T26 y253 x74_4).f1)).bind fun t274 => (if (t273 != t274) = true then (trustquorumlaw23_BallotsExact.j4 k4 a5 y253 (y253.length : Int) x56_2 (y253.length : Int) x74_4 true t238 x241001_4 ((rd_T26 y253 x56_2).f0) ((rd_T26 y253 x56_2).f1) ((rd_T26 y253 x74_4).f0) ((rd_T26 y253 x74_4).f1)) else ((ballots_Covers.f ((rd_T26 y253 x56_2).f0) ((rd_T26 y253 x56_2).f1) ((rd_T26 y253 x74_4).f0) ((rd_T26 y253 x74_4).f1)).bind fun t275 => ((trustquorumref23_Covers.f ((rd_T26 y253 x56_2).f0) ((rd_T26 y253 x56_2).f1) ((rd_T26 y253 x74_4).f0) ((rd_T26 y253 x74_4).f1)).bind fun t276 => (if (t275 != t276) = true then (trustquorumlaw23_BallotsExact.j4 k4 a5 y253 (y253.length : Int) x56_2 (y253.length : Int) x74_4 true t238 x241001_4 ((rd_T26 y253 x56_2).f0) ((rd_T26 y253 x56_2).f1) ((rd_T26 y253 x74_4).f0) ((rd_T26 y253 x74_4).f1)) else ((ballots_Aborts.f k4 ((rd_T26 y253 x56_2).f0) ((rd_T26 y253 x56_2).f1) ((rd_T26 y253 x74_4).f0) ((rd_T26 y253 x74_4).f1)).bind fun t277 => ((trustquorumref23_Aborts.f ((rd_T26 y253 x56_2).f0) ((rd_T26 y253 x56_2).f1) ((rd_T26 y253 x74_4).f0) ((rd_T26 y253 x74_4).f1)).bind fun t278 => (trustquorumlaw23_BallotsExact.j4 k4 a5 y253 (y253.length : Int) x56_2 (y253.length : Int) x74_4 (t277 != t278) t238 x241001_4 ((rd_T26 y253 x56_2).f0) ((rd_T26 y253 x56_2).f1) ((rd_T26 y253 x74_4).f0) ((rd_T26 y253 x74_4).f1)))))))))))))) = some r := H
                   have A74 := Aside0.mk A740; clear A740
                   by_cases c75 : (t269 != t270) = true
                   ·
                    rw [if_pos c75] at H; have c75b0 : (t269 != t270) = true := c75; (try (have c75b1 : decide (t269 = t270) = false := by simpa using c75)); (try (have c75b2 : (t269 == t270) = false := by simpa using c75)); (try (have c75b3 : ¬ (t269 = t270) := by simpa using c75)); clear c75; (first | rw [c75b0] | (simp only [i64_w, i32_w]; rw [c75b0]) | skip)
                    cases k4 with
                    | zero => exact absurd H (by simp [trustquorumlaw23_BallotsExact.j4])
                    | succ kz_ => rw [trustquorumlaw23_BallotsExact.j4, if_pos rfl] at H; exact absurd ((Option.some.inj H).trans HRT.out) (by decide)
                   ·
                    rw [if_neg c75] at H; have c75b0 : (t269 != t270) = false := by simpa using c75
                    (try (have c75b1 : decide (t269 = t270) = true := by simpa using c75)); (try (have c75b2 : (t269 == t270) = true := by simpa using c75)); clear c75; (first | rw [c75b0] | (simp only [i64_w, i32_w]; rw [c75b0]) | skip); replace H := Option.bind_eq_some_iff.mp H; obtain ⟨t271, A760, H⟩ := H; replace H : ((trustquorumref23_LessValue.f ((rd_T26 y253 x56_2).f1) ((rd_T26 y253 x74_4).f1)).bind fun t272 => (if (t271 != t272) = true then (trustquorumlaw23_BallotsExact.j4 k4 a5 y253 (y253.length : Int) x56_2 (y253.length : Int) x74_4 true t238 x241001_4 ((rd_T26 y253 x56_2).f0) ((rd_T26 y253 x56_2).f1) ((rd_T26 y253 x74_4).f0) ((rd_T26 y253 x74_4).f1)) else ((ballots_Compatible.f ((rd_T26 y253 x56_2).f0) ((rd_T26 y253 x56_2).f1) ((rd_T26 y253 x74_4).f0) ((rd_T26 y253 x74_4).f1)).bind fun t273 => ((trustquorumref23_Compatible.f ((rd_T26 y253 x56_2).f0) ((rd_T26 y253 x56_2).f1) ((rd_T26 y253 x74_4).f0) ((rd_T26 y253 x74_4).f1)).bind fun t274 => (if (t273 != t274) = true then (trustquorumlaw23_BallotsExact.j4 k4 a5 y253 (y253.length : Int) x56_2 (y253.length : Int) x74_4 true t238 x241001_4 ((rd_T26 y253 x56_2).f0) ((rd_T26 y253 x56_2).f1) ((rd_T26 y253 x74_4).f0) ((rd_T26 y253 x74_4).f1)) else ((ballots_Covers.f ((rd_T26 y253 x56_2).f0) ((rd_T26 y253 x56_2).f1) ((rd_T26 y253 x74_4).f0) ((rd_T26 y253 x74_4).f1)).bind fun t275 => ((trustquorumref23_Covers.f ((rd_T26 y253 x56_2).f0) ((rd_T26 y253 x56_2).f1) ((rd_T26 y253 x74_4).f0) ((rd_T26 y253 x74_4).f1)).bind fun t276 => (if (t275 != t276) = true then (trustquorumlaw23_BallotsExact.j4 k4 a5 y253 (y253.length : Int) x56_2 (y253.length : Int) x74_4 true t238 x241001_4 ((rd_T26 y253 x56_2).f0) ((rd_T26 y253 x56_2).f1) ((rd_T26 y253 x74_4).f0) ((rd_T26 y253 x74_4).f1)) else ((ballots_Aborts.f k4 ((rd_T26 y253 x56_2).f0) ((rd_T26 y253 x56_2).f1) ((rd_T26 y253 x74_4).f0) ((rd_T26 y253 x74_4).f1)).bind fun t277 => ((trustquorumref23_Aborts.f ((rd_T26 y253 x56_2).f0) ((rd_T26 y253 x56_2).f1) ((rd_T26 y253 x74_4).f0) ((rd_T26 y253 x74_4).f1)).bind fun t278 => (trustquorumlaw23_BallotsExact.j4 k4 a5 y253 (y253.length : Int) x56_2 (y253.length : Int) x74_4 (t277 != t278) t238 x241001_4 ((rd_T26 y253 x56_2).f0) ((rd_T26 y253 x56_2).f1) ((rd_T26 y253 x74_4).f0) ((rd_T26 y253 x74_4).f1)))))))))))) = some r := H
                    have A76 := Aside0.mk A760; clear A760; replace H := Option.bind_eq_some_iff.mp H; obtain ⟨t272, A770, H⟩ := H; replace H : (if (t271 != t272) = true then (trustquorumlaw23_BallotsExact.j4 k4 a5 y253 (y253.length : Int) x56_2 (y253.length : Int) x74_4 true t238 x241001_4 ((rd_T26 y253 x56_2).f0) ((rd_T26 y253 x56_2).f1) ((rd_T26 y253 x74_4).f0) ((rd_T26 y253 x74_4).f1)) else ((ballots_Compatible.f ((rd_T26 y253 x56_2).f0) ((rd_T26 y253 x56_2).f1) ((rd_T26 y253 x74_4).f0) ((rd_T26 y253 x74_4).f1)).bind fun t273 => ((trustquorumref23_Compatible.f ((rd_T26 y253 x56_2).f0) ((rd_T26 y253 x56_2).f1) ((rd_T26 y253 x74_4).f0) ((rd_T26 y253 x74_4).f1)).bind fun t274 => (if (t273 != t274) = true then (trustquorumlaw23_BallotsExact.j4 k4 a5 y253 (y253.length : Int) x56_2 (y253.length : Int) x74_4 true t238 x241001_4 ((rd_T26 y253 x56_2).f0) ((rd_T26 y253 x56_2).f1) ((rd_T26 y253 x74_4).f0) ((rd_T26 y253 x74_4).f1)) else ((ballots_Covers.f ((rd_T26 y253 x56_2).f0) ((rd_T26 y253 x56_2).f1) ((rd_T26 y253 x74_4).f0) ((rd_T26 y253 x74_4).f1)).bind fun t275 => ((trustquorumref23_Covers.f ((rd_T26 y253 x56_2).f0) ((rd_T26 y253 x56_2).f1) ((rd_T26 y253 x74_4).f0) ((rd_T26 y253 x74_4).f1)).bind fun t276 => (if (t275 != t276) = true then (trustquorumlaw23_BallotsExact.j4 k4 a5 y253 (y253.length : Int) x56_2 (y253.length : Int) x74_4 true t238 x241001_4 ((rd_T26 y253 x56_2).f0) ((rd_T26 y253 x56_2).f1) ((rd_T26 y253 x74_4).f0) ((rd_T26 y253 x74_4).f1)) else ((ballots_Aborts.f k4 ((rd_T26 y253 x56_2).f0) ((rd_T26 y253 x56_2).f1) ((rd_T26 y253 x74_4).f0) ((rd_T26 y253 x74_4).f1)).bind fun t277 => ((trustquorumref23_Aborts.f ((rd_T26 y253 x56_2).f0) ((rd_T26 y253 x56_2).f1) ((rd_T26 y253 x74_4).f0) ((rd_T26 y253 x74_4).f1)).bind fun t278 => (trustquorumlaw23_BallotsExact.j4 k4 a5 y253 (y253.length : Int) x56_2 (y253.length : Int) x74_4 (t277 != t278) t238 x241001_4 ((rd_T26 y253 x56_2).f0) ((rd_T26 y253 x56_2).f1) ((rd_T26 y253 x74_4).f0) ((rd_T26 y253 x74_4).f1))))))))))) = some r := H
                    have A77 := Aside0.mk A770; clear A770
                    by_cases c78 : (t271 != t272) = true
                    ·
                     rw [if_pos c78] at H; have c78b0 : (t271 != t272) = true := c78; (try (have c78b1 : decide (t271 = t272) = false := by simpa using c78)); (try (have c78b2 : (t271 == t272) = false := by simpa using c78)); (try (have c78b3 : ¬ (t271 = t272) := by simpa using c78)); clear c78
                     cases k4 with
                     | zero => exact absurd H (by simp [trustquorumlaw23_BallotsExact.j4])
                     | succ kz_ => rw [trustquorumlaw23_BallotsExact.j4, if_pos rfl] at H; exact absurd ((Option.some.inj H).trans HRT.out) (by decide)
                    ·
                     rw [if_neg c78] at H; have c78b0 : (t271 != t272) = false := by simpa using c78
                     (try (have c78b1 : decide (t271 = t272) = true := by simpa using c78)); (try (have c78b2 : (t271 == t272) = true := by simpa using c78)); clear c78; replace H := Option.bind_eq_some_iff.mp H; obtain ⟨t273, A790, H⟩ := H; replace H : ((trustquorumref23_Compatible.f ((rd_T26 y253 x56_2).f0) ((rd_T26 y253 x56_2).f1) ((rd_T26 y253 x74_4).f0) ((rd_T26 y253 x74_4).f1)).bind fun t274 => (if (t273 != t274) = true then (trustquorumlaw23_BallotsExact.j4 k4 a5 y253 (y253.length : Int) x56_2 (y253.length : Int) x74_4 true t238 x241001_4 ((rd_T26 y253 x56_2).f0) ((rd_T26 y253 x56_2).f1) ((rd_T26 y253 x74_4).f0) ((rd_T26 y253 x74_4).f1)) else ((ballots_Covers.f ((rd_T26 y253 x56_2).f0) ((rd_T26 y253 x56_2).f1) ((rd_T26 y253 x74_4).f0) ((rd_T26 y253 x74_4).f1)).bind fun t275 => ((trustquorumref23_Covers.f ((rd_T26 y253 x56_2).f0) ((rd_T26 y253 x56_2).f1) ((rd_T26 y253 x74_4).f0) ((rd_T26 y253 x74_4).f1)).bind fun t276 => (if (t275 != t276) = true then (trustquorumlaw23_BallotsExact.j4 k4 a5 y253 (y253.length : Int) x56_2 (y253.length : Int) x74_4 true t238 x241001_4 ((rd_T26 y253 x56_2).f0) ((rd_T26 y253 x56_2).f1) ((rd_T26 y253 x74_4).f0) ((rd_T26 y253 x74_4).f1)) else ((ballots_Aborts.f k4 ((rd_T26 y253 x56_2).f0) ((rd_T26 y253 x56_2).f1) ((rd_T26 y253 x74_4).f0) ((rd_T26 y253 x74_4).f1)).bind fun t277 => ((trustquorumref23_Aborts.f ((rd_T26 y253 x56_2).f0) ((rd_T26 y253 x56_2).f1) ((rd_T26 y253 x74_4).f0) ((rd_T26 y253 x74_4).f1)).bind fun t278 => (trustquorumlaw23_BallotsExact.j4 k4 a5 y253 (y253.length : Int) x56_2 (y253.length : Int) x74_4 (t277 != t278) t238 x241001_4 ((rd_T26 y253 x56_2).f0) ((rd_T26 y253 x56_2).f1) ((rd_T26 y253 x74_4).f0) ((rd_T26 y253 x74_4).f1))))))))) = some r := H
                     have A79 := Aside0.mk A790; clear A790; replace H := Option.bind_eq_some_iff.mp H; obtain ⟨t274, A800, H⟩ := H; replace H : (if (t273 != t274) = true then (trustquorumlaw23_BallotsExact.j4 k4 a5 y253 (y253.length : Int) x56_2 (y253.length : Int) x74_4 true t238 x241001_4 ((rd_T26 y253 x56_2).f0) ((rd_T26 y253 x56_2).f1) ((rd_T26 y253 x74_4).f0) ((rd_T26 y253 x74_4).f1)) else ((ballots_Covers.f ((rd_T26 y253 x56_2).f0) ((rd_T26 y253 x56_2).f1) ((rd_T26 y253 x74_4).f0) ((rd_T26 y253 x74_4).f1)).bind fun t275 => ((trustquorumref23_Covers.f ((rd_T26 y253 x56_2).f0) ((rd_T26 y253 x56_2).f1) ((rd_T26 y253 x74_4).f0) ((rd_T26 y253 x74_4).f1)).bind fun t276 => (if (t275 != t276) = true then (trustquorumlaw23_BallotsExact.j4 k4 a5 y253 (y253.length : Int) x56_2 (y253.length : Int) x74_4 true t238 x241001_4 ((rd_T26 y253 x56_2).f0) ((rd_T26 y253 x56_2).f1) ((rd_T26 y253 x74_4).f0) ((rd_T26 y253 x74_4).f1)) else ((ballots_Aborts.f k4 ((rd_T26 y253 x56_2).f0) ((rd_T26 y253 x56_2).f1) ((rd_T26 y253 x74_4).f0) ((rd_T26 y253 x74_4).f1)).bind fun t277 => ((trustquorumref23_Aborts.f ((rd_T26 y253 x56_2).f0) ((rd_T26 y253 x56_2).f1) ((rd_T26 y253 x74_4).f0) ((rd_T26 y253 x74_4).f1)).bind fun t278 => (trustquorumlaw23_BallotsExact.j4 k4 a5 y253 (y253.length : Int) x56_2 (y253.length : Int) x74_4 (t277 != t278) t238 x241001_4 ((rd_T26 y253 x56_2).f0) ((rd_T26 y253 x56_2).f1) ((rd_T26 y253 x74_4).f0) ((rd_T26 y253 x74_4).f1)))))))) = some r := H; have A80 := Aside0.mk A800; clear A800
                     by_cases c81 : (t273 != t274) = true
                     ·
                      rw [if_pos c81] at H; have c81b0 : (t273 != t274) = true := c81; (try (have c81b1 : decide (t273 = t274) = false := by simpa using c81)); (try (have c81b2 : (t273 == t274) = false := by simpa using c81)); (try (have c81b3 : ¬ (t273 = t274) := by simpa using c81)); clear c81
                      cases k4 with
                      | zero => exact absurd H (by simp [trustquorumlaw23_BallotsExact.j4])
                      | succ kz_ => rw [trustquorumlaw23_BallotsExact.j4, if_pos rfl] at H; exact absurd ((Option.some.inj H).trans HRT.out) (by decide)
                     ·
                      rw [if_neg c81] at H; have c81b0 : (t273 != t274) = false := by simpa using c81
                      (try (have c81b1 : decide (t273 = t274) = true := by simpa using c81)); (try (have c81b2 : (t273 == t274) = true := by simpa using c81)); clear c81; replace H := Option.bind_eq_some_iff.mp H; obtain ⟨t275, A820, H⟩ := H; replace H : ((trustquorumref23_Covers.f ((rd_T26 y253 x56_2).f0) ((rd_T26 y253 x56_2).f1) ((rd_T26 y253 x74_4).f0) ((rd_T26 y253 x74_4).f1)).bind fun t276 => (if (t275 != t276) = true then (trustquorumlaw23_BallotsExact.j4 k4 a5 y253 (y253.length : Int) x56_2 (y253.length : Int) x74_4 true t238 x241001_4 ((rd_T26 y253 x56_2).f0) ((rd_T26 y253 x56_2).f1) ((rd_T26 y253 x74_4).f0) ((rd_T26 y253 x74_4).f1)) else ((ballots_Aborts.f k4 ((rd_T26 y253 x56_2).f0) ((rd_T26 y253 x56_2).f1) ((rd_T26 y253 x74_4).f0) ((rd_T26 y253 x74_4).f1)).bind fun t277 => ((trustquorumref23_Aborts.f ((rd_T26 y253 x56_2).f0) ((rd_T26 y253 x56_2).f1) ((rd_T26 y253 x74_4).f0) ((rd_T26 y253 x74_4).f1)).bind fun t278 => (trustquorumlaw23_BallotsExact.j4 k4 a5 y253 (y253.length : Int) x56_2 (y253.length : Int) x74_4 (t277 != t278) t238 x241001_4 ((rd_T26 y253 x56_2).f0) ((rd_T26 y253 x56_2).f1) ((rd_T26 y253 x74_4).f0) ((rd_T26 y253 x74_4).f1)))))) = some r := H; have A82 := Aside0.mk A820; clear A820; replace H := Option.bind_eq_some_iff.mp H; obtain ⟨t276, A830, H⟩ := H; replace H : (if (t275 != t276) = true then (trustquorumlaw23_BallotsExact.j4 k4 a5 y253 (y253.length : Int) x56_2 (y253.length : Int) x74_4 true t238 x241001_4 ((rd_T26 y253 x56_2).f0) ((rd_T26 y253 x56_2).f1) ((rd_T26 y253 x74_4).f0) ((rd_T26 y253 x74_4).f1)) else ((ballots_Aborts.f k4 ((rd_T26 y253 x56_2).f0) ((rd_T26 y253 x56_2).f1) ((rd_T26 y253 x74_4).f0) ((rd_T26 y253 x74_4).f1)).bind fun t277 => ((trustquorumref23_Aborts.f ((rd_T26 y253 x56_2).f0) ((rd_T26 y253 x56_2).f1) ((rd_T26 y253 x74_4).f0) ((rd_T26 y253 x74_4).f1)).bind fun t278 => (trustquorumlaw23_BallotsExact.j4 k4 a5 y253 (y253.length : Int) x56_2 (y253.length : Int) x74_4 (t277 != t278) t238 x241001_4 ((rd_T26 y253 x56_2).f0) ((rd_T26 y253 x56_2).f1) ((rd_T26 y253 x74_4).f0) ((rd_T26 y253 x74_4).f1))))) = some r := H
                      have A83 := Aside0.mk A830; clear A830
                      by_cases c84 : (t275 != t276) = true
                      ·
                       rw [if_pos c84] at H; have c84b0 : (t275 != t276) = true := c84; (try (have c84b1 : decide (t275 = t276) = false := by simpa using c84)); (try (have c84b2 : (t275 == t276) = false := by simpa using c84)); (try (have c84b3 : ¬ (t275 = t276) := by simpa using c84)); clear c84
                       cases k4 with
                       | zero => exact absurd H (by simp [trustquorumlaw23_BallotsExact.j4])
                       | succ kz_ => rw [trustquorumlaw23_BallotsExact.j4, if_pos rfl] at H; exact absurd ((Option.some.inj H).trans HRT.out) (by decide)
                      ·
                       rw [if_neg c84] at H; have c84b0 : (t275 != t276) = false := by simpa using c84
                       (try (have c84b1 : decide (t275 = t276) = true := by simpa using c84)); (try (have c84b2 : (t275 == t276) = true := by simpa using c84)); clear c84; replace H := Option.bind_eq_some_iff.mp H; obtain ⟨t277, A850, H⟩ := H; replace H : ((trustquorumref23_Aborts.f ((rd_T26 y253 x56_2).f0) ((rd_T26 y253 x56_2).f1) ((rd_T26 y253 x74_4).f0) ((rd_T26 y253 x74_4).f1)).bind fun t278 => (trustquorumlaw23_BallotsExact.j4 k4 a5 y253 (y253.length : Int) x56_2 (y253.length : Int) x74_4 (t277 != t278) t238 x241001_4 ((rd_T26 y253 x56_2).f0) ((rd_T26 y253 x56_2).f1) ((rd_T26 y253 x74_4).f0) ((rd_T26 y253 x74_4).f1))) = some r := H; have A85 := Aside0.mk A850; clear A850; replace H := Option.bind_eq_some_iff.mp H; obtain ⟨t278, A860, H⟩ := H; replace H : (trustquorumlaw23_BallotsExact.j4 k4 a5 y253 (y253.length : Int) x56_2 (y253.length : Int) x74_4 (t277 != t278) t238 x241001_4 ((rd_T26 y253 x56_2).f0) ((rd_T26 y253 x56_2).f1) ((rd_T26 y253 x74_4).f0) ((rd_T26 y253 x74_4).f1)) = some r := H; have A86 := Aside0.mk A860; clear A860; have H' := Aside0.mk H; clear H
                       try go_wp2
                       have n0_ : Aside0 (Kd.R k26 26 ((w69.setCell ⟨gb268, 0, none⟩ (.int .i64 ((rd_T26 y253 x74_4).f0))).setCell ⟨gb268, 1, none⟩ (.string ((rd_T26 y253 x74_4).f1))) w.heap.size (fun k_ => k_ ≠ gb262 ∧ k_ ≠ gb268) (.slice (some ad261) y253.length co45) y253) := ⟨by (with_reducible repeat (first | apply Kd.R_alloc | apply Kd.R_drewN | apply Kd.R_drew)); exact Kd.R_mono (Kd.R_far (p := ⟨gb268, 1, none⟩) (Kd.R_far (p := ⟨gb268, 0, none⟩) (Kd.R_mono HO_14.out (fun k_ hk => (⟨hk, hk.2⟩ : _ ∧ k_ ≠ gb268))) (fun _ hk => hk.2) (.int .i64 ((rd_T26 y253 x74_4).f0))) (fun _ hk => hk.2) (.string ((rd_T26 y253 x74_4).f1))) (fun _ hk => ⟨hk.1.1, hk.1.2⟩)⟩
                       have n1_ : Aside0 (((w69.setCell ⟨gb268, 0, none⟩ (.int .i64 ((rd_T26 y253 x74_4).f0))).setCell ⟨gb268, 1, none⟩ (.string ((rd_T26 y253 x74_4).f1))).heap[gb262]? = some (.cells #[.int .i64 ((rd_T26 y253 x56_2).f0), .string ((rd_T26 y253 x56_2).f1)] 26 (0, 0))) := ⟨by (with_reducible repeat (first | refine blk_drewN ?_ _ | refine blk_drew ?_ | refine blk_alloc ?_ _)); refine blk_far ?_ NB262_268.out _; (with_reducible repeat (first | refine blk_drewN ?_ _ | refine blk_drew ?_ | refine blk_alloc ?_ _)); refine blk_far ?_ NB262_268.out _; (with_reducible repeat (first | refine blk_drewN ?_ _ | refine blk_drew ?_ | refine blk_alloc ?_ _)); exact BK262.out⟩
                       have n2_ : Aside0 (((w69.setCell ⟨gb268, 0, none⟩ (.int .i64 ((rd_T26 y253 x74_4).f0))).setCell ⟨gb268, 1, none⟩ (.string ((rd_T26 y253 x74_4).f1))).heap[gb268]? = some (.cells #[.int .i64 ((rd_T26 y253 x74_4).f0), .string ((rd_T26 y253 x74_4).f1)] 26 (0, 0))) := ⟨by (with_reducible repeat (first | refine blk_drewN ?_ _ | refine blk_drew ?_ | refine blk_alloc ?_ _)); refine blk_put (cs := #[.int .i64 ((rd_T26 y253 x74_4).f0), .string (⟨#[]⟩ : ByteArray)]) ?_ 1 _ rfl; (with_reducible repeat (first | refine blk_drewN ?_ _ | refine blk_drew ?_ | refine blk_alloc ?_ _)); refine blk_put (cs := #[.int .i64 0, .string (⟨#[]⟩ : ByteArray)]) ?_ 0 _ rfl; (with_reducible repeat (first | refine blk_drewN ?_ _ | refine blk_drew ?_ | refine blk_alloc ?_ _)); exact BK268.out⟩
                       have n3_ : Aside0 (IsS48 w ((w69.setCell ⟨gb268, 0, none⟩ (.int .i64 ((rd_T26 y253 x74_4).f0))).setCell ⟨gb268, 1, none⟩ (.string ((rd_T26 y253 x74_4).f1))) g240 t238 x241001_4) := ⟨by repeat (first | (with_reducible first | exact HI240.out | apply IsS48.alloc | apply IsS48.drewN | apply IsS48.drew | apply IsS48.set_1 | refine IsS48.far ?_ NB240_262.out _ | refine IsS48.far ?_ NB240_268.out _) | exact HI240.out)⟩; have n4_ : Aside0 (Below w.heap.size w ((w69.setCell ⟨gb268, 0, none⟩ (.int .i64 ((rd_T26 y253 x74_4).f0))).setCell ⟨gb268, 1, none⟩ (.string ((rd_T26 y253 x74_4).f1)))) := ⟨by repeat (first | (with_reducible first | exact HB.out | apply below_alloc | apply pw_below_drewN | apply below_drew1 | refine below_set ?_ (IsS48.ge HI240.out) | refine below_set ?_ GE262.out | refine below_set ?_ GE268.out) | exact HB.out)⟩; (try clear HO_14); (try clear BK262); (try clear BK268); (try clear HI240); (try clear HB); generalize ((w69.setCell ⟨gb268, 0, none⟩ (.int .i64 ((rd_T26 y253 x74_4).f0))).setCell ⟨gb268, 1, none⟩ (.string ((rd_T26 y253 x74_4).f1))) = w87 at n0_ n1_ n2_ n3_ n4_ ⊢; have HO_14 := n0_; have BK262 := n1_; have BK268 := n2_; have HI240 := n3_; have HB := n4_; clear n0_ n1_ n2_ n3_ n4_; have n0_ := Aside0.mk (Kd.R_drew HO_14.out); have n1_ := Aside0.mk (blk_drew BK262.out); have n2_ := Aside0.mk (blk_drew BK268.out); have n3_ := Aside0.mk (IsS48.drew HI240.out); have n4_ := Aside0.mk (below_drew1 HB.out); clear HO_14; clear BK262; clear BK268; clear HI240; clear HB
                       have HO_14 := n0_; have BK262 := n1_; have BK268 := n2_; have HI240 := n3_; have HB := n4_; clear n0_ n1_ n2_ n3_ n4_; refine start_ (n := 47) (S := fun w' => w'.cell? ⟨gb262, 0, none⟩ = some (.int .i64 ((rd_T26 y253 x56_2).f0)) ∧ w'.cell? ⟨gb262, 1, none⟩ = some (.string ((rd_T26 y253 x56_2).f1)) ∧ w'.cell? ⟨gb268, 0, none⟩ = some (.int .i64 ((rd_T26 y253 x74_4).f0)) ∧ w'.cell? ⟨gb268, 1, none⟩ = some (.string ((rd_T26 y253 x74_4).f1))) (ds := []) #[false, false, false, false, false, false, false, false, false, false, false, false, false, false, false, false, false, false, false, false, false, false, false, false, false, false, false, false, false, false, false, false, false, false, false, false, false, false, false, false, false, false, false, false, false, false, false] (by kernel_rfl) rfl rfl ⟨(blk_cell BK262.out 0).trans rfl, (blk_cell BK262.out 1).trans rfl, (blk_cell BK268.out 0).trans rfl, (blk_cell BK268.out 1).trans rfl⟩ (fun hHeld => ?_); refine with_tabW trustquorumlaw23_BallotsExact.tab15 trustquorumlaw23_BallotsExact.bits15 (fun HT_ HW_ => ?_); generalize w87.drew = w88 at HO_14 BK262 BK268 HI240 HB hHeld ⊢; refine take_ (i := 0) (N := some 78) (v := ?_) (a' := ?_) #[true, false, false, false, false, false, false, false, false, false, false, false, false, false, false, false, false, false, false, false, false, false, false, false, false, false, false, false, false, false, false, false, false, false, false, false, false, false, false, false, false, false, false, false, false, false, false] rfl rfl (take_ofW HT_.out HW_.out (by kernel_rfl)) (fun _ _ _ h => h) (Or.inl ⟨by rfl, ?_⟩) hHeld ?_ ?_
                       rotate_left
                       ·
                        rintro w' ⟨s0, s1, s2, s3⟩; go_simp
                        with_reducible rfl
                       rotate_left
                       ·
                        simp only [Act.put, List.setIfInBounds_toArray, List.set_cons_zero, List.set_cons_succ, i64_w, i32_w]; rfl
                       refine take_ (i := 1) (N := some 79) (v := ?_) (a' := ?_) #[true, true, false, false, false, false, false, false, false, false, false, false, false, false, false, false, false, false, false, false, false, false, false, false, false, false, false, false, false, false, false, false, false, false, false, false, false, false, false, false, false, false, false, false, false, false, false] rfl rfl (take_ofW HT_.out HW_.out (by kernel_rfl)) (fun _ _ _ h => h) (Or.inl ⟨by rfl, ?_⟩) hHeld ?_ ?_; rotate_left
                       ·
                        rintro w' ⟨s0, s1, s2, s3⟩; go_simp
                        with_reducible rfl
                       rotate_left
                       ·
                        simp only [Act.put, List.setIfInBounds_toArray, List.set_cons_zero, List.set_cons_succ, i64_w, i32_w]; rfl
                       refine take_ (i := 3) (N := some 81) (v := ?_) (a' := ?_) #[true, true, false, true, false, false, false, false, false, false, false, false, false, false, false, false, false, false, false, false, false, false, false, false, false, false, false, false, false, false, false, false, false, false, false, false, false, false, false, false, false, false, false, false, false, false, false] rfl rfl (take_ofW HT_.out HW_.out (by kernel_rfl)) (fun _ _ _ h => h) (Or.inl ⟨by rfl, ?_⟩) hHeld ?_ ?_; rotate_left
                       ·
                        rintro w' ⟨s0, s1, s2, s3⟩; go_simp
                        with_reducible rfl
                       rotate_left
                       ·
                        simp only [Act.put, List.setIfInBounds_toArray, List.set_cons_zero, List.set_cons_succ, i64_w, i32_w]; rfl
                       refine take_ (i := 4) (N := some 82) (v := ?_) (a' := ?_) #[true, true, false, true, true, false, false, false, false, false, false, false, false, false, false, false, false, false, false, false, false, false, false, false, false, false, false, false, false, false, false, false, false, false, false, false, false, false, false, false, false, false, false, false, false, false, false] rfl rfl (take_ofW HT_.out HW_.out (by kernel_rfl)) (fun _ _ _ h => h) (Or.inl ⟨by rfl, ?_⟩) hHeld ?_ ?_; rotate_left
                       ·
                        rintro w' ⟨s0, s1, s2, s3⟩; go_simp
                        with_reducible rfl
                       rotate_left
                       ·
                        simp only [Act.put, List.setIfInBounds_toArray, List.set_cons_zero, List.set_cons_succ, i64_w, i32_w]; rfl
                       refine one_ (i := 2) (N := some 80) #[true, true, true, true, true, false, false, false, false, false, false, false, false, false, false, false, false, false, false, false, false, false, false, false, false, false, false, false, false, false, false, false, false, false, false, false, false, false, false, false, false, false, false, false, false, false, false] rfl rfl (one_of HT_.out (by kernel_rfl)) (by decide) (fun K hK => ?_); refine goes_ Try.func16 (by kernel_rfl) rfl #[.agg #[.int .i64 ((rd_T26 y253 x56_2).f0), .string ((rd_T26 y253 x56_2).f1)], .agg #[.int .i64 ((rd_T26 y253 x74_4).f0), .string ((rd_T26 y253 x74_4).f1)]] (by rfl) rfl rfl (by (try simp only [List.map_toArray, List.map_cons, List.map_nil]); first | done | rfl | (simp only [List.length_drop, List.length_take]; rfl)) ?_
                       with_reducible refine (ballots_Less.calls k4 ((rd_T26 y253 x56_2).f0) ((rd_T26 y253 x56_2).f1) ((rd_T26 y253 x74_4).f0) ((rd_T26 y253 x74_4).f1) t269 _ A73.out).mono ?_
                       rintro e w89 ⟨rfl, hb⟩; refine ⟨_, rfl, ?_⟩; have n0_ := Aside0.mk (Kd.R_below (by (with_reducible repeat (first | apply Kd.R_alloc | apply Kd.R_drewN | apply Kd.R_drew)); exact HO_14.out) hb)
                       have n1_ := Aside0.mk (blk_below (g := gb262) (o := .cells #[.int .i64 ((rd_T26 y253 x56_2).f0), .string ((rd_T26 y253 x56_2).f1)] 26 (0, 0)) (by (with_reducible repeat (first | refine blk_drewN ?_ _ | refine blk_drew ?_ | refine blk_alloc ?_ _)); exact BK262.out) hb)
                       have n2_ := Aside0.mk (IsS48.below (by repeat (first | (with_reducible first | exact HI240.out | apply IsS48.alloc | apply IsS48.drewN | apply IsS48.drew | apply IsS48.set_1 | refine IsS48.far ?_ NB240_262.out _ | refine IsS48.far ?_ NB240_268.out _) | exact HI240.out)) hb); have n3_ := Aside0.mk (blk_below (g := gb268) (o := .cells #[.int .i64 ((rd_T26 y253 x74_4).f0), .string ((rd_T26 y253 x74_4).f1)] 26 (0, 0)) (by (with_reducible repeat (first | refine blk_drewN ?_ _ | refine blk_drew ?_ | refine blk_alloc ?_ _)); exact BK268.out) hb)
                       have n4_ := Aside0.mk (below_step (by repeat (first | (with_reducible first | exact HB.out | apply below_alloc | apply pw_below_drewN | apply below_drew1 | refine below_set ?_ (IsS48.ge HI240.out) | refine below_set ?_ GE262.out | refine below_set ?_ GE268.out) | exact HB.out)) hb); clear HO_14; clear BK262; clear HI240; clear BK268; clear HB; have HO_14 := n0_; have BK262 := n1_; have HI240 := n2_; have BK268 := n3_; have HB := n4_; clear n0_ n1_ n2_ n3_ n4_; (try clear hb); (try clear hb2); (try clear hk); (try clear hi); refine hK.out _ _ ⟨(blk_cell BK262.out 0).trans rfl, (blk_cell BK262.out 1).trans rfl, (blk_cell BK268.out 0).trans rfl, (blk_cell BK268.out 1).trans rfl⟩ (fun hHeld => ?_); clear hK K; refine norm_ (a' := ?_) ?_ ?_; rotate_left
                       ·
                        show Act.put _ (some 80) _ = _
                        simp only [Act.put, List.setIfInBounds_toArray, List.set_cons_zero, List.set_cons_succ, i64_w, i32_w]; rfl
                       refine one_ (i := 5) (N := some 83) #[true, true, true, true, true, true, false, false, false, false, false, false, false, false, false, false, false, false, false, false, false, false, false, false, false, false, false, false, false, false, false, false, false, false, false, false, false, false, false, false, false, false, false, false, false, false, false] rfl rfl (one_of HT_.out (by kernel_rfl)) (by decide) (fun K hK => ?_); refine goes_ Try.func20 (by kernel_rfl) rfl #[.agg #[.int .i64 ((rd_T26 y253 x56_2).f0), .string ((rd_T26 y253 x56_2).f1)], .agg #[.int .i64 ((rd_T26 y253 x74_4).f0), .string ((rd_T26 y253 x74_4).f1)]] (by rfl) rfl rfl (by (try simp only [List.map_toArray, List.map_cons, List.map_nil]); first | done | rfl | (simp only [List.length_drop, List.length_take]; rfl)) ?_
                       with_reducible refine (trustquorumref23_Less.calls ((rd_T26 y253 x56_2).f0) ((rd_T26 y253 x56_2).f1) ((rd_T26 y253 x74_4).f0) ((rd_T26 y253 x74_4).f1) t270 _ A74.out).mono ?_
                       rintro e w90 ⟨rfl, hb⟩; refine ⟨_, rfl, ?_⟩; have n0_ := Aside0.mk (Kd.R_below (by (with_reducible repeat (first | apply Kd.R_alloc | apply Kd.R_drewN | apply Kd.R_drew)); exact HO_14.out) hb)
                       have n1_ := Aside0.mk (blk_below (g := gb262) (o := .cells #[.int .i64 ((rd_T26 y253 x56_2).f0), .string ((rd_T26 y253 x56_2).f1)] 26 (0, 0)) (by (with_reducible repeat (first | refine blk_drewN ?_ _ | refine blk_drew ?_ | refine blk_alloc ?_ _)); exact BK262.out) hb)
                       have n2_ := Aside0.mk (IsS48.below (by repeat (first | (with_reducible first | exact HI240.out | apply IsS48.alloc | apply IsS48.drewN | apply IsS48.drew | apply IsS48.set_1 | refine IsS48.far ?_ NB240_262.out _ | refine IsS48.far ?_ NB240_268.out _) | exact HI240.out)) hb); have n3_ := Aside0.mk (blk_below (g := gb268) (o := .cells #[.int .i64 ((rd_T26 y253 x74_4).f0), .string ((rd_T26 y253 x74_4).f1)] 26 (0, 0)) (by (with_reducible repeat (first | refine blk_drewN ?_ _ | refine blk_drew ?_ | refine blk_alloc ?_ _)); exact BK268.out) hb)
                       have n4_ := Aside0.mk (below_step (by repeat (first | (with_reducible first | exact HB.out | apply below_alloc | apply pw_below_drewN | apply below_drew1 | refine below_set ?_ (IsS48.ge HI240.out) | refine below_set ?_ GE262.out | refine below_set ?_ GE268.out) | exact HB.out)) hb); clear HO_14; clear BK262; clear HI240; clear BK268; clear HB; have HO_14 := n0_; have BK262 := n1_; have HI240 := n2_; have BK268 := n3_; have HB := n4_; clear n0_ n1_ n2_ n3_ n4_; (try clear hb); (try clear hb2); (try clear hk); (try clear hi); refine hK.out _ _ ⟨(blk_cell BK262.out 0).trans rfl, (blk_cell BK262.out 1).trans rfl, (blk_cell BK268.out 0).trans rfl, (blk_cell BK268.out 1).trans rfl⟩ (fun hHeld => ?_); clear hK K; refine norm_ (a' := ?_) ?_ ?_; rotate_left
                       ·
                        show Act.put _ (some 83) _ = _
                        simp only [Act.put, List.setIfInBounds_toArray, List.set_cons_zero, List.set_cons_succ, i64_w, i32_w]; rfl
                       refine pure_ (i := 6) (N := some 84) (v := ?_) (a' := ?_) #[true, true, true, true, true, true, true, false, false, false, false, false, false, false, false, false, false, false, false, false, false, false, false, false, false, false, false, false, false, false, false, false, false, false, false, false, false, false, false, false, false, false, false, false, false, false, false] rfl rfl (any_of HT_.out (by kernel_rfl)) (fun _ _ _ h => h) (Or.inl ⟨by rfl, ?_⟩) ?_ ?_; rotate_left
                       ·
                        intro w'; go_simp
                        with_reducible rfl
                       rotate_left
                       ·
                        simp only [Act.put, List.setIfInBounds_toArray, List.set_cons_zero, List.set_cons_succ, i64_w, i32_w]; rfl
                       refine pure_ (i := 7) (N := some 85) (v := ?_) (a' := ?_) #[true, true, true, true, true, true, true, true, false, false, false, false, false, false, false, false, false, false, false, false, false, false, false, false, false, false, false, false, false, false, false, false, false, false, false, false, false, false, false, false, false, false, false, false, false, false, false] rfl rfl (any_of HT_.out (by kernel_rfl)) (fun _ _ _ h => h) (Or.inl ⟨by rfl, ?_⟩) ?_ ?_; rotate_left
                       ·
                        intro w'; go_simp
                        with_reducible rfl
                       rotate_left
                       ·
                        simp only [Act.put, List.setIfInBounds_toArray, List.set_cons_zero, List.set_cons_succ, i64_w, i32_w]; rfl
                       refine pure_ (i := 8) (N := some 86) (v := ?_) (a' := ?_) #[true, true, true, true, true, true, true, true, true, false, false, false, false, false, false, false, false, false, false, false, false, false, false, false, false, false, false, false, false, false, false, false, false, false, false, false, false, false, false, false, false, false, false, false, false, false, false] rfl rfl (any_of HT_.out (by kernel_rfl)) (fun _ _ _ h => h) (Or.inl ⟨by rfl, ?_⟩) ?_ ?_; rotate_left
                       ·
                        intro w'; go_simp
                        with_reducible rfl
                       rotate_left
                       ·
                        simp only [Act.put, List.setIfInBounds_toArray, List.set_cons_zero, List.set_cons_succ, i64_w, i32_w]; rfl
                       refine pure_ (i := 10) (N := some 88) (v := ?_) (a' := ?_) #[true, true, true, true, true, true, true, true, true, false, true, false, false, false, false, false, false, false, false, false, false, false, false, false, false, false, false, false, false, false, false, false, false, false, false, false, false, false, false, false, false, false, false, false, false, false, false] rfl rfl (any_of HT_.out (by kernel_rfl)) (fun _ _ _ h => h) (Or.inl ⟨by rfl, ?_⟩) ?_ ?_; rotate_left
                       ·
                        intro w'; go_simp
                        with_reducible rfl
                       rotate_left
                       ·
                        simp only [Act.put, List.setIfInBounds_toArray, List.set_cons_zero, List.set_cons_succ, i64_w, i32_w]; rfl
                       refine pure_ (i := 13) (N := some 91) (v := ?_) (a' := ?_) #[true, true, true, true, true, true, true, true, true, false, true, false, false, true, false, false, false, false, false, false, false, false, false, false, false, false, false, false, false, false, false, false, false, false, false, false, false, false, false, false, false, false, false, false, false, false, false] rfl rfl (any_of HT_.out (by kernel_rfl)) (fun _ _ _ h => h) (Or.inl ⟨by rfl, ?_⟩) ?_ ?_; rotate_left
                       ·
                        intro w'; go_simp
                        with_reducible rfl
                       rotate_left
                       ·
                        simp only [Act.put, List.setIfInBounds_toArray, List.set_cons_zero, List.set_cons_succ, i64_w, i32_w]; rfl
                       refine pure_ (i := 15) (N := some 93) (v := ?_) (a' := ?_) #[true, true, true, true, true, true, true, true, true, false, true, false, false, true, false, true, false, false, false, false, false, false, false, false, false, false, false, false, false, false, false, false, false, false, false, false, false, false, false, false, false, false, false, false, false, false, false] rfl rfl (any_of HT_.out (by kernel_rfl)) (fun _ _ _ h => h) (Or.inl ⟨by rfl, ?_⟩) ?_ ?_; rotate_left
                       ·
                        intro w'; go_simp
                        with_reducible rfl
                       rotate_left
                       ·
                        simp only [Act.put, List.setIfInBounds_toArray, List.set_cons_zero, List.set_cons_succ, i64_w, i32_w]; rfl
                       refine take_ (i := 9) (N := some 87) (v := ?_) (a' := ?_) #[true, true, true, true, true, true, true, true, true, true, true, false, false, true, false, true, false, false, false, false, false, false, false, false, false, false, false, false, false, false, false, false, false, false, false, false, false, false, false, false, false, false, false, false, false, false, false] rfl rfl (take_ofW HT_.out HW_.out (by kernel_rfl)) (fun _ _ _ h => h) (Or.inl ⟨by rfl, ?_⟩) hHeld ?_ ?_; rotate_left
                       ·
                        rintro w' ⟨s0, s1, s2, s3⟩; go_simp
                        with_reducible rfl
                       rotate_left
                       ·
                        simp only [Act.put, List.setIfInBounds_toArray, List.set_cons_zero, List.set_cons_succ, i64_w, i32_w]; rfl
                       refine take_ (i := 11) (N := some 89) (v := ?_) (a' := ?_) #[true, true, true, true, true, true, true, true, true, true, true, true, false, true, false, true, false, false, false, false, false, false, false, false, false, false, false, false, false, false, false, false, false, false, false, false, false, false, false, false, false, false, false, false, false, false, false] rfl rfl (take_ofW HT_.out HW_.out (by kernel_rfl)) (fun _ _ _ h => h) (Or.inl ⟨by rfl, ?_⟩) hHeld ?_ ?_; rotate_left
                       ·
                        rintro w' ⟨s0, s1, s2, s3⟩; go_simp
                        with_reducible rfl
                       rotate_left
                       ·
                        simp only [Act.put, List.setIfInBounds_toArray, List.set_cons_zero, List.set_cons_succ, i64_w, i32_w]; rfl
                       refine take_ (i := 14) (N := some 92) (v := ?_) (a' := ?_) #[true, true, true, true, true, true, true, true, true, true, true, true, false, true, true, true, false, false, false, false, false, false, false, false, false, false, false, false, false, false, false, false, false, false, false, false, false, false, false, false, false, false, false, false, false, false, false] rfl rfl (take_ofW HT_.out HW_.out (by kernel_rfl)) (fun _ _ _ h => h) (Or.inl ⟨by rfl, ?_⟩) hHeld ?_ ?_; rotate_left
                       ·
                        rintro w' ⟨s0, s1, s2, s3⟩; go_simp
                        with_reducible rfl
                       rotate_left
                       ·
                        simp only [Act.put, List.setIfInBounds_toArray, List.set_cons_zero, List.set_cons_succ, i64_w, i32_w]; rfl
                       refine take_ (i := 16) (N := some 94) (v := ?_) (a' := ?_) #[true, true, true, true, true, true, true, true, true, true, true, true, false, true, true, true, true, false, false, false, false, false, false, false, false, false, false, false, false, false, false, false, false, false, false, false, false, false, false, false, false, false, false, false, false, false, false] rfl rfl (take_ofW HT_.out HW_.out (by kernel_rfl)) (fun _ _ _ h => h) (Or.inl ⟨by rfl, ?_⟩) hHeld ?_ ?_; rotate_left
                       ·
                        rintro w' ⟨s0, s1, s2, s3⟩; go_simp
                        with_reducible rfl
                       rotate_left
                       ·
                        simp only [Act.put, List.setIfInBounds_toArray, List.set_cons_zero, List.set_cons_succ, i64_w, i32_w]; rfl
                       refine one_ (i := 12) (N := some 90) #[true, true, true, true, true, true, true, true, true, true, true, true, true, true, true, true, true, false, false, false, false, false, false, false, false, false, false, false, false, false, false, false, false, false, false, false, false, false, false, false, false, false, false, false, false, false, false] rfl rfl (one_of HT_.out (by kernel_rfl)) (by decide) (fun K hK => ?_); refine goes_ Try.func32 (by kernel_rfl) rfl #[.string ((rd_T26 y253 x56_2).f1), .string ((rd_T26 y253 x74_4).f1)] (by rfl) rfl rfl (by (try simp only [List.map_toArray, List.map_cons, List.map_nil]); first | done | rfl | (simp only [List.length_drop, List.length_take]; rfl)) ?_
                       with_reducible refine (ballots_LessValue.calls k4 ((rd_T26 y253 x56_2).f1) ((rd_T26 y253 x74_4).f1) t271 _ A76.out).mono ?_
                       rintro e w91 ⟨rfl, hb⟩; refine ⟨_, rfl, ?_⟩; have n0_ := Aside0.mk (Kd.R_below (by (with_reducible repeat (first | apply Kd.R_alloc | apply Kd.R_drewN | apply Kd.R_drew)); exact HO_14.out) hb)
                       have n1_ := Aside0.mk (blk_below (g := gb262) (o := .cells #[.int .i64 ((rd_T26 y253 x56_2).f0), .string ((rd_T26 y253 x56_2).f1)] 26 (0, 0)) (by (with_reducible repeat (first | refine blk_drewN ?_ _ | refine blk_drew ?_ | refine blk_alloc ?_ _)); exact BK262.out) hb)
                       have n2_ := Aside0.mk (IsS48.below (by repeat (first | (with_reducible first | exact HI240.out | apply IsS48.alloc | apply IsS48.drewN | apply IsS48.drew | apply IsS48.set_1 | refine IsS48.far ?_ NB240_262.out _ | refine IsS48.far ?_ NB240_268.out _) | exact HI240.out)) hb); have n3_ := Aside0.mk (blk_below (g := gb268) (o := .cells #[.int .i64 ((rd_T26 y253 x74_4).f0), .string ((rd_T26 y253 x74_4).f1)] 26 (0, 0)) (by (with_reducible repeat (first | refine blk_drewN ?_ _ | refine blk_drew ?_ | refine blk_alloc ?_ _)); exact BK268.out) hb)
                       have n4_ := Aside0.mk (below_step (by repeat (first | (with_reducible first | exact HB.out | apply below_alloc | apply pw_below_drewN | apply below_drew1 | refine below_set ?_ (IsS48.ge HI240.out) | refine below_set ?_ GE262.out | refine below_set ?_ GE268.out) | exact HB.out)) hb); clear HO_14; clear BK262; clear HI240; clear BK268; clear HB; have HO_14 := n0_; have BK262 := n1_; have HI240 := n2_; have BK268 := n3_; have HB := n4_; clear n0_ n1_ n2_ n3_ n4_; (try clear hb); (try clear hb2); (try clear hk); (try clear hi); refine hK.out _ _ ⟨(blk_cell BK262.out 0).trans rfl, (blk_cell BK262.out 1).trans rfl, (blk_cell BK268.out 0).trans rfl, (blk_cell BK268.out 1).trans rfl⟩ (fun hHeld => ?_); clear hK K; refine norm_ (a' := ?_) ?_ ?_; rotate_left
                       ·
                        show Act.put _ (some 90) _ = _
                        simp only [Act.put, List.setIfInBounds_toArray, List.set_cons_zero, List.set_cons_succ, i64_w, i32_w]; rfl
                       refine one_ (i := 17) (N := some 95) #[true, true, true, true, true, true, true, true, true, true, true, true, true, true, true, true, true, true, false, false, false, false, false, false, false, false, false, false, false, false, false, false, false, false, false, false, false, false, false, false, false, false, false, false, false, false, false] rfl rfl (one_of HT_.out (by kernel_rfl)) (by decide) (fun K hK => ?_); refine goes_ Try.func33 (by kernel_rfl) rfl #[.string ((rd_T26 y253 x56_2).f1), .string ((rd_T26 y253 x74_4).f1)] (by rfl) rfl rfl (by (try simp only [List.map_toArray, List.map_cons, List.map_nil]); first | done | rfl | (simp only [List.length_drop, List.length_take]; rfl)) ?_
                       with_reducible refine (trustquorumref23_LessValue.calls ((rd_T26 y253 x56_2).f1) ((rd_T26 y253 x74_4).f1) t272 _ A77.out).mono ?_
                       rintro e w' ⟨rfl, ⟨nd, rfl⟩⟩; refine ⟨_, rfl, ?_⟩; refine hK.out _ _ ⟨(blk_cell BK262.out 0).trans rfl, (blk_cell BK262.out 1).trans rfl, (blk_cell BK268.out 0).trans rfl, (blk_cell BK268.out 1).trans rfl⟩ (fun hHeld => ?_); clear hK K; refine norm_ (a' := ?_) ?_ ?_; rotate_left
                       ·
                        show Act.put _ (some 95) _ = _
                        simp only [Act.put, List.setIfInBounds_toArray, List.set_cons_zero, List.set_cons_succ, i64_w, i32_w]; rfl
                       refine pure_ (i := 18) (N := some 96) (v := ?_) (a' := ?_) #[true, true, true, true, true, true, true, true, true, true, true, true, true, true, true, true, true, true, true, false, false, false, false, false, false, false, false, false, false, false, false, false, false, false, false, false, false, false, false, false, false, false, false, false, false, false, false] rfl rfl (any_of HT_.out (by kernel_rfl)) (fun _ _ _ h => h) (Or.inl ⟨by rfl, ?_⟩) ?_ ?_; rotate_left
                       ·
                        intro w'; go_simp
                        with_reducible rfl
                       rotate_left
                       ·
                        simp only [Act.put, List.setIfInBounds_toArray, List.set_cons_zero, List.set_cons_succ, i64_w, i32_w]; rfl
                       refine pure_ (i := 19) (N := some 97) (v := ?_) (a' := ?_) #[true, true, true, true, true, true, true, true, true, true, true, true, true, true, true, true, true, true, true, true, false, false, false, false, false, false, false, false, false, false, false, false, false, false, false, false, false, false, false, false, false, false, false, false, false, false, false] rfl rfl (any_of HT_.out (by kernel_rfl)) (fun _ _ _ h => h) (Or.inl ⟨by rfl, ?_⟩) ?_ ?_; rotate_left
                       ·
                        intro w'; go_simp
                        with_reducible rfl
                       rotate_left
                       ·
                        simp only [Act.put, List.setIfInBounds_toArray, List.set_cons_zero, List.set_cons_succ, i64_w, i32_w]; rfl
                       refine pure_ (i := 20) (N := some 98) (v := ?_) (a' := ?_) #[true, true, true, true, true, true, true, true, true, true, true, true, true, true, true, true, true, true, true, true, true, false, false, false, false, false, false, false, false, false, false, false, false, false, false, false, false, false, false, false, false, false, false, false, false, false, false] rfl rfl (any_of HT_.out (by kernel_rfl)) (fun _ _ _ h => h) (Or.inl ⟨by rfl, ?_⟩) ?_ ?_; rotate_left
                       ·
                        intro w'; go_simp
                        with_reducible rfl
                       rotate_left
                       ·
                        simp only [Act.put, List.setIfInBounds_toArray, List.set_cons_zero, List.set_cons_succ, i64_w, i32_w]; rfl
                       refine take_ (i := 21) (N := some 99) (v := ?_) (a' := ?_) #[true, true, true, true, true, true, true, true, true, true, true, true, true, true, true, true, true, true, true, true, true, true, false, false, false, false, false, false, false, false, false, false, false, false, false, false, false, false, false, false, false, false, false, false, false, false, false] rfl rfl (take_ofW HT_.out HW_.out (by kernel_rfl)) (fun _ _ _ h => h) (Or.inl ⟨by rfl, ?_⟩) hHeld ?_ ?_; rotate_left
                       ·
                        rintro w' ⟨s0, s1, s2, s3⟩; go_simp
                        with_reducible rfl
                       rotate_left
                       ·
                        simp only [Act.put, List.setIfInBounds_toArray, List.set_cons_zero, List.set_cons_succ, i64_w, i32_w]; rfl
                       refine take_ (i := 22) (N := some 100) (v := ?_) (a' := ?_) #[true, true, true, true, true, true, true, true, true, true, true, true, true, true, true, true, true, true, true, true, true, true, true, false, false, false, false, false, false, false, false, false, false, false, false, false, false, false, false, false, false, false, false, false, false, false, false] rfl rfl (take_ofW HT_.out HW_.out (by kernel_rfl)) (fun _ _ _ h => h) (Or.inl ⟨by rfl, ?_⟩) hHeld ?_ ?_; rotate_left
                       ·
                        rintro w' ⟨s0, s1, s2, s3⟩; go_simp
                        with_reducible rfl
                       rotate_left
                       ·
                        simp only [Act.put, List.setIfInBounds_toArray, List.set_cons_zero, List.set_cons_succ, i64_w, i32_w]; rfl
                       refine take_ (i := 24) (N := some 102) (v := ?_) (a' := ?_) #[true, true, true, true, true, true, true, true, true, true, true, true, true, true, true, true, true, true, true, true, true, true, true, false, true, false, false, false, false, false, false, false, false, false, false, false, false, false, false, false, false, false, false, false, false, false, false] rfl rfl (take_ofW HT_.out HW_.out (by kernel_rfl)) (fun _ _ _ h => h) (Or.inl ⟨by rfl, ?_⟩) hHeld ?_ ?_; rotate_left
                       ·
                        rintro w' ⟨s0, s1, s2, s3⟩; go_simp
                        with_reducible rfl
                       rotate_left
                       ·
                        simp only [Act.put, List.setIfInBounds_toArray, List.set_cons_zero, List.set_cons_succ, i64_w, i32_w]; rfl
                       refine take_ (i := 25) (N := some 103) (v := ?_) (a' := ?_) #[true, true, true, true, true, true, true, true, true, true, true, true, true, true, true, true, true, true, true, true, true, true, true, false, true, true, false, false, false, false, false, false, false, false, false, false, false, false, false, false, false, false, false, false, false, false, false] rfl rfl (take_ofW HT_.out HW_.out (by kernel_rfl)) (fun _ _ _ h => h) (Or.inl ⟨by rfl, ?_⟩) hHeld ?_ ?_; rotate_left
                       ·
                        rintro w' ⟨s0, s1, s2, s3⟩; go_simp
                        with_reducible rfl
                       rotate_left
                       ·
                        simp only [Act.put, List.setIfInBounds_toArray, List.set_cons_zero, List.set_cons_succ, i64_w, i32_w]; rfl
                       refine one_ (i := 23) (N := some 101) #[true, true, true, true, true, true, true, true, true, true, true, true, true, true, true, true, true, true, true, true, true, true, true, true, true, true, false, false, false, false, false, false, false, false, false, false, false, false, false, false, false, false, false, false, false, false, false] rfl rfl (one_of HT_.out (by kernel_rfl)) (by decide) (fun K hK => ?_); refine goes_ Try.func19 (by kernel_rfl) rfl #[.agg #[.int .i64 ((rd_T26 y253 x56_2).f0), .string ((rd_T26 y253 x56_2).f1)], .agg #[.int .i64 ((rd_T26 y253 x74_4).f0), .string ((rd_T26 y253 x74_4).f1)]] (by rfl) rfl rfl (by (try simp only [List.map_toArray, List.map_cons, List.map_nil]); first | done | rfl | (simp only [List.length_drop, List.length_take]; rfl)) ?_
                       with_reducible refine (ballots_Compatible.calls ((rd_T26 y253 x56_2).f0) ((rd_T26 y253 x56_2).f1) ((rd_T26 y253 x74_4).f0) ((rd_T26 y253 x74_4).f1) t273 _ A79.out).mono ?_
                       rintro e w92 ⟨rfl, hb⟩; refine ⟨_, rfl, ?_⟩; have n0_ := Aside0.mk (Kd.R_below (by (with_reducible repeat (first | apply Kd.R_alloc | apply Kd.R_drewN | apply Kd.R_drew)); exact HO_14.out) hb)
                       have n1_ := Aside0.mk (blk_below (g := gb262) (o := .cells #[.int .i64 ((rd_T26 y253 x56_2).f0), .string ((rd_T26 y253 x56_2).f1)] 26 (0, 0)) (by (with_reducible repeat (first | refine blk_drewN ?_ _ | refine blk_drew ?_ | refine blk_alloc ?_ _)); exact BK262.out) hb)
                       have n2_ := Aside0.mk (IsS48.below (by repeat (first | (with_reducible first | exact HI240.out | apply IsS48.alloc | apply IsS48.drewN | apply IsS48.drew | apply IsS48.set_1 | refine IsS48.far ?_ NB240_262.out _ | refine IsS48.far ?_ NB240_268.out _) | exact HI240.out)) hb); have n3_ := Aside0.mk (blk_below (g := gb268) (o := .cells #[.int .i64 ((rd_T26 y253 x74_4).f0), .string ((rd_T26 y253 x74_4).f1)] 26 (0, 0)) (by (with_reducible repeat (first | refine blk_drewN ?_ _ | refine blk_drew ?_ | refine blk_alloc ?_ _)); exact BK268.out) hb)
                       have n4_ := Aside0.mk (below_step (by repeat (first | (with_reducible first | exact HB.out | apply below_alloc | apply pw_below_drewN | apply below_drew1 | refine below_set ?_ (IsS48.ge HI240.out) | refine below_set ?_ GE262.out | refine below_set ?_ GE268.out) | exact HB.out)) hb); clear HO_14; clear BK262; clear HI240; clear BK268; clear HB; have HO_14 := n0_; have BK262 := n1_; have HI240 := n2_; have BK268 := n3_; have HB := n4_; clear n0_ n1_ n2_ n3_ n4_; (try clear hb); (try clear hb2); (try clear hk); (try clear hi); refine hK.out _ _ ⟨(blk_cell BK262.out 0).trans rfl, (blk_cell BK262.out 1).trans rfl, (blk_cell BK268.out 0).trans rfl, (blk_cell BK268.out 1).trans rfl⟩ (fun hHeld => ?_); clear hK K; refine norm_ (a' := ?_) ?_ ?_; rotate_left
                       ·
                        show Act.put _ (some 101) _ = _
                        simp only [Act.put, List.setIfInBounds_toArray, List.set_cons_zero, List.set_cons_succ, i64_w, i32_w]; rfl
                       refine one_ (i := 26) (N := some 104) #[true, true, true, true, true, true, true, true, true, true, true, true, true, true, true, true, true, true, true, true, true, true, true, true, true, true, true, false, false, false, false, false, false, false, false, false, false, false, false, false, false, false, false, false, false, false, false] rfl rfl (one_of HT_.out (by kernel_rfl)) (by decide) (fun K hK => ?_); refine goes_ Try.func21 (by kernel_rfl) rfl #[.agg #[.int .i64 ((rd_T26 y253 x56_2).f0), .string ((rd_T26 y253 x56_2).f1)], .agg #[.int .i64 ((rd_T26 y253 x74_4).f0), .string ((rd_T26 y253 x74_4).f1)]] (by rfl) rfl rfl (by (try simp only [List.map_toArray, List.map_cons, List.map_nil]); first | done | rfl | (simp only [List.length_drop, List.length_take]; rfl)) ?_
                       with_reducible refine (trustquorumref23_Compatible.calls ((rd_T26 y253 x56_2).f0) ((rd_T26 y253 x56_2).f1) ((rd_T26 y253 x74_4).f0) ((rd_T26 y253 x74_4).f1) t274 _ A80.out).mono ?_
                       rintro e w93 ⟨rfl, hb⟩; refine ⟨_, rfl, ?_⟩; have n0_ := Aside0.mk (Kd.R_below (by (with_reducible repeat (first | apply Kd.R_alloc | apply Kd.R_drewN | apply Kd.R_drew)); exact HO_14.out) hb)
                       have n1_ := Aside0.mk (blk_below (g := gb262) (o := .cells #[.int .i64 ((rd_T26 y253 x56_2).f0), .string ((rd_T26 y253 x56_2).f1)] 26 (0, 0)) (by (with_reducible repeat (first | refine blk_drewN ?_ _ | refine blk_drew ?_ | refine blk_alloc ?_ _)); exact BK262.out) hb)
                       have n2_ := Aside0.mk (IsS48.below (by repeat (first | (with_reducible first | exact HI240.out | apply IsS48.alloc | apply IsS48.drewN | apply IsS48.drew | apply IsS48.set_1 | refine IsS48.far ?_ NB240_262.out _ | refine IsS48.far ?_ NB240_268.out _) | exact HI240.out)) hb); have n3_ := Aside0.mk (blk_below (g := gb268) (o := .cells #[.int .i64 ((rd_T26 y253 x74_4).f0), .string ((rd_T26 y253 x74_4).f1)] 26 (0, 0)) (by (with_reducible repeat (first | refine blk_drewN ?_ _ | refine blk_drew ?_ | refine blk_alloc ?_ _)); exact BK268.out) hb)
                       have n4_ := Aside0.mk (below_step (by repeat (first | (with_reducible first | exact HB.out | apply below_alloc | apply pw_below_drewN | apply below_drew1 | refine below_set ?_ (IsS48.ge HI240.out) | refine below_set ?_ GE262.out | refine below_set ?_ GE268.out) | exact HB.out)) hb); clear HO_14; clear BK262; clear HI240; clear BK268; clear HB; have HO_14 := n0_; have BK262 := n1_; have HI240 := n2_; have BK268 := n3_; have HB := n4_; clear n0_ n1_ n2_ n3_ n4_; (try clear hb); (try clear hb2); (try clear hk); (try clear hi); refine hK.out _ _ ⟨(blk_cell BK262.out 0).trans rfl, (blk_cell BK262.out 1).trans rfl, (blk_cell BK268.out 0).trans rfl, (blk_cell BK268.out 1).trans rfl⟩ (fun hHeld => ?_); clear hK K; refine norm_ (a' := ?_) ?_ ?_; rotate_left
                       ·
                        show Act.put _ (some 104) _ = _
                        simp only [Act.put, List.setIfInBounds_toArray, List.set_cons_zero, List.set_cons_succ, i64_w, i32_w]; rfl
                       refine pure_ (i := 27) (N := some 105) (v := ?_) (a' := ?_) #[true, true, true, true, true, true, true, true, true, true, true, true, true, true, true, true, true, true, true, true, true, true, true, true, true, true, true, true, false, false, false, false, false, false, false, false, false, false, false, false, false, false, false, false, false, false, false] rfl rfl (any_of HT_.out (by kernel_rfl)) (fun _ _ _ h => h) (Or.inl ⟨by rfl, ?_⟩) ?_ ?_; rotate_left
                       ·
                        intro w'; go_simp
                        with_reducible rfl
                       rotate_left
                       ·
                        simp only [Act.put, List.setIfInBounds_toArray, List.set_cons_zero, List.set_cons_succ, i64_w, i32_w]; rfl
                       refine pure_ (i := 28) (N := some 106) (v := ?_) (a' := ?_) #[true, true, true, true, true, true, true, true, true, true, true, true, true, true, true, true, true, true, true, true, true, true, true, true, true, true, true, true, true, false, false, false, false, false, false, false, false, false, false, false, false, false, false, false, false, false, false] rfl rfl (any_of HT_.out (by kernel_rfl)) (fun _ _ _ h => h) (Or.inl ⟨by rfl, ?_⟩) ?_ ?_; rotate_left
                       ·
                        intro w'; go_simp
                        with_reducible rfl
                       rotate_left
                       ·
                        simp only [Act.put, List.setIfInBounds_toArray, List.set_cons_zero, List.set_cons_succ, i64_w, i32_w]; rfl
                       refine pure_ (i := 29) (N := some 107) (v := ?_) (a' := ?_) #[true, true, true, true, true, true, true, true, true, true, true, true, true, true, true, true, true, true, true, true, true, true, true, true, true, true, true, true, true, true, false, false, false, false, false, false, false, false, false, false, false, false, false, false, false, false, false] rfl rfl (any_of HT_.out (by kernel_rfl)) (fun _ _ _ h => h) (Or.inl ⟨by rfl, ?_⟩) ?_ ?_; rotate_left
                       ·
                        intro w'; go_simp
                        with_reducible rfl
                       rotate_left
                       ·
                        simp only [Act.put, List.setIfInBounds_toArray, List.set_cons_zero, List.set_cons_succ, i64_w, i32_w]; rfl
                       refine take_ (i := 30) (N := some 108) (v := ?_) (a' := ?_) #[true, true, true, true, true, true, true, true, true, true, true, true, true, true, true, true, true, true, true, true, true, true, true, true, true, true, true, true, true, true, true, false, false, false, false, false, false, false, false, false, false, false, false, false, false, false, false] rfl rfl (take_ofW HT_.out HW_.out (by kernel_rfl)) (fun _ _ _ h => h) (Or.inl ⟨by rfl, ?_⟩) hHeld ?_ ?_; rotate_left
                       ·
                        rintro w' ⟨s0, s1, s2, s3⟩; go_simp
                        with_reducible rfl
                       rotate_left
                       ·
                        simp only [Act.put, List.setIfInBounds_toArray, List.set_cons_zero, List.set_cons_succ, i64_w, i32_w]; rfl
                       refine take_ (i := 31) (N := some 109) (v := ?_) (a' := ?_) #[true, true, true, true, true, true, true, true, true, true, true, true, true, true, true, true, true, true, true, true, true, true, true, true, true, true, true, true, true, true, true, true, false, false, false, false, false, false, false, false, false, false, false, false, false, false, false] rfl rfl (take_ofW HT_.out HW_.out (by kernel_rfl)) (fun _ _ _ h => h) (Or.inl ⟨by rfl, ?_⟩) hHeld ?_ ?_; rotate_left
                       ·
                        rintro w' ⟨s0, s1, s2, s3⟩; go_simp
                        with_reducible rfl
                       rotate_left
                       ·
                        simp only [Act.put, List.setIfInBounds_toArray, List.set_cons_zero, List.set_cons_succ, i64_w, i32_w]; rfl
                       refine take_ (i := 33) (N := some 111) (v := ?_) (a' := ?_) #[true, true, true, true, true, true, true, true, true, true, true, true, true, true, true, true, true, true, true, true, true, true, true, true, true, true, true, true, true, true, true, true, false, true, false, false, false, false, false, false, false, false, false, false, false, false, false] rfl rfl (take_ofW HT_.out HW_.out (by kernel_rfl)) (fun _ _ _ h => h) (Or.inl ⟨by rfl, ?_⟩) hHeld ?_ ?_; rotate_left
                       ·
                        rintro w' ⟨s0, s1, s2, s3⟩; go_simp
                        with_reducible rfl
                       rotate_left
                       ·
                        simp only [Act.put, List.setIfInBounds_toArray, List.set_cons_zero, List.set_cons_succ, i64_w, i32_w]; rfl
                       refine take_ (i := 34) (N := some 112) (v := ?_) (a' := ?_) #[true, true, true, true, true, true, true, true, true, true, true, true, true, true, true, true, true, true, true, true, true, true, true, true, true, true, true, true, true, true, true, true, false, true, true, false, false, false, false, false, false, false, false, false, false, false, false] rfl rfl (take_ofW HT_.out HW_.out (by kernel_rfl)) (fun _ _ _ h => h) (Or.inl ⟨by rfl, ?_⟩) hHeld ?_ ?_; rotate_left
                       ·
                        rintro w' ⟨s0, s1, s2, s3⟩; go_simp
                        with_reducible rfl
                       rotate_left
                       ·
                        simp only [Act.put, List.setIfInBounds_toArray, List.set_cons_zero, List.set_cons_succ, i64_w, i32_w]; rfl
                       refine one_ (i := 32) (N := some 110) #[true, true, true, true, true, true, true, true, true, true, true, true, true, true, true, true, true, true, true, true, true, true, true, true, true, true, true, true, true, true, true, true, true, true, true, false, false, false, false, false, false, false, false, false, false, false, false] rfl rfl (one_of HT_.out (by kernel_rfl)) (by decide) (fun K hK => ?_); refine goes_ Try.func17 (by kernel_rfl) rfl #[.agg #[.int .i64 ((rd_T26 y253 x56_2).f0), .string ((rd_T26 y253 x56_2).f1)], .agg #[.int .i64 ((rd_T26 y253 x74_4).f0), .string ((rd_T26 y253 x74_4).f1)]] (by rfl) rfl rfl (by (try simp only [List.map_toArray, List.map_cons, List.map_nil]); first | done | rfl | (simp only [List.length_drop, List.length_take]; rfl)) ?_
                       with_reducible refine (ballots_Covers.calls ((rd_T26 y253 x56_2).f0) ((rd_T26 y253 x56_2).f1) ((rd_T26 y253 x74_4).f0) ((rd_T26 y253 x74_4).f1) t275 _ A82.out).mono ?_
                       rintro e w94 ⟨rfl, hb⟩; refine ⟨_, rfl, ?_⟩; have n0_ := Aside0.mk (Kd.R_below (by (with_reducible repeat (first | apply Kd.R_alloc | apply Kd.R_drewN | apply Kd.R_drew)); exact HO_14.out) hb)
                       have n1_ := Aside0.mk (blk_below (g := gb262) (o := .cells #[.int .i64 ((rd_T26 y253 x56_2).f0), .string ((rd_T26 y253 x56_2).f1)] 26 (0, 0)) (by (with_reducible repeat (first | refine blk_drewN ?_ _ | refine blk_drew ?_ | refine blk_alloc ?_ _)); exact BK262.out) hb)
                       have n2_ := Aside0.mk (IsS48.below (by repeat (first | (with_reducible first | exact HI240.out | apply IsS48.alloc | apply IsS48.drewN | apply IsS48.drew | apply IsS48.set_1 | refine IsS48.far ?_ NB240_262.out _ | refine IsS48.far ?_ NB240_268.out _) | exact HI240.out)) hb); have n3_ := Aside0.mk (blk_below (g := gb268) (o := .cells #[.int .i64 ((rd_T26 y253 x74_4).f0), .string ((rd_T26 y253 x74_4).f1)] 26 (0, 0)) (by (with_reducible repeat (first | refine blk_drewN ?_ _ | refine blk_drew ?_ | refine blk_alloc ?_ _)); exact BK268.out) hb)
                       have n4_ := Aside0.mk (below_step (by repeat (first | (with_reducible first | exact HB.out | apply below_alloc | apply pw_below_drewN | apply below_drew1 | refine below_set ?_ (IsS48.ge HI240.out) | refine below_set ?_ GE262.out | refine below_set ?_ GE268.out) | exact HB.out)) hb); clear HO_14; clear BK262; clear HI240; clear BK268; clear HB; have HO_14 := n0_; have BK262 := n1_; have HI240 := n2_; have BK268 := n3_; have HB := n4_; clear n0_ n1_ n2_ n3_ n4_; (try clear hb); (try clear hb2); (try clear hk); (try clear hi); refine hK.out _ _ ⟨(blk_cell BK262.out 0).trans rfl, (blk_cell BK262.out 1).trans rfl, (blk_cell BK268.out 0).trans rfl, (blk_cell BK268.out 1).trans rfl⟩ (fun hHeld => ?_); clear hK K; refine norm_ (a' := ?_) ?_ ?_; rotate_left
                       ·
                        show Act.put _ (some 110) _ = _
                        simp only [Act.put, List.setIfInBounds_toArray, List.set_cons_zero, List.set_cons_succ, i64_w, i32_w]; rfl
                       refine one_ (i := 35) (N := some 113) #[true, true, true, true, true, true, true, true, true, true, true, true, true, true, true, true, true, true, true, true, true, true, true, true, true, true, true, true, true, true, true, true, true, true, true, true, false, false, false, false, false, false, false, false, false, false, false] rfl rfl (one_of HT_.out (by kernel_rfl)) (by decide) (fun K hK => ?_); refine goes_ Try.func34 (by kernel_rfl) rfl #[.agg #[.int .i64 ((rd_T26 y253 x56_2).f0), .string ((rd_T26 y253 x56_2).f1)], .agg #[.int .i64 ((rd_T26 y253 x74_4).f0), .string ((rd_T26 y253 x74_4).f1)]] (by rfl) rfl rfl (by (try simp only [List.map_toArray, List.map_cons, List.map_nil]); first | done | rfl | (simp only [List.length_drop, List.length_take]; rfl)) ?_
                       with_reducible refine (trustquorumref23_Covers.calls ((rd_T26 y253 x56_2).f0) ((rd_T26 y253 x56_2).f1) ((rd_T26 y253 x74_4).f0) ((rd_T26 y253 x74_4).f1) t276 _ A83.out).mono ?_
                       rintro e w95 ⟨rfl, hb⟩; refine ⟨_, rfl, ?_⟩; have n0_ := Aside0.mk (Kd.R_below (by (with_reducible repeat (first | apply Kd.R_alloc | apply Kd.R_drewN | apply Kd.R_drew)); exact HO_14.out) hb)
                       have n1_ := Aside0.mk (blk_below (g := gb262) (o := .cells #[.int .i64 ((rd_T26 y253 x56_2).f0), .string ((rd_T26 y253 x56_2).f1)] 26 (0, 0)) (by (with_reducible repeat (first | refine blk_drewN ?_ _ | refine blk_drew ?_ | refine blk_alloc ?_ _)); exact BK262.out) hb)
                       have n2_ := Aside0.mk (IsS48.below (by repeat (first | (with_reducible first | exact HI240.out | apply IsS48.alloc | apply IsS48.drewN | apply IsS48.drew | apply IsS48.set_1 | refine IsS48.far ?_ NB240_262.out _ | refine IsS48.far ?_ NB240_268.out _) | exact HI240.out)) hb); have n3_ := Aside0.mk (blk_below (g := gb268) (o := .cells #[.int .i64 ((rd_T26 y253 x74_4).f0), .string ((rd_T26 y253 x74_4).f1)] 26 (0, 0)) (by (with_reducible repeat (first | refine blk_drewN ?_ _ | refine blk_drew ?_ | refine blk_alloc ?_ _)); exact BK268.out) hb)
                       have n4_ := Aside0.mk (below_step (by repeat (first | (with_reducible first | exact HB.out | apply below_alloc | apply pw_below_drewN | apply below_drew1 | refine below_set ?_ (IsS48.ge HI240.out) | refine below_set ?_ GE262.out | refine below_set ?_ GE268.out) | exact HB.out)) hb); clear HO_14; clear BK262; clear HI240; clear BK268; clear HB; have HO_14 := n0_; have BK262 := n1_; have HI240 := n2_; have BK268 := n3_; have HB := n4_; clear n0_ n1_ n2_ n3_ n4_; (try clear hb); (try clear hb2); (try clear hk); (try clear hi); refine hK.out _ _ ⟨(blk_cell BK262.out 0).trans rfl, (blk_cell BK262.out 1).trans rfl, (blk_cell BK268.out 0).trans rfl, (blk_cell BK268.out 1).trans rfl⟩ (fun hHeld => ?_); clear hK K; refine norm_ (a' := ?_) ?_ ?_; rotate_left
                       ·
                        show Act.put _ (some 113) _ = _
                        simp only [Act.put, List.setIfInBounds_toArray, List.set_cons_zero, List.set_cons_succ, i64_w, i32_w]; rfl
                       refine pure_ (i := 36) (N := some 114) (v := ?_) (a' := ?_) #[true, true, true, true, true, true, true, true, true, true, true, true, true, true, true, true, true, true, true, true, true, true, true, true, true, true, true, true, true, true, true, true, true, true, true, true, true, false, false, false, false, false, false, false, false, false, false] rfl rfl (any_of HT_.out (by kernel_rfl)) (fun _ _ _ h => h) (Or.inl ⟨by rfl, ?_⟩) ?_ ?_; rotate_left
                       ·
                        intro w'; go_simp
                        with_reducible rfl
                       rotate_left
                       ·
                        simp only [Act.put, List.setIfInBounds_toArray, List.set_cons_zero, List.set_cons_succ, i64_w, i32_w]; rfl
                       refine pure_ (i := 37) (N := some 115) (v := ?_) (a' := ?_) #[true, true, true, true, true, true, true, true, true, true, true, true, true, true, true, true, true, true, true, true, true, true, true, true, true, true, true, true, true, true, true, true, true, true, true, true, true, true, false, false, false, false, false, false, false, false, false] rfl rfl (any_of HT_.out (by kernel_rfl)) (fun _ _ _ h => h) (Or.inl ⟨by rfl, ?_⟩) ?_ ?_; rotate_left
                       ·
                        intro w'; go_simp
                        with_reducible rfl
                       rotate_left
                       ·
                        simp only [Act.put, List.setIfInBounds_toArray, List.set_cons_zero, List.set_cons_succ, i64_w, i32_w]; rfl
                       refine pure_ (i := 38) (N := some 116) (v := ?_) (a' := ?_) #[true, true, true, true, true, true, true, true, true, true, true, true, true, true, true, true, true, true, true, true, true, true, true, true, true, true, true, true, true, true, true, true, true, true, true, true, true, true, true, false, false, false, false, false, false, false, false] rfl rfl (any_of HT_.out (by kernel_rfl)) (fun _ _ _ h => h) (Or.inl ⟨by rfl, ?_⟩) ?_ ?_; rotate_left
                       ·
                        intro w'; go_simp
                        with_reducible rfl
                       rotate_left
                       ·
                        simp only [Act.put, List.setIfInBounds_toArray, List.set_cons_zero, List.set_cons_succ, i64_w, i32_w]; rfl
                       refine take_ (i := 39) (N := some 117) (v := ?_) (a' := ?_) #[true, true, true, true, true, true, true, true, true, true, true, true, true, true, true, true, true, true, true, true, true, true, true, true, true, true, true, true, true, true, true, true, true, true, true, true, true, true, true, true, false, false, false, false, false, false, false] rfl rfl (take_ofW HT_.out HW_.out (by kernel_rfl)) (fun _ _ _ h => h) (Or.inl ⟨by rfl, ?_⟩) hHeld ?_ ?_; rotate_left
                       ·
                        rintro w' ⟨s0, s1, s2, s3⟩; go_simp
                        with_reducible rfl
                       rotate_left
                       ·
                        simp only [Act.put, List.setIfInBounds_toArray, List.set_cons_zero, List.set_cons_succ, i64_w, i32_w]; rfl
                       refine take_ (i := 40) (N := some 118) (v := ?_) (a' := ?_) #[true, true, true, true, true, true, true, true, true, true, true, true, true, true, true, true, true, true, true, true, true, true, true, true, true, true, true, true, true, true, true, true, true, true, true, true, true, true, true, true, true, false, false, false, false, false, false] rfl rfl (take_ofW HT_.out HW_.out (by kernel_rfl)) (fun _ _ _ h => h) (Or.inl ⟨by rfl, ?_⟩) hHeld ?_ ?_; rotate_left
                       ·
                        rintro w' ⟨s0, s1, s2, s3⟩; go_simp
                        with_reducible rfl
                       rotate_left
                       ·
                        simp only [Act.put, List.setIfInBounds_toArray, List.set_cons_zero, List.set_cons_succ, i64_w, i32_w]; rfl
                       refine take_ (i := 42) (N := some 120) (v := ?_) (a' := ?_) #[true, true, true, true, true, true, true, true, true, true, true, true, true, true, true, true, true, true, true, true, true, true, true, true, true, true, true, true, true, true, true, true, true, true, true, true, true, true, true, true, true, false, true, false, false, false, false] rfl rfl (take_ofW HT_.out HW_.out (by kernel_rfl)) (fun _ _ _ h => h) (Or.inl ⟨by rfl, ?_⟩) hHeld ?_ ?_; rotate_left
                       ·
                        rintro w' ⟨s0, s1, s2, s3⟩; go_simp
                        with_reducible rfl
                       rotate_left
                       ·
                        simp only [Act.put, List.setIfInBounds_toArray, List.set_cons_zero, List.set_cons_succ, i64_w, i32_w]; rfl
                       refine take_ (i := 43) (N := some 121) (v := ?_) (a' := ?_) #[true, true, true, true, true, true, true, true, true, true, true, true, true, true, true, true, true, true, true, true, true, true, true, true, true, true, true, true, true, true, true, true, true, true, true, true, true, true, true, true, true, false, true, true, false, false, false] rfl rfl (take_ofW HT_.out HW_.out (by kernel_rfl)) (fun _ _ _ h => h) (Or.inl ⟨by rfl, ?_⟩) hHeld ?_ ?_; rotate_left
                       ·
                        rintro w' ⟨s0, s1, s2, s3⟩; go_simp
                        with_reducible rfl
                       rotate_left
                       ·
                        simp only [Act.put, List.setIfInBounds_toArray, List.set_cons_zero, List.set_cons_succ, i64_w, i32_w]; rfl
                       refine one_ (i := 41) (N := some 119) #[true, true, true, true, true, true, true, true, true, true, true, true, true, true, true, true, true, true, true, true, true, true, true, true, true, true, true, true, true, true, true, true, true, true, true, true, true, true, true, true, true, true, true, true, false, false, false] rfl rfl (one_of HT_.out (by kernel_rfl)) (by decide) (fun K hK => ?_); refine goes_ Try.func18 (by kernel_rfl) rfl #[.agg #[.int .i64 ((rd_T26 y253 x56_2).f0), .string ((rd_T26 y253 x56_2).f1)], .agg #[.int .i64 ((rd_T26 y253 x74_4).f0), .string ((rd_T26 y253 x74_4).f1)]] (by rfl) rfl rfl (by (try simp only [List.map_toArray, List.map_cons, List.map_nil]); first | done | rfl | (simp only [List.length_drop, List.length_take]; rfl)) ?_
                       with_reducible refine (ballots_Aborts.calls k4 ((rd_T26 y253 x56_2).f0) ((rd_T26 y253 x56_2).f1) ((rd_T26 y253 x74_4).f0) ((rd_T26 y253 x74_4).f1) t277 _ A85.out).mono ?_
                       rintro e w96 ⟨rfl, hb⟩; refine ⟨_, rfl, ?_⟩; have n0_ := Aside0.mk (Kd.R_below (by (with_reducible repeat (first | apply Kd.R_alloc | apply Kd.R_drewN | apply Kd.R_drew)); exact HO_14.out) hb)
                       have n1_ := Aside0.mk (blk_below (g := gb262) (o := .cells #[.int .i64 ((rd_T26 y253 x56_2).f0), .string ((rd_T26 y253 x56_2).f1)] 26 (0, 0)) (by (with_reducible repeat (first | refine blk_drewN ?_ _ | refine blk_drew ?_ | refine blk_alloc ?_ _)); exact BK262.out) hb)
                       have n2_ := Aside0.mk (IsS48.below (by repeat (first | (with_reducible first | exact HI240.out | apply IsS48.alloc | apply IsS48.drewN | apply IsS48.drew | apply IsS48.set_1 | refine IsS48.far ?_ NB240_262.out _ | refine IsS48.far ?_ NB240_268.out _) | exact HI240.out)) hb); have n3_ := Aside0.mk (blk_below (g := gb268) (o := .cells #[.int .i64 ((rd_T26 y253 x74_4).f0), .string ((rd_T26 y253 x74_4).f1)] 26 (0, 0)) (by (with_reducible repeat (first | refine blk_drewN ?_ _ | refine blk_drew ?_ | refine blk_alloc ?_ _)); exact BK268.out) hb)
                       have n4_ := Aside0.mk (below_step (by repeat (first | (with_reducible first | exact HB.out | apply below_alloc | apply pw_below_drewN | apply below_drew1 | refine below_set ?_ (IsS48.ge HI240.out) | refine below_set ?_ GE262.out | refine below_set ?_ GE268.out) | exact HB.out)) hb); clear HO_14; clear BK262; clear HI240; clear BK268; clear HB; have HO_14 := n0_; have BK262 := n1_; have HI240 := n2_; have BK268 := n3_; have HB := n4_; clear n0_ n1_ n2_ n3_ n4_; (try clear hb); (try clear hb2); (try clear hk); (try clear hi); refine hK.out _ _ ⟨(blk_cell BK262.out 0).trans rfl, (blk_cell BK262.out 1).trans rfl, (blk_cell BK268.out 0).trans rfl, (blk_cell BK268.out 1).trans rfl⟩ (fun hHeld => ?_); clear hK K; refine norm_ (a' := ?_) ?_ ?_; rotate_left
                       ·
                        show Act.put _ (some 119) _ = _
                        simp only [Act.put, List.setIfInBounds_toArray, List.set_cons_zero, List.set_cons_succ, i64_w, i32_w]; rfl
                       refine one_ (i := 44) (N := some 122) #[true, true, true, true, true, true, true, true, true, true, true, true, true, true, true, true, true, true, true, true, true, true, true, true, true, true, true, true, true, true, true, true, true, true, true, true, true, true, true, true, true, true, true, true, true, false, false] rfl rfl (one_of HT_.out (by kernel_rfl)) (by decide) (fun K hK => ?_); refine goes_ Try.func13 (by kernel_rfl) rfl #[.agg #[.int .i64 ((rd_T26 y253 x56_2).f0), .string ((rd_T26 y253 x56_2).f1)], .agg #[.int .i64 ((rd_T26 y253 x74_4).f0), .string ((rd_T26 y253 x74_4).f1)]] (by rfl) rfl rfl (by (try simp only [List.map_toArray, List.map_cons, List.map_nil]); first | done | rfl | (simp only [List.length_drop, List.length_take]; rfl)) ?_
                       with_reducible refine (trustquorumref23_Aborts.calls ((rd_T26 y253 x56_2).f0) ((rd_T26 y253 x56_2).f1) ((rd_T26 y253 x74_4).f0) ((rd_T26 y253 x74_4).f1) t278 _ A86.out).mono ?_
                       rintro e w97 ⟨rfl, hb⟩; refine ⟨_, rfl, ?_⟩; have n0_ := Aside0.mk (Kd.R_below (by (with_reducible repeat (first | apply Kd.R_alloc | apply Kd.R_drewN | apply Kd.R_drew)); exact HO_14.out) hb)
                       have n1_ := Aside0.mk (blk_below (g := gb262) (o := .cells #[.int .i64 ((rd_T26 y253 x56_2).f0), .string ((rd_T26 y253 x56_2).f1)] 26 (0, 0)) (by (with_reducible repeat (first | refine blk_drewN ?_ _ | refine blk_drew ?_ | refine blk_alloc ?_ _)); exact BK262.out) hb)
                       have n2_ := Aside0.mk (IsS48.below (by repeat (first | (with_reducible first | exact HI240.out | apply IsS48.alloc | apply IsS48.drewN | apply IsS48.drew | apply IsS48.set_1 | refine IsS48.far ?_ NB240_262.out _ | refine IsS48.far ?_ NB240_268.out _) | exact HI240.out)) hb); have n3_ := Aside0.mk (blk_below (g := gb268) (o := .cells #[.int .i64 ((rd_T26 y253 x74_4).f0), .string ((rd_T26 y253 x74_4).f1)] 26 (0, 0)) (by (with_reducible repeat (first | refine blk_drewN ?_ _ | refine blk_drew ?_ | refine blk_alloc ?_ _)); exact BK268.out) hb)
                       have n4_ := Aside0.mk (below_step (by repeat (first | (with_reducible first | exact HB.out | apply below_alloc | apply pw_below_drewN | apply below_drew1 | refine below_set ?_ (IsS48.ge HI240.out) | refine below_set ?_ GE262.out | refine below_set ?_ GE268.out) | exact HB.out)) hb); clear HO_14; clear BK262; clear HI240; clear BK268; clear HB; have HO_14 := n0_; have BK262 := n1_; have HI240 := n2_; have BK268 := n3_; have HB := n4_; clear n0_ n1_ n2_ n3_ n4_; (try clear hb); (try clear hb2); (try clear hk); (try clear hi); refine hK.out _ _ ⟨(blk_cell BK262.out 0).trans rfl, (blk_cell BK262.out 1).trans rfl, (blk_cell BK268.out 0).trans rfl, (blk_cell BK268.out 1).trans rfl⟩ (fun hHeld => ?_); clear hK K; refine norm_ (a' := ?_) ?_ ?_; rotate_left
                       ·
                        show Act.put _ (some 122) _ = _
                        simp only [Act.put, List.setIfInBounds_toArray, List.set_cons_zero, List.set_cons_succ, i64_w, i32_w]; rfl
                       refine pure_ (i := 45) (N := some 123) (v := ?_) (a' := ?_) #[true, true, true, true, true, true, true, true, true, true, true, true, true, true, true, true, true, true, true, true, true, true, true, true, true, true, true, true, true, true, true, true, true, true, true, true, true, true, true, true, true, true, true, true, true, true, false] rfl rfl (any_of HT_.out (by kernel_rfl)) (fun _ _ _ h => h) (Or.inl ⟨by rfl, ?_⟩) ?_ ?_; rotate_left
                       ·
                        intro w'; go_simp
                        with_reducible rfl
                       rotate_left
                       ·
                        simp only [Act.put, List.setIfInBounds_toArray, List.set_cons_zero, List.set_cons_succ, i64_w, i32_w]; rfl
                       refine pure_ (i := 46) (N := some 124) (v := ?_) (a' := ?_) #[true, true, true, true, true, true, true, true, true, true, true, true, true, true, true, true, true, true, true, true, true, true, true, true, true, true, true, true, true, true, true, true, true, true, true, true, true, true, true, true, true, true, true, true, true, true, true] rfl rfl (any_of HT_.out (by kernel_rfl)) (fun _ _ _ h => h) (Or.inl ⟨by rfl, ?_⟩) ?_ ?_; rotate_left
                       ·
                        intro w'; go_simp
                        with_reducible rfl
                       rotate_left
                       ·
                        simp only [Act.put, List.setIfInBounds_toArray, List.set_cons_zero, List.set_cons_succ, i64_w, i32_w]; rfl
                       refine done_ (done_of HT_.out (by kernel_rfl)) ?_
                       try go_wp2
                       go_meet
                       case rel => exact ⟨_, ((t277 != t278)), (by first | rfl | (simp; done) | (simp [*]; done) | (refine congrArg (Value.int .i64) ?_; unfold wrap64; omega)), H', ⟨by have := HJ6.out; have := HK2.out; have := HJ48.out; have := HK4.out; first | omega | exact Nat.le_refl _⟩, ⟨by (with_reducible repeat (first | apply Kd.R_alloc | apply Kd.R_drewN | apply Kd.R_drew)); exact HO_14.out⟩, ⟨by (with_reducible repeat (first | refine blk_drewN ?_ _ | refine blk_drew ?_ | refine blk_alloc ?_ _)); exact BK262.out⟩, ⟨by (with_reducible repeat (first | refine blk_drewN ?_ _ | refine blk_drew ?_ | refine blk_alloc ?_ _)); exact BK268.out⟩, ⟨by repeat (first | (with_reducible first | exact HI240.out | apply IsS48.alloc | apply IsS48.drewN | apply IsS48.drew | apply IsS48.set_1 | refine IsS48.far ?_ NB240_262.out _ | refine IsS48.far ?_ NB240_268.out _) | exact HI240.out)⟩, ⟨by repeat (first | (with_reducible first | exact HB.out | apply below_alloc | apply pw_below_drewN | apply below_drew1 | refine below_set ?_ (IsS48.ge HI240.out) | refine below_set ?_ GE262.out | refine below_set ?_ GE268.out) | exact HB.out)⟩⟩
                  case rest =>
                   clear HC68; (try clear c1); (try clear c2); (try clear p2); (try clear c3); (try clear p6); (try clear c13); (try clear c16); (try clear c17); (try clear c18); (try clear c19); (try clear c20); (try clear c21); (try clear c32); (try clear c33); (try clear c34); (try clear p64); obtain ⟨kq, x124_67, rfl, HA, HJ67, HO_14, BK262, BK268, HI240, HB⟩ := hcut
                   cases kq with
                   | zero => exact absurd HA.out (by simp [trustquorumlaw23_BallotsExact.j4])
                   | succ kj67 =>
                    have H := HA.out; clear HA; simp only [trustquorumlaw23_BallotsExact.j4] at H
                    by_cases c98 : x124_67 = true
                    ·
                     subst c98; have H1 : (some false) = some r := by rw [if_pos rfl] at H; exact H
                     clear H; have H := H1; clear H1; exact absurd ((Option.some.inj H).trans HRT.out) (by decide)
                    ·
                     replace c98 := Bool.eq_false_iff.mpr c98; subst c98; have H1 : (trustquorumlaw23_BallotsExact.l2 kj67 a5 y253 (y253.length : Int) x56_2 (y253.length : Int) x74_4 (y253.length : Int) 0 t238 x241001_4 ((rd_T26 y253 x56_2).f0) ((rd_T26 y253 x56_2).f1) ((rd_T26 y253 x74_4).f0) ((rd_T26 y253 x74_4).f1)) = some r := by rw [if_neg (show ¬ (false = true) by decide)] at H; exact H
                     clear H; have H := H1; clear H1; have H' := Aside0.mk H; clear H
                     go_wp2
                     go_loopg [127] kj67 (fun kq v127 w' => ∃ (x127_6 : Int), v127 = .int .i64 x127_6 ∧ Aside0 (trustquorumlaw23_BallotsExact.l2 kq a5 y253 (y253.length : Int) x56_2 (y253.length : Int) x74_4 (y253.length : Int) x127_6 t238 x241001_4 ((rd_T26 y253 x56_2).f0) ((rd_T26 y253 x56_2).f1) ((rd_T26 y253 x74_4).f0) ((rd_T26 y253 x74_4).f1) = some r) ∧ Aside0 (kq ≤ kj67) ∧ Aside0 (Kd.R k26 26 w' w.heap.size (fun k_ => k_ ≠ gb262 ∧ k_ ≠ gb268) (.slice (some ad261) y253.length co45) y253) ∧ Aside0 (w'.heap[gb262]? = some (.cells #[.int .i64 ((rd_T26 y253 x56_2).f0), .string ((rd_T26 y253 x56_2).f1)] 26 (0, 0))) ∧ Aside0 (w'.heap[gb268]? = some (.cells #[.int .i64 ((rd_T26 y253 x74_4).f0), .string ((rd_T26 y253 x74_4).f1)] 26 (0, 0))) ∧ Aside0 (IsS48 w w' g240 t238 x241001_4) ∧ Aside0 (Below w.heap.size w w'))
                     case atStart => exact ⟨(0), (by first | rfl | (simp; done) | (simp [*]; done) | (refine congrArg (Value.int .i64) ?_; unfold wrap64; omega)), H', ⟨Nat.le_refl _⟩, ⟨by (with_reducible repeat (first | apply Kd.R_alloc | apply Kd.R_drewN | apply Kd.R_drew)); exact HO_14.out⟩, ⟨by (with_reducible repeat (first | refine blk_drewN ?_ _ | refine blk_drew ?_ | refine blk_alloc ?_ _)); exact BK262.out⟩, ⟨by (with_reducible repeat (first | refine blk_drewN ?_ _ | refine blk_drew ?_ | refine blk_alloc ?_ _)); exact BK268.out⟩, ⟨by repeat (first | (with_reducible first | exact HI240.out | apply IsS48.alloc | apply IsS48.drewN | apply IsS48.drew | apply IsS48.set_1 | refine IsS48.far ?_ NB240_262.out _ | refine IsS48.far ?_ NB240_268.out _) | exact HI240.out)⟩, ⟨by repeat (first | (with_reducible first | exact HB.out | apply below_alloc | apply pw_below_drewN | apply below_drew1 | refine below_set ?_ (IsS48.ge HI240.out) | refine below_set ?_ GE262.out | refine below_set ?_ GE268.out) | exact HB.out)⟩⟩
                     case round =>
                      clear H'; (try clear c1); (try clear c2); (try clear p2); (try clear c3); (try clear p6); (try clear c9); (try clear c13); (try clear c16); (try clear c17); (try clear c18); (try clear c19); (try clear c20); (try clear c21); (try clear c32); (try clear c33); (try clear c34); (try clear p64); (try clear c98); (try clear p2); (try clear p6); (try clear p64); obtain ⟨x127_6, rfl, HA, HK6, HO_14, BK262, BK268, HI240, HB⟩ := hrel
                      cases gk with
                      | zero => exact absurd HA.out (by simp [trustquorumlaw23_BallotsExact.l2])
                      | succ k6 =>
                       have H := HA.out; clear HA; simp only [trustquorumlaw23_BallotsExact.l2] at H
                       by_cases c99 : x127_6 < (y253.length : Int)
                       ·
                        rw [if_pos c99] at H; have c99b0 : decide (x127_6 < (y253.length : Int)) = true := decide_eq_true c99; clear c99
                        by_cases c100 : 0 ≤ x127_6
                        ·
                         rw [if_pos c100] at H; have c100b0 : decide (0 ≤ x127_6) = true := decide_eq_true c100; clear c100
                         by_cases c101 : x127_6 < (y253.length : Int)
                         ·
                          rw [if_pos c101] at H; have c101b0 : decide (x127_6 < (y253.length : Int)) = true := decide_eq_true c101; clear c101; replace H := Option.bind_eq_some_iff.mp H; obtain ⟨t281, A1020, H⟩ := H; replace H : ((trustquorumref23_Prepares.f ((rd_T26 y253 x56_2).f0) ((rd_T26 y253 x56_2).f1) ((rd_T26 y253 x74_4).f0) ((rd_T26 y253 x74_4).f1) ((rd_T26 y253 x127_6).f0) ((rd_T26 y253 x127_6).f1)).bind fun t282 => (if (t281 != t282) = true then (some false) else (trustquorumlaw23_BallotsExact.l2 k6 a5 y253 (y253.length : Int) x56_2 (y253.length : Int) x74_4 (y253.length : Int) (wrap64 (x127_6 + 1)) t238 x241001_4 ((rd_T26 y253 x56_2).f0) ((rd_T26 y253 x56_2).f1) ((rd_T26 y253 x74_4).f0) ((rd_T26 y253 x74_4).f1)))) = some r := H; have A102 := Aside0.mk A1020; clear A1020; replace H := Option.bind_eq_some_iff.mp H; obtain ⟨t282, A1030, H⟩ := H; replace H : (if (t281 != t282) = true then (some false) else (trustquorumlaw23_BallotsExact.l2 k6 a5 y253 (y253.length : Int) x56_2 (y253.length : Int) x74_4 (y253.length : Int) (wrap64 (x127_6 + 1)) t238 x241001_4 ((rd_T26 y253 x56_2).f0) ((rd_T26 y253 x56_2).f1) ((rd_T26 y253 x74_4).f0) ((rd_T26 y253 x74_4).f1))) = some r := H; have A103 := Aside0.mk A1030; clear A1030
                          by_cases c104 : (t281 != t282) = true
                          ·
                           rw [if_pos c104] at H; have c104b0 : (t281 != t282) = true := c104; (try (have c104b1 : decide (t281 = t282) = false := by simpa using c104)); (try (have c104b2 : (t281 == t282) = false := by simpa using c104)); (try (have c104b3 : ¬ (t281 = t282) := by simpa using c104)); clear c104; exact absurd ((Option.some.inj H).trans HRT.out) (by decide)
                          ·
                           rw [if_neg c104] at H; have c104b0 : (t281 != t282) = false := by simpa using c104
                           (try (have c104b1 : decide (t281 = t282) = true := by simpa using c104)); (try (have c104b2 : (t281 == t282) = true := by simpa using c104)); clear c104; have H' := Aside0.mk H; clear H; have p279 : 0 ≤ (x127_6 : Int) := of_decide_eq_true (by first | (with_reducible assumption) | assumption); have q279 : x127_6 < (y253.length : Int) := of_decide_eq_true (by first | (with_reducible assumption) | assumption); obtain ⟨ad279, e279, hx279_0, hx279_1⟩ := at_T26 (Kd.R_reads' HO_14.out).2.2 x127_6 p279 q279; obtain rfl : ad261 = ad279 := (by injection e279); replace p279 := eq_true p279; replace q279 := eq_true q279
                           try go_wp2_with (first | ((with_reducible refine gate_dst (N := 20) rfl ?_); (try (refine gate_guard (by rfl) ?_; dsimp only)); refine box_event ?hg (N := 20) ?hd (cs := #[.int .i64 0, .string (⟨#[]⟩ : ByteArray)]) (t := 26) ?hr ?_; (case hd => rfl); (case hg => rfl); (case hr => first | (go_simp; done) | (go_simp; rfl)); intro gb280 hg w105 hbox hb; have n0_ := Aside0.mk (Kd.R_below (Kd.R_elderB (by (with_reducible repeat (first | apply Kd.R_alloc | apply Kd.R_drewN | apply Kd.R_drew)); exact HO_14.out) gb280 (Nat.le_of_eq hg.symm)) hb); have n1_ := Aside0.mk (blk_below (g := gb262) (o := .cells #[.int .i64 ((rd_T26 y253 x56_2).f0), .string ((rd_T26 y253 x56_2).f1)] 26 (0, 0)) (by (with_reducible repeat (first | refine blk_drewN ?_ _ | refine blk_drew ?_ | refine blk_alloc ?_ _)); exact BK262.out) hb); have n2_ := Aside0.mk (blk_below (g := gb268) (o := .cells #[.int .i64 ((rd_T26 y253 x74_4).f0), .string ((rd_T26 y253 x74_4).f1)] 26 (0, 0)) (by (with_reducible repeat (first | refine blk_drewN ?_ _ | refine blk_drew ?_ | refine blk_alloc ?_ _)); exact BK268.out) hb); have n3_ := Aside0.mk (IsS48.below (by repeat (first | (with_reducible first | exact HI240.out | apply IsS48.alloc | apply IsS48.drewN | apply IsS48.drew | apply IsS48.set_1 | refine IsS48.far ?_ NB240_262.out _ | refine IsS48.far ?_ NB240_268.out _) | exact HI240.out)) hb); have n4_ := Aside0.mk (below_step (by repeat (first | (with_reducible first | exact HB.out | apply below_alloc | apply pw_below_drewN | apply below_drew1 | refine below_set ?_ (IsS48.ge HI240.out) | refine below_set ?_ GE262.out | refine below_set ?_ GE268.out) | exact HB.out)) hb); have n5_ := Aside0.mk (hbox); have n6_ := Aside0.mk ((by rw [hg]; exact (below_size (by repeat (first | (with_reducible first | exact HB.out | apply below_alloc | apply pw_below_drewN | apply below_drew1 | refine below_set ?_ (IsS48.ge HI240.out) | refine below_set ?_ GE262.out | refine below_set ?_ GE268.out) | exact HB.out))) : w.heap.size ≤ gb280)); have n7_ := Aside0.mk ((by rw [hg]; exact (below_size (by repeat (first | (with_reducible first | exact HB.out | apply below_alloc | apply pw_below_drewN | apply below_drew1 | refine below_set ?_ (IsS48.ge HI240.out) | refine below_set ?_ GE262.out | refine below_set ?_ GE268.out) | exact HB.out))) : w.heap.size ≤ gb280)); have n8_ := Aside0.mk ((by rw [hg]; exact Nat.ne_of_lt (blk_lt (g := gb262) (o := .cells #[.int .i64 ((rd_T26 y253 x56_2).f0), .string ((rd_T26 y253 x56_2).f1)] 26 (0, 0)) (by (with_reducible repeat (first | refine blk_drewN ?_ _ | refine blk_drew ?_ | refine blk_alloc ?_ _)); exact BK262.out)) : gb262 ≠ gb280)); have n9_ := Aside0.mk ((by rw [hg]; exact Nat.ne_of_gt (blk_lt (g := gb262) (o := .cells #[.int .i64 ((rd_T26 y253 x56_2).f0), .string ((rd_T26 y253 x56_2).f1)] 26 (0, 0)) (by (with_reducible repeat (first | refine blk_drewN ?_ _ | refine blk_drew ?_ | refine blk_alloc ?_ _)); exact BK262.out)) : gb280 ≠ gb262)); have n10_ := Aside0.mk ((by rw [hg]; exact Nat.ne_of_lt (blk_lt (g := gb268) (o := .cells #[.int .i64 ((rd_T26 y253 x74_4).f0), .string ((rd_T26 y253 x74_4).f1)] 26 (0, 0)) (by (with_reducible repeat (first | refine blk_drewN ?_ _ | refine blk_drew ?_ | refine blk_alloc ?_ _)); exact BK268.out)) : gb268 ≠ gb280)); have n11_ := Aside0.mk ((by rw [hg]; exact Nat.ne_of_gt (blk_lt (g := gb268) (o := .cells #[.int .i64 ((rd_T26 y253 x74_4).f0), .string ((rd_T26 y253 x74_4).f1)] 26 (0, 0)) (by (with_reducible repeat (first | refine blk_drewN ?_ _ | refine blk_drew ?_ | refine blk_alloc ?_ _)); exact BK268.out)) : gb280 ≠ gb268)); have n12_ := Aside0.mk ((by rw [hg]; exact Nat.ne_of_lt (IsS48.lt (show IsS48 w _ g240 t238 x241001_4 from by repeat (first | (with_reducible first | exact HI240.out | apply IsS48.alloc | apply IsS48.drewN | apply IsS48.drew | apply IsS48.set_1 | refine IsS48.far ?_ NB240_262.out _ | refine IsS48.far ?_ NB240_268.out _) | exact HI240.out))) : g240 ≠ gb280)); have n13_ := Aside0.mk ((by rw [hg]; exact Nat.ne_of_gt (IsS48.lt (show IsS48 w _ g240 t238 x241001_4 from by repeat (first | (with_reducible first | exact HI240.out | apply IsS48.alloc | apply IsS48.drewN | apply IsS48.drew | apply IsS48.set_1 | refine IsS48.far ?_ NB240_262.out _ | refine IsS48.far ?_ NB240_268.out _) | exact HI240.out))) : gb280 ≠ g240)); clear HO_14; clear BK262; clear BK268; clear HI240; clear HB; have HO_14 := n0_; have BK262 := n1_; have BK268 := n2_; have HI240 := n3_; have HB := n4_; have BK280 := n5_; have GW280 := n6_; have GE280 := n7_; have NB262_280 := n8_; have NB280_262 := n9_; have NB268_280 := n10_; have NB280_268 := n11_; have NB240_280 := n12_; have NB280_240 := n13_; clear n0_ n1_ n2_ n3_ n4_ n5_ n6_ n7_ n8_ n9_ n10_ n11_ n12_ n13_; clear hb hbox hg; have hnb106 := NB280_262.out; have hnc106 := NB262_280.out; have hnb107 := NB280_268.out; have hnc107 := NB268_280.out; have hnb108 := NB280_240.out; have hnc108 := NB240_280.out; have hcz109_0 : w105.cell? ⟨gb280, 0, none⟩ = some (.int .i64 0) := (blk_cell BK280.out 0).trans rfl; have hcz109_1 : w105.cell? ⟨gb280, 1, none⟩ = some (.string (⟨#[]⟩ : ByteArray)) := (blk_cell BK280.out 1).trans rfl; have hfz109_0 := blk_frozen BK280.out 0; have hfz109_1 := blk_frozen BK280.out 1))
                           have n0_ : Aside0 (Kd.R k26 26 ((w105.setCell ⟨gb280, 0, none⟩ (.int .i64 ((rd_T26 y253 x127_6).f0))).setCell ⟨gb280, 1, none⟩ (.string ((rd_T26 y253 x127_6).f1))) w.heap.size (fun k_ => k_ ≠ gb262 ∧ k_ ≠ gb268 ∧ k_ ≠ gb280) (.slice (some ad261) y253.length co45) y253) := ⟨by (with_reducible repeat (first | apply Kd.R_alloc | apply Kd.R_drewN | apply Kd.R_drew)); exact Kd.R_mono (Kd.R_far (p := ⟨gb280, 1, none⟩) (Kd.R_far (p := ⟨gb280, 0, none⟩) (Kd.R_mono HO_14.out (fun k_ hk => (⟨hk, hk.2⟩ : _ ∧ k_ ≠ gb280))) (fun _ hk => hk.2) (.int .i64 ((rd_T26 y253 x127_6).f0))) (fun _ hk => hk.2) (.string ((rd_T26 y253 x127_6).f1))) (fun _ hk => ⟨hk.1.1.1, ⟨hk.1.1.2, hk.1.2⟩⟩)⟩
                           have n1_ : Aside0 (((w105.setCell ⟨gb280, 0, none⟩ (.int .i64 ((rd_T26 y253 x127_6).f0))).setCell ⟨gb280, 1, none⟩ (.string ((rd_T26 y253 x127_6).f1))).heap[gb262]? = some (.cells #[.int .i64 ((rd_T26 y253 x56_2).f0), .string ((rd_T26 y253 x56_2).f1)] 26 (0, 0))) := ⟨by (with_reducible repeat (first | refine blk_drewN ?_ _ | refine blk_drew ?_ | refine blk_alloc ?_ _)); refine blk_far ?_ NB262_280.out _; (with_reducible repeat (first | refine blk_drewN ?_ _ | refine blk_drew ?_ | refine blk_alloc ?_ _)); refine blk_far ?_ NB262_280.out _; (with_reducible repeat (first | refine blk_drewN ?_ _ | refine blk_drew ?_ | refine blk_alloc ?_ _)); exact BK262.out⟩
                           have n2_ : Aside0 (((w105.setCell ⟨gb280, 0, none⟩ (.int .i64 ((rd_T26 y253 x127_6).f0))).setCell ⟨gb280, 1, none⟩ (.string ((rd_T26 y253 x127_6).f1))).heap[gb268]? = some (.cells #[.int .i64 ((rd_T26 y253 x74_4).f0), .string ((rd_T26 y253 x74_4).f1)] 26 (0, 0))) := ⟨by (with_reducible repeat (first | refine blk_drewN ?_ _ | refine blk_drew ?_ | refine blk_alloc ?_ _)); refine blk_far ?_ NB268_280.out _; (with_reducible repeat (first | refine blk_drewN ?_ _ | refine blk_drew ?_ | refine blk_alloc ?_ _)); refine blk_far ?_ NB268_280.out _; (with_reducible repeat (first | refine blk_drewN ?_ _ | refine blk_drew ?_ | refine blk_alloc ?_ _)); exact BK268.out⟩
                           have n3_ : Aside0 (((w105.setCell ⟨gb280, 0, none⟩ (.int .i64 ((rd_T26 y253 x127_6).f0))).setCell ⟨gb280, 1, none⟩ (.string ((rd_T26 y253 x127_6).f1))).heap[gb280]? = some (.cells #[.int .i64 ((rd_T26 y253 x127_6).f0), .string ((rd_T26 y253 x127_6).f1)] 26 (0, 0))) := ⟨by (with_reducible repeat (first | refine blk_drewN ?_ _ | refine blk_drew ?_ | refine blk_alloc ?_ _)); refine blk_put (cs := #[.int .i64 ((rd_T26 y253 x127_6).f0), .string (⟨#[]⟩ : ByteArray)]) ?_ 1 _ rfl; (with_reducible repeat (first | refine blk_drewN ?_ _ | refine blk_drew ?_ | refine blk_alloc ?_ _)); refine blk_put (cs := #[.int .i64 0, .string (⟨#[]⟩ : ByteArray)]) ?_ 0 _ rfl; (with_reducible repeat (first | refine blk_drewN ?_ _ | refine blk_drew ?_ | refine blk_alloc ?_ _)); exact BK280.out⟩
                           have n4_ : Aside0 (IsS48 w ((w105.setCell ⟨gb280, 0, none⟩ (.int .i64 ((rd_T26 y253 x127_6).f0))).setCell ⟨gb280, 1, none⟩ (.string ((rd_T26 y253 x127_6).f1))) g240 t238 x241001_4) := ⟨by repeat (first | (with_reducible first | exact HI240.out | apply IsS48.alloc | apply IsS48.drewN | apply IsS48.drew | apply IsS48.set_1 | refine IsS48.far ?_ NB240_262.out _ | refine IsS48.far ?_ NB240_268.out _ | refine IsS48.far ?_ NB240_280.out _) | exact HI240.out)⟩; have n5_ : Aside0 (Below w.heap.size w ((w105.setCell ⟨gb280, 0, none⟩ (.int .i64 ((rd_T26 y253 x127_6).f0))).setCell ⟨gb280, 1, none⟩ (.string ((rd_T26 y253 x127_6).f1)))) := ⟨by repeat (first | (with_reducible first | exact HB.out | apply below_alloc | apply pw_below_drewN | apply below_drew1 | refine below_set ?_ (IsS48.ge HI240.out) | refine below_set ?_ GE262.out | refine below_set ?_ GE268.out | refine below_set ?_ GE280.out) | exact HB.out)⟩; (try clear HO_14); (try clear BK262); (try clear BK268); (try clear BK280); (try clear HI240); (try clear HB); generalize ((w105.setCell ⟨gb280, 0, none⟩ (.int .i64 ((rd_T26 y253 x127_6).f0))).setCell ⟨gb280, 1, none⟩ (.string ((rd_T26 y253 x127_6).f1))) = w110 at n0_ n1_ n2_ n3_ n4_ n5_ ⊢; have HO_14 := n0_; have BK262 := n1_; have BK268 := n2_; have BK280 := n3_; have HI240 := n4_; have HB := n5_; clear n0_ n1_ n2_ n3_ n4_ n5_; have n0_ := Aside0.mk (Kd.R_drew HO_14.out); have n1_ := Aside0.mk (blk_drew BK262.out); have n2_ := Aside0.mk (blk_drew BK268.out); have n3_ := Aside0.mk (blk_drew BK280.out)
                           have n4_ := Aside0.mk (IsS48.drew HI240.out); have n5_ := Aside0.mk (below_drew1 HB.out); clear HO_14; clear BK262; clear BK268; clear BK280; clear HI240; clear HB; have HO_14 := n0_; have BK262 := n1_; have BK268 := n2_; have BK280 := n3_; have HI240 := n4_; have HB := n5_; clear n0_ n1_ n2_ n3_ n4_ n5_; refine start_ (n := 9) (S := fun w' => w'.cell? ⟨gb262, 0, none⟩ = some (.int .i64 ((rd_T26 y253 x56_2).f0)) ∧ w'.cell? ⟨gb262, 1, none⟩ = some (.string ((rd_T26 y253 x56_2).f1)) ∧ w'.cell? ⟨gb268, 0, none⟩ = some (.int .i64 ((rd_T26 y253 x74_4).f0)) ∧ w'.cell? ⟨gb268, 1, none⟩ = some (.string ((rd_T26 y253 x74_4).f1)) ∧ w'.cell? ⟨gb280, 0, none⟩ = some (.int .i64 ((rd_T26 y253 x127_6).f0)) ∧ w'.cell? ⟨gb280, 1, none⟩ = some (.string ((rd_T26 y253 x127_6).f1))) (ds := []) #[false, false, false, false, false, false, false, false, false] (by kernel_rfl) rfl rfl ⟨(blk_cell BK262.out 0).trans rfl, (blk_cell BK262.out 1).trans rfl, (blk_cell BK268.out 0).trans rfl, (blk_cell BK268.out 1).trans rfl, (blk_cell BK280.out 0).trans rfl, (blk_cell BK280.out 1).trans rfl⟩ (fun hHeld => ?_); refine with_tabW trustquorumlaw23_BallotsExact.tab20 trustquorumlaw23_BallotsExact.bits20 (fun HT_ HW_ => ?_); generalize w110.drew = w111 at HO_14 BK262 BK268 BK280 HI240 HB hHeld ⊢; refine take_ (i := 0) (N := some 131) (v := ?_) (a' := ?_) #[true, false, false, false, false, false, false, false, false] rfl rfl (take_ofW HT_.out HW_.out (by kernel_rfl)) (fun _ _ _ h => h) (Or.inl ⟨by rfl, ?_⟩) hHeld ?_ ?_
                           rotate_left
                           ·
                            rintro w' ⟨s0, s1, s2, s3, s4, s5⟩; go_simp
                            with_reducible rfl
                           rotate_left
                           ·
                            simp only [Act.put, List.setIfInBounds_toArray, List.set_cons_zero, List.set_cons_succ, i64_w, i32_w]; rfl
                           refine take_ (i := 1) (N := some 132) (v := ?_) (a' := ?_) #[true, true, false, false, false, false, false, false, false] rfl rfl (take_ofW HT_.out HW_.out (by kernel_rfl)) (fun _ _ _ h => h) (Or.inl ⟨by rfl, ?_⟩) hHeld ?_ ?_; rotate_left
                           ·
                            rintro w' ⟨s0, s1, s2, s3, s4, s5⟩; go_simp
                            with_reducible rfl
                           rotate_left
                           ·
                            simp only [Act.put, List.setIfInBounds_toArray, List.set_cons_zero, List.set_cons_succ, i64_w, i32_w]; rfl
                           refine take_ (i := 2) (N := some 133) (v := ?_) (a' := ?_) #[true, true, true, false, false, false, false, false, false] rfl rfl (take_ofW HT_.out HW_.out (by kernel_rfl)) (fun _ _ _ h => h) (Or.inl ⟨by rfl, ?_⟩) hHeld ?_ ?_; rotate_left
                           ·
                            rintro w' ⟨s0, s1, s2, s3, s4, s5⟩; go_simp
                            with_reducible rfl
                           rotate_left
                           ·
                            simp only [Act.put, List.setIfInBounds_toArray, List.set_cons_zero, List.set_cons_succ, i64_w, i32_w]; rfl
                           refine take_ (i := 4) (N := some 135) (v := ?_) (a' := ?_) #[true, true, true, false, true, false, false, false, false] rfl rfl (take_ofW HT_.out HW_.out (by kernel_rfl)) (fun _ _ _ h => h) (Or.inl ⟨by rfl, ?_⟩) hHeld ?_ ?_; rotate_left
                           ·
                            rintro w' ⟨s0, s1, s2, s3, s4, s5⟩; go_simp
                            with_reducible rfl
                           rotate_left
                           ·
                            simp only [Act.put, List.setIfInBounds_toArray, List.set_cons_zero, List.set_cons_succ, i64_w, i32_w]; rfl
                           refine take_ (i := 5) (N := some 136) (v := ?_) (a' := ?_) #[true, true, true, false, true, true, false, false, false] rfl rfl (take_ofW HT_.out HW_.out (by kernel_rfl)) (fun _ _ _ h => h) (Or.inl ⟨by rfl, ?_⟩) hHeld ?_ ?_; rotate_left
                           ·
                            rintro w' ⟨s0, s1, s2, s3, s4, s5⟩; go_simp
                            with_reducible rfl
                           rotate_left
                           ·
                            simp only [Act.put, List.setIfInBounds_toArray, List.set_cons_zero, List.set_cons_succ, i64_w, i32_w]; rfl
                           refine take_ (i := 6) (N := some 137) (v := ?_) (a' := ?_) #[true, true, true, false, true, true, true, false, false] rfl rfl (take_ofW HT_.out HW_.out (by kernel_rfl)) (fun _ _ _ h => h) (Or.inl ⟨by rfl, ?_⟩) hHeld ?_ ?_; rotate_left
                           ·
                            rintro w' ⟨s0, s1, s2, s3, s4, s5⟩; go_simp
                            with_reducible rfl
                           rotate_left
                           ·
                            simp only [Act.put, List.setIfInBounds_toArray, List.set_cons_zero, List.set_cons_succ, i64_w, i32_w]; rfl
                           refine one_ (i := 3) (N := some 134) #[true, true, true, true, true, true, true, false, false] rfl rfl (one_of HT_.out (by kernel_rfl)) (by decide) (fun K hK => ?_); refine goes_ Try.func22 (by kernel_rfl) rfl #[.agg #[.int .i64 ((rd_T26 y253 x56_2).f0), .string ((rd_T26 y253 x56_2).f1)], .agg #[.int .i64 ((rd_T26 y253 x74_4).f0), .string ((rd_T26 y253 x74_4).f1)], .agg #[.int .i64 ((rd_T26 y253 x127_6).f0), .string ((rd_T26 y253 x127_6).f1)]] (by rfl) rfl rfl (by (try simp only [List.map_toArray, List.map_cons, List.map_nil]); first | done | rfl | (simp only [List.length_drop, List.length_take]; rfl)) ?_
                           with_reducible refine (ballots_Prepares.calls k6 ((rd_T26 y253 x56_2).f0) ((rd_T26 y253 x56_2).f1) ((rd_T26 y253 x74_4).f0) ((rd_T26 y253 x74_4).f1) ((rd_T26 y253 x127_6).f0) ((rd_T26 y253 x127_6).f1) t281 _ A102.out).mono ?_
                           rintro e w112 ⟨rfl, hb⟩; refine ⟨_, rfl, ?_⟩; have n0_ := Aside0.mk (Kd.R_below (by (with_reducible repeat (first | apply Kd.R_alloc | apply Kd.R_drewN | apply Kd.R_drew)); exact HO_14.out) hb)
                           have n1_ := Aside0.mk (blk_below (g := gb262) (o := .cells #[.int .i64 ((rd_T26 y253 x56_2).f0), .string ((rd_T26 y253 x56_2).f1)] 26 (0, 0)) (by (with_reducible repeat (first | refine blk_drewN ?_ _ | refine blk_drew ?_ | refine blk_alloc ?_ _)); exact BK262.out) hb)
                           have n2_ := Aside0.mk (blk_below (g := gb268) (o := .cells #[.int .i64 ((rd_T26 y253 x74_4).f0), .string ((rd_T26 y253 x74_4).f1)] 26 (0, 0)) (by (with_reducible repeat (first | refine blk_drewN ?_ _ | refine blk_drew ?_ | refine blk_alloc ?_ _)); exact BK268.out) hb)
                           have n3_ := Aside0.mk (IsS48.below (by repeat (first | (with_reducible first | exact HI240.out | apply IsS48.alloc | apply IsS48.drewN | apply IsS48.drew | apply IsS48.set_1 | refine IsS48.far ?_ NB240_262.out _ | refine IsS48.far ?_ NB240_268.out _ | refine IsS48.far ?_ NB240_280.out _) | exact HI240.out)) hb); have n4_ := Aside0.mk (blk_below (g := gb280) (o := .cells #[.int .i64 ((rd_T26 y253 x127_6).f0), .string ((rd_T26 y253 x127_6).f1)] 26 (0, 0)) (by (with_reducible repeat (first | refine blk_drewN ?_ _ | refine blk_drew ?_ | refine blk_alloc ?_ _)); exact BK280.out) hb)
                           have n5_ := Aside0.mk (below_step (by repeat (first | (with_reducible first | exact HB.out | apply below_alloc | apply pw_below_drewN | apply below_drew1 | refine below_set ?_ (IsS48.ge HI240.out) | refine below_set ?_ GE262.out | refine below_set ?_ GE268.out | refine below_set ?_ GE280.out) | exact HB.out)) hb); clear HO_14; clear BK262; clear BK268; clear HI240; clear BK280; clear HB; have HO_14 := n0_; have BK262 := n1_; have BK268 := n2_; have HI240 := n3_; have BK280 := n4_; have HB := n5_; clear n0_ n1_ n2_ n3_ n4_ n5_; (try clear hb); (try clear hb2); (try clear hk); (try clear hi); refine hK.out _ _ ⟨(blk_cell BK262.out 0).trans rfl, (blk_cell BK262.out 1).trans rfl, (blk_cell BK268.out 0).trans rfl, (blk_cell BK268.out 1).trans rfl, (blk_cell BK280.out 0).trans rfl, (blk_cell BK280.out 1).trans rfl⟩ (fun hHeld => ?_); clear hK K; refine norm_ (a' := ?_) ?_ ?_; rotate_left
                           ·
                            show Act.put _ (some 134) _ = _
                            simp only [Act.put, List.setIfInBounds_toArray, List.set_cons_zero, List.set_cons_succ, i64_w, i32_w]; rfl
                           refine one_ (i := 7) (N := some 138) #[true, true, true, true, true, true, true, true, false] rfl rfl (one_of HT_.out (by kernel_rfl)) (by decide) (fun K hK => ?_); refine goes_ Try.func35 (by kernel_rfl) rfl #[.agg #[.int .i64 ((rd_T26 y253 x56_2).f0), .string ((rd_T26 y253 x56_2).f1)], .agg #[.int .i64 ((rd_T26 y253 x74_4).f0), .string ((rd_T26 y253 x74_4).f1)], .agg #[.int .i64 ((rd_T26 y253 x127_6).f0), .string ((rd_T26 y253 x127_6).f1)]] (by rfl) rfl rfl (by (try simp only [List.map_toArray, List.map_cons, List.map_nil]); first | done | rfl | (simp only [List.length_drop, List.length_take]; rfl)) ?_
                           with_reducible refine (trustquorumref23_Prepares.calls ((rd_T26 y253 x56_2).f0) ((rd_T26 y253 x56_2).f1) ((rd_T26 y253 x74_4).f0) ((rd_T26 y253 x74_4).f1) ((rd_T26 y253 x127_6).f0) ((rd_T26 y253 x127_6).f1) t282 _ A103.out).mono ?_
                           rintro e w113 ⟨rfl, hb⟩; refine ⟨_, rfl, ?_⟩; have n0_ := Aside0.mk (Kd.R_below (by (with_reducible repeat (first | apply Kd.R_alloc | apply Kd.R_drewN | apply Kd.R_drew)); exact HO_14.out) hb)
                           have n1_ := Aside0.mk (blk_below (g := gb262) (o := .cells #[.int .i64 ((rd_T26 y253 x56_2).f0), .string ((rd_T26 y253 x56_2).f1)] 26 (0, 0)) (by (with_reducible repeat (first | refine blk_drewN ?_ _ | refine blk_drew ?_ | refine blk_alloc ?_ _)); exact BK262.out) hb)
                           have n2_ := Aside0.mk (blk_below (g := gb268) (o := .cells #[.int .i64 ((rd_T26 y253 x74_4).f0), .string ((rd_T26 y253 x74_4).f1)] 26 (0, 0)) (by (with_reducible repeat (first | refine blk_drewN ?_ _ | refine blk_drew ?_ | refine blk_alloc ?_ _)); exact BK268.out) hb)
                           have n3_ := Aside0.mk (IsS48.below (by repeat (first | (with_reducible first | exact HI240.out | apply IsS48.alloc | apply IsS48.drewN | apply IsS48.drew | apply IsS48.set_1 | refine IsS48.far ?_ NB240_262.out _ | refine IsS48.far ?_ NB240_268.out _ | refine IsS48.far ?_ NB240_280.out _) | exact HI240.out)) hb); have n4_ := Aside0.mk (blk_below (g := gb280) (o := .cells #[.int .i64 ((rd_T26 y253 x127_6).f0), .string ((rd_T26 y253 x127_6).f1)] 26 (0, 0)) (by (with_reducible repeat (first | refine blk_drewN ?_ _ | refine blk_drew ?_ | refine blk_alloc ?_ _)); exact BK280.out) hb)
                           have n5_ := Aside0.mk (below_step (by repeat (first | (with_reducible first | exact HB.out | apply below_alloc | apply pw_below_drewN | apply below_drew1 | refine below_set ?_ (IsS48.ge HI240.out) | refine below_set ?_ GE262.out | refine below_set ?_ GE268.out | refine below_set ?_ GE280.out) | exact HB.out)) hb); clear HO_14; clear BK262; clear BK268; clear HI240; clear BK280; clear HB; have HO_14 := n0_; have BK262 := n1_; have BK268 := n2_; have HI240 := n3_; have BK280 := n4_; have HB := n5_; clear n0_ n1_ n2_ n3_ n4_ n5_; (try clear hb); (try clear hb2); (try clear hk); (try clear hi); refine hK.out _ _ ⟨(blk_cell BK262.out 0).trans rfl, (blk_cell BK262.out 1).trans rfl, (blk_cell BK268.out 0).trans rfl, (blk_cell BK268.out 1).trans rfl, (blk_cell BK280.out 0).trans rfl, (blk_cell BK280.out 1).trans rfl⟩ (fun hHeld => ?_); clear hK K; refine norm_ (a' := ?_) ?_ ?_; rotate_left
                           ·
                            show Act.put _ (some 138) _ = _
                            simp only [Act.put, List.setIfInBounds_toArray, List.set_cons_zero, List.set_cons_succ, i64_w, i32_w]; rfl
                           refine pure_ (i := 8) (N := some 139) (v := ?_) (a' := ?_) #[true, true, true, true, true, true, true, true, true] rfl rfl (any_of HT_.out (by kernel_rfl)) (fun _ _ _ h => h) (Or.inl ⟨by rfl, ?_⟩) ?_ ?_; rotate_left
                           ·
                            intro w'; go_simp
                            with_reducible rfl
                           rotate_left
                           ·
                            simp only [Act.put, List.setIfInBounds_toArray, List.set_cons_zero, List.set_cons_succ, i64_w, i32_w]; rfl
                           refine done_ (done_of HT_.out (by kernel_rfl)) ?_
                           try go_wp2
                           go_roundg k6
                           case measure => have := HJ6.out; have := HK2.out; have := HJ48.out; have := HK4.out; have := HJ67.out; have := HK6.out; omega
                           case rel => exact ⟨(wrap64 (x127_6 + 1)), (by first | rfl | (simp; done) | (simp [*]; done) | (refine congrArg (Value.int .i64) ?_; unfold wrap64; omega)), H', ⟨by have := HJ6.out; have := HK2.out; have := HJ48.out; have := HK4.out; have := HJ67.out; have := HK6.out; omega⟩, ⟨by (with_reducible repeat (first | apply Kd.R_alloc | apply Kd.R_drewN | apply Kd.R_drew)); exact Kd.R_mono HO_14.out (fun _ hk => ⟨hk.1, hk.2.1⟩)⟩, ⟨by (with_reducible repeat (first | refine blk_drewN ?_ _ | refine blk_drew ?_ | refine blk_alloc ?_ _)); exact BK262.out⟩, ⟨by (with_reducible repeat (first | refine blk_drewN ?_ _ | refine blk_drew ?_ | refine blk_alloc ?_ _)); exact BK268.out⟩, ⟨by repeat (first | (with_reducible first | exact HI240.out | apply IsS48.alloc | apply IsS48.drewN | apply IsS48.drew | apply IsS48.set_1 | refine IsS48.far ?_ NB240_262.out _ | refine IsS48.far ?_ NB240_268.out _ | refine IsS48.far ?_ NB240_280.out _) | exact HI240.out)⟩, ⟨by repeat (first | (with_reducible first | exact HB.out | apply below_alloc | apply pw_below_drewN | apply below_drew1 | refine below_set ?_ (IsS48.ge HI240.out) | refine below_set ?_ GE262.out | refine below_set ?_ GE268.out | refine below_set ?_ GE280.out) | exact HB.out)⟩⟩
                         ·
                          rw [if_neg c101] at H; exact absurd H (by simp)
                        ·
                         rw [if_neg c100] at H; exact absurd H (by simp)
                       ·
                        rw [if_neg c99] at H; have c99b0 : decide (x127_6 < (y253.length : Int)) = false := decide_eq_false c99; clear c99; replace H := Option.bind_eq_some_iff.mp H; obtain ⟨⟨t283, t284⟩, A1140, H⟩ := H; replace H : ((trustquorumplay_Src_Range.f t238 t284 1 6).bind fun bt285 => (trustquorumlaw23_BallotsExact.l3 k6 a5 y253 (y253.length : Int) x56_2 (y253.length : Int) x74_4 [a5, t283, bt285.1] 0 t238 bt285.2 ((rd_T26 y253 x56_2).f0) ((rd_T26 y253 x56_2).f1) ((rd_T26 y253 x74_4).f0) ((rd_T26 y253 x74_4).f1))) = some r := H; have A114 := Aside0.mk A1140; clear A1140; replace H := Option.bind_eq_some_iff.mp H; obtain ⟨⟨t285, t286⟩, A1150, H⟩ := H; replace H : (trustquorumlaw23_BallotsExact.l3 k6 a5 y253 (y253.length : Int) x56_2 (y253.length : Int) x74_4 [a5, t283, t285] 0 t238 t286 ((rd_T26 y253 x56_2).f0) ((rd_T26 y253 x56_2).f1) ((rd_T26 y253 x74_4).f0) ((rd_T26 y253 x74_4).f1)) = some r := H; have A115 := Aside0.mk A1150; clear A1150; have H' := Aside0.mk H; clear H
                        go_wp2_with (first | ((with_reducible refine gate_callee (f := 28) rfl ?_); refine goesL_ (some 143) rfl rfl Try.func28 (by kernel_rfl) rfl #[.pointer (some ⟨g240, 0, none⟩)] rfl (by (try simp only [List.map_toArray, List.map_cons, List.map_nil]); first | done | rfl | (simp only [List.length_drop, List.length_take]; rfl)) ?_; (with_reducible refine (trustquorumplay_Src_Odd.calls g240 t238 x241001_4 t283 t284 w _ ?side1 ?side2 A114.out).mono ?_); (case side1 => repeat (first | (with_reducible first | exact HI240.out | apply IsS48.alloc | apply IsS48.drewN | apply IsS48.drew | apply IsS48.set_1 | refine IsS48.far ?_ NB240_262.out _ | refine IsS48.far ?_ NB240_268.out _) | exact HI240.out)); (case side2 => repeat (first | (with_reducible first | exact HB.out | apply below_alloc | apply pw_below_drewN | apply below_drew1 | refine below_set ?_ (IsS48.ge HI240.out) | refine below_set ?_ GE262.out | refine below_set ?_ GE268.out) | exact HB.out)); rintro e w116 ⟨rfl, hi, hb, hk⟩; refine ⟨_, rfl, ?_⟩; have n0_ := Aside0.mk (Kd.R_mono (Kd.R_keep (IsS48.apart (show IsS48 w _ g240 t238 x241001_4 from by repeat (first | (with_reducible first | exact HI240.out | apply IsS48.alloc | apply IsS48.drewN | apply IsS48.drew | apply IsS48.set_1 | refine IsS48.far ?_ NB240_262.out _ | refine IsS48.far ?_ NB240_268.out _) | exact HI240.out)) (by (with_reducible repeat (first | apply Kd.R_alloc | apply Kd.R_drewN | apply Kd.R_drew)); exact HO_14.out) (by decide)) hk (fun _ h => h.2)) (fun _ h => h.1)); have n1_ := Aside0.mk (KeepBut.blk hk (g' := gb262) (o := .cells #[.int .i64 ((rd_T26 y253 x56_2).f0), .string ((rd_T26 y253 x56_2).f1)] 26 (0, 0)) (by (with_reducible repeat (first | refine blk_drewN ?_ _ | refine blk_drew ?_ | refine blk_alloc ?_ _)); exact BK262.out) NB262_240.out (by simp)); have n2_ := Aside0.mk (KeepBut.blk hk (g' := gb268) (o := .cells #[.int .i64 ((rd_T26 y253 x74_4).f0), .string ((rd_T26 y253 x74_4).f1)] 26 (0, 0)) (by (with_reducible repeat (first | refine blk_drewN ?_ _ | refine blk_drew ?_ | refine blk_alloc ?_ _)); exact BK268.out) NB268_240.out (by simp)); have n3_ := Aside0.mk (hb); have n4_ := Aside0.mk (hi); clear HO_14; clear BK262; clear BK268; clear HB; clear HI240; have HO_14 := n0_; have BK262 := n1_; have BK268 := n2_; have HB := n3_; have HI240 := n4_; clear n0_ n1_ n2_ n3_ n4_; (try clear hb); (try clear hb2); (try clear hk); (try clear hi)) | ((with_reducible refine gate_callee (f := 36) rfl ?_); refine goesL_ (some 145) rfl rfl Try.func36 (by kernel_rfl) rfl #[.pointer (some ⟨g240, 0, none⟩), .int .i64 1, .int .i64 6] rfl (by (try simp only [List.map_toArray, List.map_cons, List.map_nil]); first | done | rfl | (simp only [List.length_drop, List.length_take]; rfl)) ?_; (with_reducible refine (trustquorumplay_Src_Range.calls g240 t238 t284 1 6 t285 t286 w _ ?side1 ?side2 A115.out).mono ?_); (case side1 => repeat (first | (with_reducible first | exact HI240.out | apply IsS48.alloc | apply IsS48.drewN | apply IsS48.drew | apply IsS48.set_1 | refine IsS48.far ?_ NB240_262.out _ | refine IsS48.far ?_ NB240_268.out _) | exact HI240.out)); (case side2 => repeat (first | (with_reducible first | exact HB.out | apply below_alloc | apply pw_below_drewN | apply below_drew1 | refine below_set ?_ (IsS48.ge HI240.out) | refine below_set ?_ GE262.out | refine below_set ?_ GE268.out) | exact HB.out)); rintro e w117 ⟨rfl, hi, hb, hk⟩; refine ⟨_, rfl, ?_⟩; have n0_ := Aside0.mk (Kd.R_mono (Kd.R_keep (IsS48.apart (show IsS48 w _ g240 t238 t284 from by repeat (first | (with_reducible first | exact HI240.out | apply IsS48.alloc | apply IsS48.drewN | apply IsS48.drew | apply IsS48.set_1 | refine IsS48.far ?_ NB240_262.out _ | refine IsS48.far ?_ NB240_268.out _) | exact HI240.out)) (by (with_reducible repeat (first | apply Kd.R_alloc | apply Kd.R_drewN | apply Kd.R_drew)); exact HO_14.out) (by decide)) hk (fun _ h => h.2)) (fun _ h => h.1)); have n1_ := Aside0.mk (KeepBut.blk hk (g' := gb262) (o := .cells #[.int .i64 ((rd_T26 y253 x56_2).f0), .string ((rd_T26 y253 x56_2).f1)] 26 (0, 0)) (by (with_reducible repeat (first | refine blk_drewN ?_ _ | refine blk_drew ?_ | refine blk_alloc ?_ _)); exact BK262.out) NB262_240.out (by simp)); have n2_ := Aside0.mk (KeepBut.blk hk (g' := gb268) (o := .cells #[.int .i64 ((rd_T26 y253 x74_4).f0), .string ((rd_T26 y253 x74_4).f1)] 26 (0, 0)) (by (with_reducible repeat (first | refine blk_drewN ?_ _ | refine blk_drew ?_ | refine blk_alloc ?_ _)); exact BK268.out) NB268_240.out (by simp)); have n3_ := Aside0.mk (hb); have n4_ := Aside0.mk (hi); clear HO_14; clear BK262; clear BK268; clear HB; clear HI240; have HO_14 := n0_; have BK262 := n1_; have BK268 := n2_; have HB := n3_; have HI240 := n4_; clear n0_ n1_ n2_ n3_ n4_; (try clear hb); (try clear hb2); (try clear hk); (try clear hi)))
                        go_loopg [147] k6 (fun kq v147 w' => ∃ (x147_7 : Int) (x241001_7 : Int), v147 = .int .i64 x147_7 ∧ Aside0 (trustquorumlaw23_BallotsExact.l3 kq a5 y253 (y253.length : Int) x56_2 (y253.length : Int) x74_4 [a5, t283, t285] x147_7 t238 x241001_7 ((rd_T26 y253 x56_2).f0) ((rd_T26 y253 x56_2).f1) ((rd_T26 y253 x74_4).f0) ((rd_T26 y253 x74_4).f1) = some r) ∧ Aside0 (kq ≤ k6) ∧ Aside0 (Kd.R k26 26 w' w.heap.size (fun k_ => k_ ≠ gb262 ∧ k_ ≠ gb268) (.slice (some ad261) y253.length co45) y253) ∧ Aside0 (w'.heap[gb262]? = some (.cells #[.int .i64 ((rd_T26 y253 x56_2).f0), .string ((rd_T26 y253 x56_2).f1)] 26 (0, 0))) ∧ Aside0 (w'.heap[gb268]? = some (.cells #[.int .i64 ((rd_T26 y253 x74_4).f0), .string ((rd_T26 y253 x74_4).f1)] 26 (0, 0))) ∧ Aside0 (IsS48 w w' g240 t238 x241001_7) ∧ Aside0 (Below w.heap.size w w'))
                        case atStart => exact ⟨(0), (t286), (by first | rfl | (simp; done) | (simp [*]; done) | (refine congrArg (Value.int .i64) ?_; unfold wrap64; omega)), H', ⟨Nat.le_refl _⟩, ⟨by (with_reducible repeat (first | apply Kd.R_alloc | apply Kd.R_drewN | apply Kd.R_drew)); exact HO_14.out⟩, ⟨by (with_reducible repeat (first | refine blk_drewN ?_ _ | refine blk_drew ?_ | refine blk_alloc ?_ _)); exact BK262.out⟩, ⟨by (with_reducible repeat (first | refine blk_drewN ?_ _ | refine blk_drew ?_ | refine blk_alloc ?_ _)); exact BK268.out⟩, ⟨by repeat (first | (with_reducible first | exact HI240.out | apply IsS48.alloc | apply IsS48.drewN | apply IsS48.drew | apply IsS48.set_1 | refine IsS48.far ?_ NB240_262.out _ | refine IsS48.far ?_ NB240_268.out _) | exact HI240.out)⟩, ⟨by repeat (first | (with_reducible first | exact HB.out | apply below_alloc | apply pw_below_drewN | apply below_drew1 | refine below_set ?_ (IsS48.ge HI240.out) | refine below_set ?_ GE262.out | refine below_set ?_ GE268.out) | exact HB.out)⟩⟩
                        case round =>
                         clear H'; (try clear c1); (try clear c2); (try clear p2); (try clear q2); (try clear hx2); (try clear c3); (try clear p6); (try clear c9); (try clear c10); (try clear c13); (try clear c16); (try clear c17); (try clear c18); (try clear c19); (try clear c20); (try clear c21); (try clear c22); (try clear p27); (try clear q27); (try clear hx27); (try clear c28); (try clear c32); (try clear c33); (try clear c34); (try clear c35); (try clear c36); (try clear p64); (try clear c98); (try clear c99); (try clear c99b0); (try clear c100); (try clear c100b0); (try clear c101); (try clear c101b0); (try clear c104); (try clear c104b0); (try clear c104b1); (try clear c104b2); (try clear c106); (try clear c107); (try clear c108); (try clear hcz109_0); (try clear hcz109_1); (try clear hfz109_0); (try clear hfz109_1); (try clear hx279_0); (try clear hx279_1); (try clear p2); (try clear p279); (try clear p6); (try clear p64); (try clear q279); obtain ⟨x147_7, x241001_7, rfl, HA, HK7, HO_14, BK262, BK268, HI240, HB⟩ := hrel
                         cases gk with
                         | zero => exact absurd HA.out (by simp [trustquorumlaw23_BallotsExact.l3])
                         | succ k7 =>
                          have H := HA.out; clear HA; simp only [trustquorumlaw23_BallotsExact.l3] at H
                          by_cases c118 : x147_7 < 3
                          ·
                           rw [if_pos c118] at H; have c118b0 : decide (x147_7 < 3) = true := decide_eq_true c118; clear c118
                           by_cases c119 : 0 ≤ x147_7
                           ·
                            rw [if_pos c119] at H; have c119b0 : decide (0 ≤ x147_7) = true := decide_eq_true c119; clear c119; replace H := Option.bind_eq_some_iff.mp H; obtain ⟨⟨t287, t288⟩, A1210, H⟩ := H; replace H : ((ballots_Lowest.f k7 t287 (rd [a5, t283, t285] x147_7) ((rd_T26 y253 x56_2).f0) ((rd_T26 y253 x56_2).f1) ((rd_T26 y253 x74_4).f0) ((rd_T26 y253 x74_4).f1)).bind fun t289 => (if t289 < 1 then (some false) else ((ballots_Lowest.f k7 (⟨#[97]⟩ : ByteArray) (rd [a5, t283, t285] x147_7) ((rd_T26 y253 x56_2).f0) ((rd_T26 y253 x56_2).f1) ((rd_T26 y253 x74_4).f0) ((rd_T26 y253 x74_4).f1)).bind fun t290 => ((trustquorumref23_Lowest.f k7 (⟨#[97]⟩ : ByteArray) (rd [a5, t283, t285] x147_7) ((rd_T26 y253 x56_2).f0) ((rd_T26 y253 x56_2).f1) ((rd_T26 y253 x74_4).f0) ((rd_T26 y253 x74_4).f1)).bind fun t291 => (if t290 = t291 then (trustquorumlaw23_BallotsExact.l3 k7 a5 y253 (y253.length : Int) x56_2 (y253.length : Int) x74_4 [a5, t283, t285] (wrap64 (x147_7 + 1)) t238 t288 ((rd_T26 y253 x56_2).f0) ((rd_T26 y253 x56_2).f1) ((rd_T26 y253 x74_4).f0) ((rd_T26 y253 x74_4).f1)) else (some false)))))) = some r := H; have A121 := Aside0.mk A1210; clear A1210; replace H := Option.bind_eq_some_iff.mp H; obtain ⟨t289, A1220, H⟩ := H; replace H : (if t289 < 1 then (some false) else ((ballots_Lowest.f k7 (⟨#[97]⟩ : ByteArray) (rd [a5, t283, t285] x147_7) ((rd_T26 y253 x56_2).f0) ((rd_T26 y253 x56_2).f1) ((rd_T26 y253 x74_4).f0) ((rd_T26 y253 x74_4).f1)).bind fun t290 => ((trustquorumref23_Lowest.f k7 (⟨#[97]⟩ : ByteArray) (rd [a5, t283, t285] x147_7) ((rd_T26 y253 x56_2).f0) ((rd_T26 y253 x56_2).f1) ((rd_T26 y253 x74_4).f0) ((rd_T26 y253 x74_4).f1)).bind fun t291 => (if t290 = t291 then (trustquorumlaw23_BallotsExact.l3 k7 a5 y253 (y253.length : Int) x56_2 (y253.length : Int) x74_4 [a5, t283, t285] (wrap64 (x147_7 + 1)) t238 t288 ((rd_T26 y253 x56_2).f0) ((rd_T26 y253 x56_2).f1) ((rd_T26 y253 x74_4).f0) ((rd_T26 y253 x74_4).f1)) else (some false))))) = some r := H
                            have A122 := Aside0.mk A1220; clear A1220
                            by_cases c123 : t289 < 1
                            ·
                             rw [if_pos c123] at H; have c123b0 : decide (t289 < 1) = true := decide_eq_true c123; clear c123; exact absurd ((Option.some.inj H).trans HRT.out) (by decide)
                            ·
                             rw [if_neg c123] at H; have c123b0 : decide (t289 < 1) = false := decide_eq_false c123; clear c123; replace H := Option.bind_eq_some_iff.mp H; obtain ⟨t290, A1240, H⟩ := H; replace H : ((trustquorumref23_Lowest.f k7 (⟨#[97]⟩ : ByteArray) (rd [a5, t283, t285] x147_7) ((rd_T26 y253 x56_2).f0) ((rd_T26 y253 x56_2).f1) ((rd_T26 y253 x74_4).f0) ((rd_T26 y253 x74_4).f1)).bind fun t291 => (if t290 = t291 then (trustquorumlaw23_BallotsExact.l3 k7 a5 y253 (y253.length : Int) x56_2 (y253.length : Int) x74_4 [a5, t283, t285] (wrap64 (x147_7 + 1)) t238 t288 ((rd_T26 y253 x56_2).f0) ((rd_T26 y253 x56_2).f1) ((rd_T26 y253 x74_4).f0) ((rd_T26 y253 x74_4).f1)) else (some false))) = some r := H; have A124 := Aside0.mk A1240; clear A1240; replace H := Option.bind_eq_some_iff.mp H; obtain ⟨t291, A1250, H⟩ := H; replace H : (if t290 = t291 then (trustquorumlaw23_BallotsExact.l3 k7 a5 y253 (y253.length : Int) x56_2 (y253.length : Int) x74_4 [a5, t283, t285] (wrap64 (x147_7 + 1)) t238 t288 ((rd_T26 y253 x56_2).f0) ((rd_T26 y253 x56_2).f1) ((rd_T26 y253 x74_4).f0) ((rd_T26 y253 x74_4).f1)) else (some false)) = some r := H; have A125 := Aside0.mk A1250; clear A1250
                             by_cases c126 : t290 = t291
                             ·
                              rw [if_pos c126] at H; have c126b0 : (t290 == t291) = true := beq_iff_eq.mpr c126; have c126b1 : (t290 != t291) = false := bne_eq_false_iff_eq.mpr c126; clear c126; have H' := Aside0.mk H; clear H; have p120 : 0 ≤ (x147_7 : Int) := of_decide_eq_true (by first | (with_reducible assumption) | assumption); have q120 : (x147_7 : Int) < 3 := of_decide_eq_true (by first | (with_reducible assumption) | assumption); have hx120 : ∀ w_ : World, (Instr.index 45 (.agg #[.int .i64 a5, .int .i64 t283, .int .i64 t285]) (.int .i64 x147_7)).run Try.prog w_ = .ok (.int .i64 (rd [a5, t283, t285] x147_7)) w_ := by intro w_; (rcases (show x147_7 = 0 ∨ x147_7 = 1 ∨ x147_7 = 2 from by omega) with h_ | h_ | h_) <;> (rw [h_]; kernel_rfl)
                              try go_wp2
                              have n0_ := Aside0.mk (Kd.R_drew HO_14.out); have n1_ := Aside0.mk (blk_drew BK262.out); have n2_ := Aside0.mk (blk_drew BK268.out); have n3_ := Aside0.mk (IsS48.drew HI240.out); have n4_ := Aside0.mk (below_drew1 HB.out); clear HO_14; clear BK262; clear BK268; clear HI240; clear HB; have HO_14 := n0_; have BK262 := n1_; have BK268 := n2_; have HI240 := n3_; have HB := n4_; clear n0_ n1_ n2_ n3_ n4_; refine start_ (n := 18) (S := fun w' => w'.cell? ⟨gb262, 0, none⟩ = some (.int .i64 ((rd_T26 y253 x56_2).f0)) ∧ w'.cell? ⟨gb262, 1, none⟩ = some (.string ((rd_T26 y253 x56_2).f1)) ∧ w'.cell? ⟨gb268, 0, none⟩ = some (.int .i64 ((rd_T26 y253 x74_4).f0)) ∧ w'.cell? ⟨gb268, 1, none⟩ = some (.string ((rd_T26 y253 x74_4).f1))) (ds := []) #[false, false, false, false, false, false, false, false, false, false, false, false, false, false, false, false, false, false] (by kernel_rfl) rfl rfl ⟨(blk_cell BK262.out 0).trans rfl, (blk_cell BK262.out 1).trans rfl, (blk_cell BK268.out 0).trans rfl, (blk_cell BK268.out 1).trans rfl⟩ (fun hHeld => ?_); refine with_tabW trustquorumlaw23_BallotsExact.tab26 trustquorumlaw23_BallotsExact.bits26 (fun HT_ HW_ => ?_); generalize wr.drew = w127 at HO_14 BK262 BK268 HI240 HB hHeld ⊢; refine pure_ (i := 0) (N := some 150) (v := ?_) (a' := ?_) #[true, false, false, false, false, false, false, false, false, false, false, false, false, false, false, false, false, false] rfl rfl (any_of HT_.out (by kernel_rfl)) (fun _ _ _ h => h) (Or.inl ⟨by rfl, ?_⟩) ?_ ?_; rotate_left
                              ·
                               intro w'; go_simp
                               with_reducible rfl
                              rotate_left
                              ·
                               simp only [Act.put, List.setIfInBounds_toArray, List.set_cons_zero, List.set_cons_succ, i64_w, i32_w]; rfl
                              refine pure_ (i := 2) (N := some 152) (v := ?_) (a' := ?_) #[true, false, true, false, false, false, false, false, false, false, false, false, false, false, false, false, false, false] rfl rfl (any_of HT_.out (by kernel_rfl)) (fun _ _ _ h => h) (Or.inl ⟨by rfl, ?_⟩) ?_ ?_; rotate_left
                              ·
                               intro w'; go_simp
                               with_reducible rfl
                              rotate_left
                              ·
                               simp only [Act.put, List.setIfInBounds_toArray, List.set_cons_zero, List.set_cons_succ, i64_w, i32_w]; rfl
                              refine take_ (i := 3) (N := some 153) (v := ?_) (a' := ?_) #[true, false, true, true, false, false, false, false, false, false, false, false, false, false, false, false, false, false] rfl rfl (take_ofW HT_.out HW_.out (by kernel_rfl)) (fun _ _ _ h => h) (Or.inl ⟨by rfl, ?_⟩) hHeld ?_ ?_; rotate_left
                              ·
                               rintro w' ⟨s0, s1, s2, s3⟩; go_simp
                               with_reducible rfl
                              rotate_left
                              ·
                               simp only [Act.put, List.setIfInBounds_toArray, List.set_cons_zero, List.set_cons_succ, i64_w, i32_w]; rfl
                              refine take_ (i := 4) (N := some 154) (v := ?_) (a' := ?_) #[true, false, true, true, true, false, false, false, false, false, false, false, false, false, false, false, false, false] rfl rfl (take_ofW HT_.out HW_.out (by kernel_rfl)) (fun _ _ _ h => h) (Or.inl ⟨by rfl, ?_⟩) hHeld ?_ ?_; rotate_left
                              ·
                               rintro w' ⟨s0, s1, s2, s3⟩; go_simp
                               with_reducible rfl
                              rotate_left
                              ·
                               simp only [Act.put, List.setIfInBounds_toArray, List.set_cons_zero, List.set_cons_succ, i64_w, i32_w]; rfl
                              refine one_ (i := 1) (N := some 151) #[true, true, true, true, true, false, false, false, false, false, false, false, false, false, false, false, false, false] rfl rfl (one_of HT_.out (by kernel_rfl)) (by decide) (fun K hK => ?_); refine goes_ Try.func11 (by kernel_rfl) rfl #[.pointer (some ⟨g240, 0, none⟩)] (by rfl) rfl rfl (by (try simp only [List.map_toArray, List.map_cons, List.map_nil]); first | done | rfl | (simp only [List.length_drop, List.length_take]; rfl)) ?_
                              with_reducible refine (trustquorumplay_Src_Value.calls g240 t238 x241001_7 t287 t288 w _ ?side1 ?side2 A121.out).mono ?_
                              (case side1 => repeat (first | (with_reducible first | exact HI240.out | apply IsS48.alloc | apply IsS48.drewN | apply IsS48.drew | apply IsS48.set_1 | refine IsS48.far ?_ NB240_262.out _ | refine IsS48.far ?_ NB240_268.out _) | exact HI240.out))
                              (case side2 => repeat (first | (with_reducible first | exact HB.out | apply below_alloc | apply pw_below_drewN | apply below_drew1 | refine below_set ?_ (IsS48.ge HI240.out) | refine below_set ?_ GE262.out | refine below_set ?_ GE268.out) | exact HB.out))
                              rintro e w128 ⟨rfl, hi, hb, hk⟩; refine ⟨_, rfl, ?_⟩; have n0_ := Aside0.mk (Kd.R_mono (Kd.R_keep (IsS48.apart (show IsS48 w _ g240 t238 x241001_7 from by repeat (first | (with_reducible first | exact HI240.out | apply IsS48.alloc | apply IsS48.drewN | apply IsS48.drew | apply IsS48.set_1 | refine IsS48.far ?_ NB240_262.out _ | refine IsS48.far ?_ NB240_268.out _) | exact HI240.out)) (by (with_reducible repeat (first | apply Kd.R_alloc | apply Kd.R_drewN | apply Kd.R_drew)); exact HO_14.out) (by decide)) hk (fun _ h => h.2)) (fun _ h => h.1))
                              have n1_ := Aside0.mk (KeepBut.blk hk (g' := gb262) (o := .cells #[.int .i64 ((rd_T26 y253 x56_2).f0), .string ((rd_T26 y253 x56_2).f1)] 26 (0, 0)) (by (with_reducible repeat (first | refine blk_drewN ?_ _ | refine blk_drew ?_ | refine blk_alloc ?_ _)); exact BK262.out) NB262_240.out (by simp))
                              have n2_ := Aside0.mk (KeepBut.blk hk (g' := gb268) (o := .cells #[.int .i64 ((rd_T26 y253 x74_4).f0), .string ((rd_T26 y253 x74_4).f1)] 26 (0, 0)) (by (with_reducible repeat (first | refine blk_drewN ?_ _ | refine blk_drew ?_ | refine blk_alloc ?_ _)); exact BK268.out) NB268_240.out (by simp))
                              have n3_ := Aside0.mk (hb); have n4_ := Aside0.mk (hi); clear HO_14; clear BK262; clear BK268; clear HB; clear HI240; have HO_14 := n0_; have BK262 := n1_; have BK268 := n2_; have HB := n3_; have HI240 := n4_; clear n0_ n1_ n2_ n3_ n4_; (try clear hb); (try clear hb2); (try clear hk); (try clear hi); refine hK.out _ _ ⟨(blk_cell BK262.out 0).trans rfl, (blk_cell BK262.out 1).trans rfl, (blk_cell BK268.out 0).trans rfl, (blk_cell BK268.out 1).trans rfl⟩ (fun hHeld => ?_); clear hK K; refine norm_ (a' := ?_) ?_ ?_; rotate_left
                              ·
                               show Act.put _ (some 151) _ = _
                               simp only [Act.put, List.setIfInBounds_toArray, List.set_cons_zero, List.set_cons_succ, i64_w, i32_w]; rfl
                              refine one_ (i := 5) (N := some 155) #[true, true, true, true, true, true, false, false, false, false, false, false, false, false, false, false, false, false] rfl rfl (one_of HT_.out (by kernel_rfl)) (by decide) (fun K hK => ?_); refine goes_ Try.func12 (by kernel_rfl) rfl #[.string t287, .int .i64 (rd [a5, t283, t285] x147_7), .agg #[.int .i64 ((rd_T26 y253 x56_2).f0), .string ((rd_T26 y253 x56_2).f1)], .agg #[.int .i64 ((rd_T26 y253 x74_4).f0), .string ((rd_T26 y253 x74_4).f1)]] (by rfl) rfl rfl (by (try simp only [List.map_toArray, List.map_cons, List.map_nil]); first | done | rfl | (simp only [List.length_drop, List.length_take]; rfl)) ?_
                              with_reducible refine (ballots_Lowest.calls k7 t287 (rd [a5, t283, t285] x147_7) ((rd_T26 y253 x56_2).f0) ((rd_T26 y253 x56_2).f1) ((rd_T26 y253 x74_4).f0) ((rd_T26 y253 x74_4).f1) t289 _ A122.out).mono ?_
                              rintro e w129 ⟨rfl, hb⟩; refine ⟨_, rfl, ?_⟩; have n0_ := Aside0.mk (Kd.R_below (by (with_reducible repeat (first | apply Kd.R_alloc | apply Kd.R_drewN | apply Kd.R_drew)); exact HO_14.out) hb)
                              have n1_ := Aside0.mk (blk_below (g := gb262) (o := .cells #[.int .i64 ((rd_T26 y253 x56_2).f0), .string ((rd_T26 y253 x56_2).f1)] 26 (0, 0)) (by (with_reducible repeat (first | refine blk_drewN ?_ _ | refine blk_drew ?_ | refine blk_alloc ?_ _)); exact BK262.out) hb)
                              have n2_ := Aside0.mk (blk_below (g := gb268) (o := .cells #[.int .i64 ((rd_T26 y253 x74_4).f0), .string ((rd_T26 y253 x74_4).f1)] 26 (0, 0)) (by (with_reducible repeat (first | refine blk_drewN ?_ _ | refine blk_drew ?_ | refine blk_alloc ?_ _)); exact BK268.out) hb)
                              have n3_ := Aside0.mk (IsS48.below (by repeat (first | (with_reducible first | exact HI240.out | apply IsS48.alloc | apply IsS48.drewN | apply IsS48.drew | apply IsS48.set_1 | refine IsS48.far ?_ NB240_262.out _ | refine IsS48.far ?_ NB240_268.out _) | exact HI240.out)) hb); have n4_ := Aside0.mk (below_step (by repeat (first | (with_reducible first | exact HB.out | apply below_alloc | apply pw_below_drewN | apply below_drew1 | refine below_set ?_ (IsS48.ge HI240.out) | refine below_set ?_ GE262.out | refine below_set ?_ GE268.out) | exact HB.out)) hb); clear HO_14; clear BK262; clear BK268; clear HI240; clear HB; have HO_14 := n0_; have BK262 := n1_; have BK268 := n2_; have HI240 := n3_; have HB := n4_; clear n0_ n1_ n2_ n3_ n4_; (try clear hb); (try clear hb2); (try clear hk); (try clear hi); refine hK.out _ _ ⟨(blk_cell BK262.out 0).trans rfl, (blk_cell BK262.out 1).trans rfl, (blk_cell BK268.out 0).trans rfl, (blk_cell BK268.out 1).trans rfl⟩ (fun hHeld => ?_); clear hK K; refine norm_ (a' := ?_) ?_ ?_; rotate_left
                              ·
                               show Act.put _ (some 155) _ = _
                               simp only [Act.put, List.setIfInBounds_toArray, List.set_cons_zero, List.set_cons_succ, i64_w, i32_w]; rfl
                              refine pure_ (i := 6) (N := some 156) (v := ?_) (a' := ?_) #[true, true, true, true, true, true, true, false, false, false, false, false, false, false, false, false, false, false] rfl rfl (any_of HT_.out (by kernel_rfl)) (fun _ _ _ h => h) (Or.inl ⟨by rfl, ?_⟩) ?_ ?_; rotate_left
                              ·
                               intro w'; go_simp
                               with_reducible rfl
                              rotate_left
                              ·
                               simp only [Act.put, List.setIfInBounds_toArray, List.set_cons_zero, List.set_cons_succ, i64_w, i32_w]; rfl
                              refine pure_ (i := 7) (N := some 157) (v := ?_) (a' := ?_) #[true, true, true, true, true, true, true, true, false, false, false, false, false, false, false, false, false, false] rfl rfl (any_of HT_.out (by kernel_rfl)) (fun _ _ _ h => h) (Or.inl ⟨by rfl, ?_⟩) ?_ ?_; rotate_left
                              ·
                               intro w'; go_simp
                               with_reducible rfl
                              rotate_left
                              ·
                               simp only [Act.put, List.setIfInBounds_toArray, List.set_cons_zero, List.set_cons_succ, i64_w, i32_w]; rfl
                              refine pure_ (i := 8) (N := some 158) (v := ?_) (a' := ?_) #[true, true, true, true, true, true, true, true, true, false, false, false, false, false, false, false, false, false] rfl rfl (any_of HT_.out (by kernel_rfl)) (fun _ _ _ h => h) (Or.inl ⟨by rfl, ?_⟩) ?_ ?_; rotate_left
                              ·
                               intro w'; go_simp
                               with_reducible rfl
                              rotate_left
                              ·
                               simp only [Act.put, List.setIfInBounds_toArray, List.set_cons_zero, List.set_cons_succ, i64_w, i32_w]; rfl
                              refine pure_ (i := 12) (N := some 162) (v := ?_) (a' := ?_) #[true, true, true, true, true, true, true, true, true, false, false, false, true, false, false, false, false, false] rfl rfl (any_of HT_.out (by kernel_rfl)) (fun _ _ _ h => h) (Or.inl ⟨by rfl, ?_⟩) ?_ ?_; rotate_left
                              ·
                               intro w'; go_simp
                               with_reducible rfl
                              rotate_left
                              ·
                               simp only [Act.put, List.setIfInBounds_toArray, List.set_cons_zero, List.set_cons_succ, i64_w, i32_w]; rfl
                              refine take_ (i := 9) (N := some 159) (v := ?_) (a' := ?_) #[true, true, true, true, true, true, true, true, true, true, false, false, true, false, false, false, false, false] rfl rfl (take_ofW HT_.out HW_.out (by kernel_rfl)) (fun _ _ _ h => h) (Or.inl ⟨by rfl, ?_⟩) hHeld ?_ ?_; rotate_left
                              ·
                               rintro w' ⟨s0, s1, s2, s3⟩; go_simp
                               with_reducible rfl
                              rotate_left
                              ·
                               simp only [Act.put, List.setIfInBounds_toArray, List.set_cons_zero, List.set_cons_succ, i64_w, i32_w]; rfl
                              refine take_ (i := 10) (N := some 160) (v := ?_) (a' := ?_) #[true, true, true, true, true, true, true, true, true, true, true, false, true, false, false, false, false, false] rfl rfl (take_ofW HT_.out HW_.out (by kernel_rfl)) (fun _ _ _ h => h) (Or.inl ⟨by rfl, ?_⟩) hHeld ?_ ?_; rotate_left
                              ·
                               rintro w' ⟨s0, s1, s2, s3⟩; go_simp
                               with_reducible rfl
                              rotate_left
                              ·
                               simp only [Act.put, List.setIfInBounds_toArray, List.set_cons_zero, List.set_cons_succ, i64_w, i32_w]; rfl
                              refine take_ (i := 13) (N := some 163) (v := ?_) (a' := ?_) #[true, true, true, true, true, true, true, true, true, true, true, false, true, true, false, false, false, false] rfl rfl (take_ofW HT_.out HW_.out (by kernel_rfl)) (fun _ _ _ h => h) (Or.inl ⟨by rfl, ?_⟩) hHeld ?_ ?_; rotate_left
                              ·
                               rintro w' ⟨s0, s1, s2, s3⟩; go_simp
                               with_reducible rfl
                              rotate_left
                              ·
                               simp only [Act.put, List.setIfInBounds_toArray, List.set_cons_zero, List.set_cons_succ, i64_w, i32_w]; rfl
                              refine take_ (i := 14) (N := some 164) (v := ?_) (a' := ?_) #[true, true, true, true, true, true, true, true, true, true, true, false, true, true, true, false, false, false] rfl rfl (take_ofW HT_.out HW_.out (by kernel_rfl)) (fun _ _ _ h => h) (Or.inl ⟨by rfl, ?_⟩) hHeld ?_ ?_; rotate_left
                              ·
                               rintro w' ⟨s0, s1, s2, s3⟩; go_simp
                               with_reducible rfl
                              rotate_left
                              ·
                               simp only [Act.put, List.setIfInBounds_toArray, List.set_cons_zero, List.set_cons_succ, i64_w, i32_w]; rfl
                              refine one_ (i := 11) (N := some 161) #[true, true, true, true, true, true, true, true, true, true, true, true, true, true, true, false, false, false] rfl rfl (one_of HT_.out (by kernel_rfl)) (by decide) (fun K hK => ?_); refine goes_ Try.func12 (by kernel_rfl) rfl #[.string (⟨#[97]⟩ : ByteArray), .int .i64 (rd [a5, t283, t285] x147_7), .agg #[.int .i64 ((rd_T26 y253 x56_2).f0), .string ((rd_T26 y253 x56_2).f1)], .agg #[.int .i64 ((rd_T26 y253 x74_4).f0), .string ((rd_T26 y253 x74_4).f1)]] (by rfl) rfl rfl (by (try simp only [List.map_toArray, List.map_cons, List.map_nil]); first | done | rfl | (simp only [List.length_drop, List.length_take]; rfl)) ?_
                              with_reducible refine (ballots_Lowest.calls k7 (⟨#[97]⟩ : ByteArray) (rd [a5, t283, t285] x147_7) ((rd_T26 y253 x56_2).f0) ((rd_T26 y253 x56_2).f1) ((rd_T26 y253 x74_4).f0) ((rd_T26 y253 x74_4).f1) t290 _ A124.out).mono ?_
                              rintro e w130 ⟨rfl, hb⟩; refine ⟨_, rfl, ?_⟩; have n0_ := Aside0.mk (Kd.R_below (by (with_reducible repeat (first | apply Kd.R_alloc | apply Kd.R_drewN | apply Kd.R_drew)); exact HO_14.out) hb)
                              have n1_ := Aside0.mk (blk_below (g := gb262) (o := .cells #[.int .i64 ((rd_T26 y253 x56_2).f0), .string ((rd_T26 y253 x56_2).f1)] 26 (0, 0)) (by (with_reducible repeat (first | refine blk_drewN ?_ _ | refine blk_drew ?_ | refine blk_alloc ?_ _)); exact BK262.out) hb)
                              have n2_ := Aside0.mk (blk_below (g := gb268) (o := .cells #[.int .i64 ((rd_T26 y253 x74_4).f0), .string ((rd_T26 y253 x74_4).f1)] 26 (0, 0)) (by (with_reducible repeat (first | refine blk_drewN ?_ _ | refine blk_drew ?_ | refine blk_alloc ?_ _)); exact BK268.out) hb)
                              have n3_ := Aside0.mk (IsS48.below (by repeat (first | (with_reducible first | exact HI240.out | apply IsS48.alloc | apply IsS48.drewN | apply IsS48.drew | apply IsS48.set_1 | refine IsS48.far ?_ NB240_262.out _ | refine IsS48.far ?_ NB240_268.out _) | exact HI240.out)) hb); have n4_ := Aside0.mk (below_step (by repeat (first | (with_reducible first | exact HB.out | apply below_alloc | apply pw_below_drewN | apply below_drew1 | refine below_set ?_ (IsS48.ge HI240.out) | refine below_set ?_ GE262.out | refine below_set ?_ GE268.out) | exact HB.out)) hb); clear HO_14; clear BK262; clear BK268; clear HI240; clear HB; have HO_14 := n0_; have BK262 := n1_; have BK268 := n2_; have HI240 := n3_; have HB := n4_; clear n0_ n1_ n2_ n3_ n4_; (try clear hb); (try clear hb2); (try clear hk); (try clear hi); refine hK.out _ _ ⟨(blk_cell BK262.out 0).trans rfl, (blk_cell BK262.out 1).trans rfl, (blk_cell BK268.out 0).trans rfl, (blk_cell BK268.out 1).trans rfl⟩ (fun hHeld => ?_); clear hK K; refine norm_ (a' := ?_) ?_ ?_; rotate_left
                              ·
                               show Act.put _ (some 161) _ = _
                               simp only [Act.put, List.setIfInBounds_toArray, List.set_cons_zero, List.set_cons_succ, i64_w, i32_w]; rfl
                              refine one_ (i := 15) (N := some 165) #[true, true, true, true, true, true, true, true, true, true, true, true, true, true, true, true, false, false] rfl rfl (one_of HT_.out (by kernel_rfl)) (by decide) (fun K hK => ?_); refine goes_ Try.func37 (by kernel_rfl) rfl #[.string (⟨#[97]⟩ : ByteArray), .int .i64 (rd [a5, t283, t285] x147_7), .agg #[.int .i64 ((rd_T26 y253 x56_2).f0), .string ((rd_T26 y253 x56_2).f1)], .agg #[.int .i64 ((rd_T26 y253 x74_4).f0), .string ((rd_T26 y253 x74_4).f1)]] (by rfl) rfl rfl (by (try simp only [List.map_toArray, List.map_cons, List.map_nil]); first | done | rfl | (simp only [List.length_drop, List.length_take]; rfl)) ?_
                              with_reducible refine (trustquorumref23_Lowest.calls k7 (⟨#[97]⟩ : ByteArray) (rd [a5, t283, t285] x147_7) ((rd_T26 y253 x56_2).f0) ((rd_T26 y253 x56_2).f1) ((rd_T26 y253 x74_4).f0) ((rd_T26 y253 x74_4).f1) t291 _ A125.out).mono ?_
                              rintro e w131 ⟨rfl, hb⟩; refine ⟨_, rfl, ?_⟩; have n0_ := Aside0.mk (Kd.R_below (by (with_reducible repeat (first | apply Kd.R_alloc | apply Kd.R_drewN | apply Kd.R_drew)); exact HO_14.out) hb)
                              have n1_ := Aside0.mk (blk_below (g := gb262) (o := .cells #[.int .i64 ((rd_T26 y253 x56_2).f0), .string ((rd_T26 y253 x56_2).f1)] 26 (0, 0)) (by (with_reducible repeat (first | refine blk_drewN ?_ _ | refine blk_drew ?_ | refine blk_alloc ?_ _)); exact BK262.out) hb)
                              have n2_ := Aside0.mk (blk_below (g := gb268) (o := .cells #[.int .i64 ((rd_T26 y253 x74_4).f0), .string ((rd_T26 y253 x74_4).f1)] 26 (0, 0)) (by (with_reducible repeat (first | refine blk_drewN ?_ _ | refine blk_drew ?_ | refine blk_alloc ?_ _)); exact BK268.out) hb)
                              have n3_ := Aside0.mk (IsS48.below (by repeat (first | (with_reducible first | exact HI240.out | apply IsS48.alloc | apply IsS48.drewN | apply IsS48.drew | apply IsS48.set_1 | refine IsS48.far ?_ NB240_262.out _ | refine IsS48.far ?_ NB240_268.out _) | exact HI240.out)) hb); have n4_ := Aside0.mk (below_step (by repeat (first | (with_reducible first | exact HB.out | apply below_alloc | apply pw_below_drewN | apply below_drew1 | refine below_set ?_ (IsS48.ge HI240.out) | refine below_set ?_ GE262.out | refine below_set ?_ GE268.out) | exact HB.out)) hb); clear HO_14; clear BK262; clear BK268; clear HI240; clear HB; have HO_14 := n0_; have BK262 := n1_; have BK268 := n2_; have HI240 := n3_; have HB := n4_; clear n0_ n1_ n2_ n3_ n4_; (try clear hb); (try clear hb2); (try clear hk); (try clear hi); refine hK.out _ _ ⟨(blk_cell BK262.out 0).trans rfl, (blk_cell BK262.out 1).trans rfl, (blk_cell BK268.out 0).trans rfl, (blk_cell BK268.out 1).trans rfl⟩ (fun hHeld => ?_); clear hK K; refine norm_ (a' := ?_) ?_ ?_; rotate_left
                              ·
                               show Act.put _ (some 165) _ = _
                               simp only [Act.put, List.setIfInBounds_toArray, List.set_cons_zero, List.set_cons_succ, i64_w, i32_w]; rfl
                              refine pure_ (i := 16) (N := some 166) (v := ?_) (a' := ?_) #[true, true, true, true, true, true, true, true, true, true, true, true, true, true, true, true, true, false] rfl rfl (any_of HT_.out (by kernel_rfl)) (fun _ _ _ h => h) (Or.inl ⟨by rfl, ?_⟩) ?_ ?_; rotate_left
                              ·
                               intro w'; go_simp
                               with_reducible rfl
                              rotate_left
                              ·
                               simp only [Act.put, List.setIfInBounds_toArray, List.set_cons_zero, List.set_cons_succ, i64_w, i32_w]; rfl
                              refine pure_ (i := 17) (N := some 167) (v := ?_) (a' := ?_) #[true, true, true, true, true, true, true, true, true, true, true, true, true, true, true, true, true, true] rfl rfl (any_of HT_.out (by kernel_rfl)) (fun _ _ _ h => h) (Or.inl ⟨by rfl, ?_⟩) ?_ ?_; rotate_left
                              ·
                               intro w'; go_simp
                               with_reducible rfl
                              rotate_left
                              ·
                               simp only [Act.put, List.setIfInBounds_toArray, List.set_cons_zero, List.set_cons_succ, i64_w, i32_w]; rfl
                              refine done_ (done_of HT_.out (by kernel_rfl)) ?_
                              try go_wp2
                              go_roundg k7
                              case measure => have := HJ6.out; have := HK2.out; have := HJ48.out; have := HK4.out; have := HJ67.out; have := HK6.out; have := HK7.out; omega
                              case rel => exact ⟨(wrap64 (x147_7 + 1)), (t288), (by first | rfl | (simp; done) | (simp [*]; done) | (refine congrArg (Value.int .i64) ?_; unfold wrap64; omega)), H', ⟨by have := HJ6.out; have := HK2.out; have := HJ48.out; have := HK4.out; have := HJ67.out; have := HK6.out; have := HK7.out; omega⟩, ⟨by (with_reducible repeat (first | apply Kd.R_alloc | apply Kd.R_drewN | apply Kd.R_drew)); exact HO_14.out⟩, ⟨by (with_reducible repeat (first | refine blk_drewN ?_ _ | refine blk_drew ?_ | refine blk_alloc ?_ _)); exact BK262.out⟩, ⟨by (with_reducible repeat (first | refine blk_drewN ?_ _ | refine blk_drew ?_ | refine blk_alloc ?_ _)); exact BK268.out⟩, ⟨by repeat (first | (with_reducible first | exact HI240.out | apply IsS48.alloc | apply IsS48.drewN | apply IsS48.drew | apply IsS48.set_1 | refine IsS48.far ?_ NB240_262.out _ | refine IsS48.far ?_ NB240_268.out _) | exact HI240.out)⟩, ⟨by repeat (first | (with_reducible first | exact HB.out | apply below_alloc | apply pw_below_drewN | apply below_drew1 | refine below_set ?_ (IsS48.ge HI240.out) | refine below_set ?_ GE262.out | refine below_set ?_ GE268.out) | exact HB.out)⟩⟩
                             ·
                              rw [if_neg c126] at H; have c126b0 : (t290 == t291) = false := beq_eq_false_iff_ne.mpr c126; have c126b1 : (t290 != t291) = true := bne_iff_ne.mpr c126; exact absurd ((Option.some.inj H).trans HRT.out) (by decide)
                           ·
                            rw [if_neg c119] at H; exact absurd H (by simp)
                          ·
                           rw [if_neg c118] at H; have c118b0 : decide (x147_7 < 3) = false := decide_eq_false c118; clear c118; have H' := Aside0.mk H; clear H
                           go_wp2
                           go_roundg k7
                           case measure => have := HJ6.out; have := HK2.out; have := HJ48.out; have := HK4.out; have := HJ67.out; have := HK6.out; have := HK7.out; omega
                           case rel => exact ⟨(wrap64 (x74_4 + 1)), (x241001_7), (by first | rfl | (simp; done) | (simp [*]; done) | (refine congrArg (Value.int .i64) ?_; unfold wrap64; omega)), H', ⟨by have := HJ6.out; have := HK2.out; have := HJ48.out; have := HK4.out; have := HJ67.out; have := HK6.out; have := HK7.out; omega⟩, ⟨by (with_reducible repeat (first | apply Kd.R_alloc | apply Kd.R_drewN | apply Kd.R_drew)); exact Kd.R_mono HO_14.out (fun _ hk => hk.1)⟩, ⟨by (with_reducible repeat (first | refine blk_drewN ?_ _ | refine blk_drew ?_ | refine blk_alloc ?_ _)); exact BK262.out⟩, ⟨by repeat (first | (with_reducible first | exact HI240.out | apply IsS48.alloc | apply IsS48.drewN | apply IsS48.drew | apply IsS48.set_1 | refine IsS48.far ?_ NB240_262.out _ | refine IsS48.far ?_ NB240_268.out _) | exact HI240.out)⟩, ⟨by repeat (first | (with_reducible first | exact HB.out | apply below_alloc | apply pw_below_drewN | apply below_drew1 | refine below_set ?_ (IsS48.ge HI240.out) | refine below_set ?_ GE262.out | refine below_set ?_ GE268.out) | exact HB.out)⟩⟩
                 ·
                  rw [if_neg c67] at H; exact absurd H (by simp)
                ·
                 rw [if_neg c66] at H; exact absurd H (by simp)
               ·
                rw [if_neg c65] at H; have c65b0 : decide (x74_4 < (y253.length : Int)) = false := decide_eq_false c65; clear c65; have H' := Aside0.mk H; clear H
                go_wp2
                go_roundg k4
                case measure => have := HJ6.out; have := HK2.out; have := HJ48.out; have := HK4.out; omega
                case rel => exact ⟨(wrap64 (x56_2 + 1)), (x241001_4), (by first | rfl | (simp; done) | (simp [*]; done) | (refine congrArg (Value.int .i64) ?_; unfold wrap64; omega)), H', ⟨by have := HJ6.out; have := HK2.out; have := HJ48.out; have := HK4.out; omega⟩, ⟨by (with_reducible repeat (first | apply Kd.R_alloc | apply Kd.R_drewN | apply Kd.R_drew)); exact Kd.R_mono HO_14.out (fun _ hk => trivial)⟩, ⟨by repeat (first | (with_reducible first | exact HI240.out | apply IsS48.alloc | apply IsS48.drewN | apply IsS48.drew | apply IsS48.set_1 | refine IsS48.far ?_ NB240_262.out _) | exact HI240.out)⟩, ⟨by repeat (first | (with_reducible first | exact HB.out | apply below_alloc | apply pw_below_drewN | apply below_drew1 | refine below_set ?_ (IsS48.ge HI240.out) | refine below_set ?_ GE262.out) | exact HB.out)⟩⟩
         ·
          rw [if_neg c48] at H; exact absurd H (by simp)
        ·
         rw [if_neg c47] at H; exact absurd H (by simp)
       ·
        rw [if_neg c46] at H; have c46b0 : decide (x56_2 < (y253.length : Int)) = false := decide_eq_false c46; clear c46; replace H := Option.bind_eq_some_iff.mp H; obtain ⟨⟨t256, t257⟩, A1320, H⟩ := H; replace H : ((trustquorumref23_Greatest.f k2 y253).bind fun bt258 => (if (t256 == bt258.1 && (t257.toList == bt258.2.toList)) = true then ((trustquorumlaw23_sane.f k2).bind fun t260 => (some t260)) else (some false))) = some r := H; have A132 := Aside0.mk A1320; clear A1320; replace H := Option.bind_eq_some_iff.mp H; obtain ⟨⟨t258, t259⟩, A1330, H⟩ := H; replace H : (if (t256 == t258 && (t257.toList == t259.toList)) = true then ((trustquorumlaw23_sane.f k2).bind fun t260 => (some t260)) else (some false)) = some r := H; have A133 := Aside0.mk A1330; clear A1330
        by_cases c134 : (t256 == t258 && (t257.toList == t259.toList)) = true
        ·
         rw [if_pos c134] at H; have c134b0 : (t256 == t258 && (t257.toList == t259.toList)) = true := c134; (try (have c134b1 : decide (t256 = t258 && (t257.toList == t259.toList)) = true := by simpa using c134)); (try (have c134b2 : (t256 == t258 && (t257.toList == t259.toList)) = true := by simpa using c134)); clear c134; replace H := Option.bind_eq_some_iff.mp H; obtain ⟨t260, A1350, H⟩ := H; replace H : (some t260) = some r := H; have A135 := Aside0.mk A1350; clear A1350; obtain rfl := Option.some.inj H
         go_wp2_with (first | ((with_reducible refine gate_callee (f := 24) rfl ?_); refine goesL_ (some 172) rfl rfl Try.func24 (by kernel_rfl) rfl #[.slice Ao45 y253.length co45] rfl (by (try simp only [List.map_toArray, List.map_cons, List.map_nil]); first | done | rfl | (simp only [List.length_drop, List.length_take]; rfl)) ?_; (with_reducible refine (ballots_Greatest.calls k2 _ _ y253 t256 t257 _ ?side1 ?side2 A132.out).mono ?_); (case side1 => repeat (first | exact (Kd.R_reads' HO_14.out).2.2 | (with_reducible refine Kd.C_alloc ?_ _) | (with_reducible refine Kd.C_drewN ?_ _) | (with_reducible refine Kd.C_drew ?_))); (case side2 => exact (Kd.R_reads' HO_14.out).2.1); rintro e w136 ⟨rfl, hb⟩; refine ⟨_, rfl, ?_⟩; have n0_ := Aside0.mk (Kd.R_below (by (with_reducible repeat (first | apply Kd.R_alloc | apply Kd.R_drewN | apply Kd.R_drew)); exact HO_14.out) hb); have n1_ := Aside0.mk (IsS48.below (by repeat (first | (with_reducible first | exact HI240.out | apply IsS48.alloc | apply IsS48.drewN | apply IsS48.drew | apply IsS48.set_1) | exact HI240.out)) hb); have n2_ := Aside0.mk (below_step (by repeat (first | (with_reducible first | exact HB.out | apply below_alloc | apply pw_below_drewN | apply below_drew1 | refine below_set ?_ (IsS48.ge HI240.out)) | exact HB.out)) hb); clear HO_14; clear HI240; clear HB; have HO_14 := n0_; have HI240 := n1_; have HB := n2_; clear n0_ n1_ n2_; (try clear hb); (try clear hb2); (try clear hk); (try clear hi)) | ((with_reducible refine gate_callee (f := 27) rfl ?_); refine goesL_ (some 174) rfl rfl Try.func27 (by kernel_rfl) rfl #[.slice Ao45 y253.length co45] rfl (by (try simp only [List.map_toArray, List.map_cons, List.map_nil]); first | done | rfl | (simp only [List.length_drop, List.length_take]; rfl)) ?_; (with_reducible refine (trustquorumref23_Greatest.calls k2 _ _ y253 t258 t259 _ ?side1 ?side2 A133.out).mono ?_); (case side1 => repeat (first | exact (Kd.R_reads' HO_14.out).2.2 | (with_reducible refine Kd.C_alloc ?_ _) | (with_reducible refine Kd.C_drewN ?_ _) | (with_reducible refine Kd.C_drew ?_))); (case side2 => exact (Kd.R_reads' HO_14.out).2.1); rintro e w137 ⟨rfl, hb⟩; refine ⟨_, rfl, ?_⟩; have n0_ := Aside0.mk (Kd.R_below (by (with_reducible repeat (first | apply Kd.R_alloc | apply Kd.R_drewN | apply Kd.R_drew)); exact HO_14.out) hb); have n1_ := Aside0.mk (IsS48.below (by repeat (first | (with_reducible first | exact HI240.out | apply IsS48.alloc | apply IsS48.drewN | apply IsS48.drew | apply IsS48.set_1) | exact HI240.out)) hb); have n2_ := Aside0.mk (below_step (by repeat (first | (with_reducible first | exact HB.out | apply below_alloc | apply pw_below_drewN | apply below_drew1 | refine below_set ?_ (IsS48.ge HI240.out)) | exact HB.out)) hb); clear HO_14; clear HI240; clear HB; have HO_14 := n0_; have HI240 := n1_; have HB := n2_; clear n0_ n1_ n2_; (try clear hb); (try clear hb2); (try clear hk); (try clear hi)) | (go_at_call 14; (with_reducible refine (trustquorumlaw23_sane.calls k2  t260 _ A135.out).mono ?_); rintro e w138 ⟨rfl, hb⟩; have n0_ := Aside0.mk (Kd.R_below (by (with_reducible repeat (first | apply Kd.R_alloc | apply Kd.R_drewN | apply Kd.R_drew)); exact HO_14.out) hb); have n1_ := Aside0.mk (IsS48.below (by repeat (first | (with_reducible first | exact HI240.out | apply IsS48.alloc | apply IsS48.drewN | apply IsS48.drew | apply IsS48.set_1) | exact HI240.out)) hb); have n2_ := Aside0.mk (below_step (by repeat (first | (with_reducible first | exact HB.out | apply below_alloc | apply pw_below_drewN | apply below_drew1 | refine below_set ?_ (IsS48.ge HI240.out)) | exact HB.out)) hb); clear HO_14; clear HI240; clear HB; have HO_14 := n0_; have HI240 := n1_; have HB := n2_; clear n0_ n1_ n2_; (try clear hb); (try clear hb2); (try clear hk); (try clear hi)))
         go_ret
         exact ⟨by first | rfl | (simp [errW_none, errW_some] <;> rfl) | (simp [*, errW_none, errW_some] <;> rfl), by repeat (first | (with_reducible first | exact HB.out | apply below_alloc | apply pw_below_drewN | apply below_drew1 | refine below_set ?_ (IsS48.ge HI240.out)) | exact HB.out)⟩
        ·
         rw [if_neg c134] at H; have c134b0 : (t256 == t258 && (t257.toList == t259.toList)) = false := by simpa using c134
         (try (have c134b1 : decide (t256 = t258 && (t257.toList == t259.toList)) = false := by simpa using c134)); (try (have c134b2 : (t256 == t258 && (t257.toList == t259.toList)) = false := by simpa using c134)); (try (have c134b3 : ¬ (t256 = t258 && (t257.toList == t259.toList)) := by simpa using c134)); clear c134; exact absurd ((Option.some.inj H).trans HRT.out) (by decide)
def g26 (x : S26) : Prop := (Lit.int .i64 x.f0).wf = true ∧ x.f1.size ≤ maxLen
/-- THE ONE PURE STATEMENT of trustquorumlaw23_BallotsExact: yours. -/
def trustquorumlaw23_BallotsExact.Pure : Prop := ∀ (l0 : List Int) (l1 : List (S26)) (a2_0 : Int) (a2_1 : ByteArray) (a3_0 : Int) (a3_1 : ByteArray) (a4_0 : Int) (a4_1 : ByteArray) (a5 : Int), l0.length ≤ maxLen → l0.length * 8 ≤ 140737488351232 → (∀ x ∈ l0, (Lit.int .i64 x).wf = true) → (l1.length ≤ maxLen ∧ ∀ y0_ ∈ l1, g26 y0_) → g26 (⟨a2_0, a2_1⟩ : S26) → g26 (⟨a3_0, a3_1⟩ : S26) → g26 (⟨a4_0, a4_1⟩ : S26) → (Lit.int .i64 a5).wf = true → ∃ k, trustquorumlaw23_BallotsExact.f k l0 l1 a2_0 a2_1 a3_0 a3_1 a4_0 a4_1 a5 = some true
theorem trustquorumlaw23_BallotsExact.walk (P : trustquorumlaw23_BallotsExact.Pure) (a0 : Option Addr) (len0 cap0 : Nat) (z0 : List Int) (A1 : Option Addr) (c1 : Nat) (l1 : List (S26)) (a2_0 : Int) (a2_1 : ByteArray) (a3_0 : Int) (a3_1 : ByteArray) (a4_0 : Int) (a4_1 : ByteArray) (a5 : Int) (w : World) (w0 : (a0 = none ∧ len0 = 0 ∧ cap0 = 0 ∧ z0 = []) ∨ ∃ x, a0 = some x ∧ len0 ≤ cap0 ∧ cap0 ≤ maxLen ∧ z0.length = cap0 ∧ (∀ i, i < z0.length → w.cell? (x.add i) = some (.int .i64 (z0.getD i 0))) ∧ ∀ n ∈ z0, (Lit.int .i64 n).wf = true) (y0 : len0 * 8 ≤ 140737488351232) (hr1 : Kd.C k26 w A1 l1.length l1) (hc1 : l1.length ≤ c1) (w1 : (l1.length ≤ maxLen ∧ ∀ y0_ ∈ l1, g26 y0_)) (w2 : g26 (⟨a2_0, a2_1⟩ : S26)) (w3 : g26 (⟨a3_0, a3_1⟩ : S26)) (w4 : g26 (⟨a4_0, a4_1⟩ : S26)) (w5 : (Lit.int .i64 a5).wf = true) :
    Calls Try.prog 8 #[.slice a0 len0 cap0, .slice A1 l1.length c1, .agg #[.int .i64 a2_0, .string a2_1], .agg #[.int .i64 a3_0, .string a3_1], .agg #[.int .i64 a4_0, .string a4_1], .int .i64 a5] w fun e w' => e = .returned (.bool true) ∧ Below w.heap.size w w' := by
  obtain ⟨l0, rfl, hr0, hm0, hw0, hc0⟩ := ReadsInt.ofRowC w0
  obtain ⟨k, h⟩ := P l0 l1 a2_0 a2_1 a3_0 a3_1 a4_0 a4_1 a5 hm0 y0 hw0 w1 w2 w3 w4 w5
  refine (trustquorumlaw23_BallotsExact.calls k _ _ l0 _ _ l1 a2_0 a2_1 a3_0 a3_1 a4_0 a4_1 a5 true w (Kd.C_of_reads (d := (0 : Int)) (h1 := fun _ => rfl) hr0) hc0 hr1 hc1 ⟨rfl⟩ h).mono ?_
  rintro e w' ⟨rfl, hd⟩
  exact ⟨rfl, hd⟩

end Go.Proofs.Ytogdpfmlldaeeaa.QBallotsExact
