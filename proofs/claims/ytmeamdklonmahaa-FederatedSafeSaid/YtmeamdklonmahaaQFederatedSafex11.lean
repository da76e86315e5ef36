/- Lean functions that answer as the Go functions do which the law reaches, and proofs that the Go code comes to exactly these answers. Conditions: those that each theorem names. -/
import Derived.Test.YtmeamdklonmahaaQFederatedSafex0
import Derived.Test.YtmeamdklonmahaaQFederatedSafex2
import Derived.Test.YtmeamdklonmahaaQFederatedSafex3
import Derived.Test.YtmeamdklonmahaaQFederatedSafex7
import Derived.Test.YtmeamdklonmahaaQFederatedSafex10
namespace Go.Proofs.Ytmeamdklonmahaa.QFederatedSafe
open Go.RowKit Go.Proofs.YtmeamdklonmahaaW.PrintWords Go.Proofs.YtmeamdklonmahaaW.PrintLast Go.Proofs.YtmeamdklonmahaaW.PrintMore
attribute [local go_sem] max2_int min2_int max_two min_two max_three min_three max_four min_four   -- for this text's walks alone
set_option linter.unusedVariables false
set_option linter.unusedSimpArgs false

/-! ### trustquorumref02_Satisfied: function 101 -/
mutual
def trustquorumref02_Satisfied.l0 : Nat → Int → Int → List Int → Int → Int → Int → List Int → List (S48) → Option (Bool)
  | 0, _, _, _, _, _, _, _, _ => none
  | k + 1, x1, x5, x14, x15, x16, x406000, x406001, x406002 => if x16 < x15 then (if 0 ≤ x16 then (if x16 < (x14.length : Int) then ((trustquorumref01_Has.f x1 (rd x14 x16)).bind fun t408 => (if t408 = true then (trustquorumref02_Satisfied.l0 k x1 (wrap64 (x5 + 1)) x14 x15 (wrap64 (x16 + 1)) x406000 x406001 x406002) else (trustquorumref02_Satisfied.l0 k x1 x5 x14 x15 (wrap64 (x16 + 1)) x406000 x406001 x406002))) else (none)) else (none)) else (trustquorumref02_Satisfied.l1 k x1 x5 x406002 (x406002.length : Int) 0 x406000 x406001 x406002)
def trustquorumref02_Satisfied.l1 : Nat → Int → Int → List (S48) → Int → Int → Int → List Int → List (S48) → Option (Bool)
  | 0, _, _, _, _, _, _, _, _ => none
  | k + 1, x1, x5, x27, x28, x29, x406000, x406001, x406002 => if x29 < x28 then (if 0 ≤ x29 then (if x29 < (x27.length : Int) then ((trustquorumref02_Satisfied.f k ((rd_T48 x27 x29).f0) ((rd_T48 x27 x29).f1) ((rd_T48 x27 x29).f2) x1).bind fun t411 => (if t411 = true then (trustquorumref02_Satisfied.l1 k x1 (wrap64 (x5 + 1)) x27 x28 (wrap64 (x29 + 1)) x406000 x406001 x406002) else (trustquorumref02_Satisfied.l1 k x1 x5 x27 x28 (wrap64 (x29 + 1)) x406000 x406001 x406002))) else (none)) else (none)) else (some (decide (x5 ≥ x406000)))
def trustquorumref02_Satisfied.f : Nat → Int → List Int → List (S48) → Int → Option (Bool)
  | 0, _, _, _, _ => none
  | k + 1, a0_0, l0_1, l0_2, a1 => (trustquorumref01_Valid.f a1).bind fun t406 => (if t406 = true then (trustquorumref02_Satisfied.l0 k a1 0 l0_1 (l0_1.length : Int) 0 a0_0 l0_1 l0_2) else (some false))
end
set_option maxHeartbeats 8000000 in
set_option maxRecDepth 100000 in
theorem trustquorumref02_Satisfied.calls (k : Nat) : ∀ (a0_0 : Int) (A0_1 : Option Addr) (c0_1 : Nat) (l0_1 : List Int) (A0_2 : Option Addr) (c0_2 : Nat) (l0_2 : List (S48)) (a1 : Int) (r : Bool) (w : World) (hr0_1 : Kd.C (Kd.int .i64) w A0_1 l0_1.length l0_1) (hc0_1 : l0_1.length ≤ c0_1) (hr0_2 : Kd.C k48 w A0_2 l0_2.length l0_2) (hc0_2 : l0_2.length ≤ c0_2) (h : trustquorumref02_Satisfied.f k a0_0 l0_1 l0_2 a1 = some r),
    Calls Try.prog 101 #[.agg #[.int .i64 a0_0, .slice A0_1 l0_1.length c0_1, .slice A0_2 l0_2.length c0_2], .int .i64 a1] w fun e w' => e = .returned (.bool r) ∧ Below w.heap.size w w' := by
 induction k using Nat.strongRecOn with
 | _ k ih =>
 intro a0_0 A0_1 c0_1 l0_1 A0_2 c0_2 l0_2 a1 r w hr0_1 hc0_1 hr0_2 hc0_2 h
 cases k with
 | zero => exact absurd h (by simp [trustquorumref02_Satisfied.f])
 | succ k =>
 simp only [trustquorumref02_Satisfied.f] at h; have hu48 := Try.underlying48; have HR0_1 := am hr0_1; have HC0_1 := am hc0_1; clear hr0_1 hc0_1; have HR0_2 := am hr0_2; have HC0_2 := am hc0_2; clear hr0_2 hc0_2; have HB := am (Below.refl w.heap.size w); have H : ((trustquorumref01_Valid.f a1).bind fun t406 => (if t406 = true then (trustquorumref02_Satisfied.l0 k a1 0 l0_1 (l0_1.length : Int) 0 a0_0 l0_1 l0_2) else (some false))) = some r := h; clear h; replace H := Option.bind_eq_some_iff.mp H; obtain ⟨t406, A30, H⟩ := H; replace H : (if t406 = true then (trustquorumref02_Satisfied.l0 k a1 0 l0_1 (l0_1.length : Int) 0 a0_0 l0_1 l0_2) else (some false)) = some r := H; have A3 := am A30; clear A30
 by_cases c4 : t406 = true
 ·
  subst c4; have H1 : (trustquorumref02_Satisfied.l0 k a1 0 l0_1 (l0_1.length : Int) 0 a0_0 l0_1 l0_2) = some r := by rw [if_pos rfl] at H; exact H
  clear H; have H := H1; clear H1; have H' := am H; clear H
  go_enter Try.func101, Try.ntmps101
  go_wp2_with (first | (refine bx 2 #[.int .i64 a0_0, .slice A0_1 l0_1.length c0_1, .slice A0_2 l0_2.length c0_2] 48 HB.out ?_; intro gb405 hg w5 BK405 GE405 hb; replace HB := bs HB hb; clear hb hg) | (refine gA (some 11) Try.func55 #[.int .i64 a1] ?_; (with_reducible refine (trustquorumref01_Valid.calls a1 true _ A3.out).mono ?_); rintro e w' ⟨rfl, ⟨nd, rfl⟩⟩; refine ⟨_, rfl, ?_⟩; have hcz6_0 : w5.cell? ⟨gb405, 0, none⟩ = some (.int .i64 a0_0) := (blk_cell BK405.out 0).trans rfl; have hcz6_1 : w5.cell? ⟨gb405, 1, none⟩ = some (.slice A0_1 l0_1.length c0_1) := (blk_cell BK405.out 1).trans rfl; have hcz6_2 : w5.cell? ⟨gb405, 2, none⟩ = some (.slice A0_2 l0_2.length c0_2) := (blk_cell BK405.out 2).trans rfl; have hfz6_0 := blk_frozen BK405.out 0; have hfz6_1 := blk_frozen BK405.out 1; have hfz6_2 := blk_frozen BK405.out 2))
  go_loopg [5, 16] k (fun kq v5 v16 w' => ∃ (x5_1 : Int) (x16_1 : Int), v5 = .int .i64 x5_1 ∧ v16 = .int .i64 x16_1 ∧ Aside0 (trustquorumref02_Satisfied.l0 kq a1 x5_1 l0_1 (l0_1.length : Int) x16_1 a0_0 l0_1 l0_2 = some r) ∧ Aside0 (kq ≤ k) ∧ Aside0 (w'.heap[gb405]? = some (.cells #[.int .i64 a0_0, (.slice A0_1 l0_1.length c0_1), (.slice A0_2 l0_2.length c0_2)] 48 (0, 0))) ∧ Aside0 (Below w.heap.size w w'))
  case atStart => exact ⟨(0), (0), ar, ar, H', ⟨Nat.le_refl _⟩, ⟨by exact BK405.out⟩, ⟨cl0⟩⟩
  case round =>
   clear H'; (try clear c1); (try clear p2); (try clear c4); (try clear c5); (try clear p6); (try clear hcz6_0 hcz6_1 hcz6_2 hfz6_0 hfz6_1 hfz6_2); obtain ⟨x5_1, x16_1, rfl, rfl, HA, HK1, BK405, HB⟩ := hrel
   cases gk with
   | zero => exact absurd HA.out (by simp [trustquorumref02_Satisfied.l0])
   | succ k1 =>
    have H := HA.out; clear HA; simp only [trustquorumref02_Satisfied.l0] at H
    by_cases c7 : x16_1 < (l0_1.length : Int)
    ·
     rw [if_pos c7] at H; have c7b0 : decide (x16_1 < (l0_1.length : Int)) = true := decide_eq_true c7; clear c7
     by_cases c8 : 0 ≤ x16_1
     ·
      rw [if_pos c8] at H; have c8b0 : decide (0 ≤ x16_1) = true := decide_eq_true c8; clear c8
      by_cases c9 : x16_1 < (l0_1.length : Int)
      ·
       rw [if_pos c9] at H; have c9b0 : decide (x16_1 < (l0_1.length : Int)) = true := decide_eq_true c9; clear c9; replace H := Option.bind_eq_some_iff.mp H; obtain ⟨t408, A100, H⟩ := H; replace H : (if t408 = true then (trustquorumref02_Satisfied.l0 k1 a1 (wrap64 (x5_1 + 1)) l0_1 (l0_1.length : Int) (wrap64 (x16_1 + 1)) a0_0 l0_1 l0_2) else (trustquorumref02_Satisfied.l0 k1 a1 x5_1 l0_1 (l0_1.length : Int) (wrap64 (x16_1 + 1)) a0_0 l0_1 l0_2)) = some r := H; have A10 := am A100; clear A100
       by_cases c11 : t408 = true
       ·
        subst c11; have H1 : (trustquorumref02_Satisfied.l0 k1 a1 (wrap64 (x5_1 + 1)) l0_1 (l0_1.length : Int) (wrap64 (x16_1 + 1)) a0_0 l0_1 l0_2) = some r := by rw [if_pos rfl] at H; exact H
        clear H; have H := H1; clear H1; have H' := am H; clear H; have p407 : 0 ≤ (x16_1 : Int) := od; have q407 : x16_1 < (l0_1.length : Int) := od; obtain ⟨ad407, e407, hx407_0⟩ := Kd.at_int HR0_1.out x16_1 p407 q407
        cases e407
        replace hx407_0 := (HB.out.cell (World.block_lt_of_cell? w _ hx407_0)).trans hx407_0; replace p407 := eq_true p407; replace q407 := eq_true q407
        go_wp2_with (first | (refine gA (some 22) Try.func18 #[.int .i64 a1, .int .i64 (rd l0_1 x16_1)] ?_; (with_reducible refine (trustquorumref01_Has.calls a1 (rd l0_1 x16_1) true _ A10.out).mono ?_); rintro e w' ⟨rfl, ⟨nd, rfl⟩⟩; refine ⟨_, rfl, ?_⟩))
        go_roundg k1
        case measure => have := HK1.out; omega
        case rel => exact ⟨(wrap64 (x5_1 + 1)), (wrap64 (x16_1 + 1)), ar, ar, H', ⟨by have := HK1.out; omega⟩, ⟨by exact BK405.out⟩, ⟨cl0⟩⟩
       ·
        replace c11 := Bool.eq_false_iff.mpr c11; subst c11; have H1 : (trustquorumref02_Satisfied.l0 k1 a1 x5_1 l0_1 (l0_1.length : Int) (wrap64 (x16_1 + 1)) a0_0 l0_1 l0_2) = some r := by rw [if_neg (show ¬ (false = true) by decide)] at H; exact H
        clear H; have H := H1; clear H1; have H' := am H; clear H; have p407 : 0 ≤ (x16_1 : Int) := od; have q407 : x16_1 < (l0_1.length : Int) := od; obtain ⟨ad407, e407, hx407_0⟩ := Kd.at_int HR0_1.out x16_1 p407 q407
        cases e407
        replace hx407_0 := (HB.out.cell (World.block_lt_of_cell? w _ hx407_0)).trans hx407_0; replace p407 := eq_true p407; replace q407 := eq_true q407
        go_wp2_with (first | (refine gA (some 22) Try.func18 #[.int .i64 a1, .int .i64 (rd l0_1 x16_1)] ?_; (with_reducible refine (trustquorumref01_Has.calls a1 (rd l0_1 x16_1) false _ A10.out).mono ?_); rintro e w' ⟨rfl, ⟨nd, rfl⟩⟩; refine ⟨_, rfl, ?_⟩))
        go_roundg k1
        case measure => have := HK1.out; omega
        case rel => exact ⟨(x5_1), (wrap64 (x16_1 + 1)), ar, ar, H', ⟨by have := HK1.out; omega⟩, ⟨by exact BK405.out⟩, ⟨cl0⟩⟩
      ·
       rw [if_neg c9] at H; exact absurd H (by simp)
     ·
      rw [if_neg c8] at H; exact absurd H (by simp)
    ·
     rw [if_neg c7] at H; have c7b0 : decide (x16_1 < (l0_1.length : Int)) = false := decide_eq_false c7; clear c7; have H' := am H; clear H; obtain ⟨hcz12_0, hcz12_1, hcz12_2, hfz12_0, hfz12_1, hfz12_2⟩ := blkC3 BK405.out
     go_wp2
     go_loopg [5, 29] k1 (fun kq v5 v29 w' => ∃ (x5_2 : Int) (x29_2 : Int), v5 = .int .i64 x5_2 ∧ v29 = .int .i64 x29_2 ∧ Aside0 (trustquorumref02_Satisfied.l1 kq a1 x5_2 l0_2 (l0_2.length : Int) x29_2 a0_0 l0_1 l0_2 = some r) ∧ Aside0 (kq ≤ k1) ∧ Aside0 (w'.heap[gb405]? = some (.cells #[.int .i64 a0_0, (.slice A0_1 l0_1.length c0_1), (.slice A0_2 l0_2.length c0_2)] 48 (0, 0))) ∧ Aside0 (Below w.heap.size w w'))
     case atStart => exact ⟨(x5_1), (0), ar, ar, H', ⟨Nat.le_refl _⟩, ⟨by exact BK405.out⟩, ⟨by exact HB.out⟩⟩
     case round =>
      clear H'; (try clear c1); (try clear p2); (try clear c4); (try clear p4); (try clear q4); (try clear hx4); (try clear c5); (try clear p6); (try clear c7); (try clear c7b0); (try clear c8); (try clear c8b0); (try clear c9); (try clear c9b0); (try clear c10); (try clear c11); (try clear hcz12_0 hcz12_1 hcz12_2); (try clear hcz6_0 hcz6_1 hcz6_2); (try clear hfz12_0 hfz12_1 hfz12_2); (try clear hfz6_0 hfz6_1 hfz6_2); (try clear hx407_0); (try clear p2); (try clear p407); (try clear p6); (try clear q407); obtain ⟨x5_2, x29_2, rfl, rfl, HA, HK2, BK405, HB⟩ := hrel
      cases gk with
      | zero => exact absurd HA.out (by simp [trustquorumref02_Satisfied.l1])
      | succ k2 =>
       have H := HA.out; clear HA; simp only [trustquorumref02_Satisfied.l1] at H
       by_cases c13 : x29_2 < (l0_2.length : Int)
       ·
        rw [if_pos c13] at H; have c13b0 : decide (x29_2 < (l0_2.length : Int)) = true := decide_eq_true c13; clear c13
        by_cases c14 : 0 ≤ x29_2
        ·
         rw [if_pos c14] at H; have c14b0 : decide (0 ≤ x29_2) = true := decide_eq_true c14; clear c14
         by_cases c15 : x29_2 < (l0_2.length : Int)
         ·
          rw [if_pos c15] at H; have c15b0 : decide (x29_2 < (l0_2.length : Int)) = true := decide_eq_true c15; clear c15; replace H := Option.bind_eq_some_iff.mp H; obtain ⟨t411, A160, H⟩ := H; replace H : (if t411 = true then (trustquorumref02_Satisfied.l1 k2 a1 (wrap64 (x5_2 + 1)) l0_2 (l0_2.length : Int) (wrap64 (x29_2 + 1)) a0_0 l0_1 l0_2) else (trustquorumref02_Satisfied.l1 k2 a1 x5_2 l0_2 (l0_2.length : Int) (wrap64 (x29_2 + 1)) a0_0 l0_1 l0_2)) = some r := H; have A16 := am A160; clear A160
          by_cases c17 : t411 = true
          ·
           subst c17; have H1 : (trustquorumref02_Satisfied.l1 k2 a1 (wrap64 (x5_2 + 1)) l0_2 (l0_2.length : Int) (wrap64 (x29_2 + 1)) a0_0 l0_1 l0_2) = some r := by rw [if_pos rfl] at H; exact H
           clear H; have H := H1; clear H1; have H' := am H; clear H; have p409 : 0 ≤ (x29_2 : Int) := od; have q409 : x29_2 < (l0_2.length : Int) := od; obtain ⟨ad409, A409_1, c409_1, A409_2, c409_2, e409, hx409_0, hx409_1, hx409_2, hl409_1, hi409_1, hl409_2, hi409_2⟩ := at_T48 HR0_2.out x29_2 p409 q409
           cases e409
           replace hx409_0 := (HB.out.cell (World.block_lt_of_cell? w _ hx409_0)).trans hx409_0; replace hx409_1 := (HB.out.cell (World.block_lt_of_cell? w _ hx409_1)).trans hx409_1; replace hx409_2 := (HB.out.cell (World.block_lt_of_cell? w _ hx409_2)).trans hx409_2; have HR409_1 := am hi409_1; have HC409_1 := am hl409_1; clear hi409_1 hl409_1; have HR409_2 := am hi409_2; have HC409_2 := am hl409_2; clear hi409_2 hl409_2; replace p409 := eq_true p409; replace q409 := eq_true q409
           go_wp2_with (first | (refine bx 9 #[.int .i64 0, .slice none 0 0, .slice none 0 0] 48 HB.out ?_; intro gb410 hg w18 BK410 GE410 hb; replace HB := bs HB hb; have NB405_410 := nl hg BK405; have NB410_405 := ng hg BK405; replace BK405 := bb BK405 hb; clear hb hg; have hnb19 := NB410_405.out; have hnc19 := NB405_410.out; obtain ⟨hcz20_0, hcz20_1, hcz20_2, hfz20_0, hfz20_1, hfz20_2⟩ := blkC3 BK410.out) | (refine gA (some 35) Try.func101 #[.agg #[.int .i64 ((rd_T48 l0_2 x29_2).f0), .slice A409_1 ((rd_T48 l0_2 x29_2).f1).length c409_1, .slice A409_2 ((rd_T48 l0_2 x29_2).f2).length c409_2], .int .i64 a1] ?_; (with_reducible refine (ih k2 (by have := HK1.out; have := HK2.out; omega) ((rd_T48 l0_2 x29_2).f0) _ _ ((rd_T48 l0_2 x29_2).f1) _ _ ((rd_T48 l0_2 x29_2).f2) a1 true _ (Kd.C_below HR409_1.out cl0) HC409_1.out (Kd.C_below HR409_2.out cl0) HC409_2.out A16.out).mono ?_); rintro e w21 ⟨rfl, hb⟩; refine ⟨_, rfl, ?_⟩; replace BK405 := am (blk_below (g := gb405) (o := .cells #[.int .i64 a0_0, .slice A0_1 l0_1.length c0_1, .slice (some ad409) l0_2.length c0_2] 48 (0, 0)) bo hb); replace BK410 := am (blk_below (g := gb410) (o := .cells #[.int .i64 ((rd_T48 l0_2 x29_2).f0), .slice A409_1 ((rd_T48 l0_2 x29_2).f1).length c409_1, .slice A409_2 ((rd_T48 l0_2 x29_2).f2).length c409_2] 48 (0, 0)) bo hb); replace HB := am (below_step (kw HB cl0) hb); (try clear hb); (try clear hi)))
           go_roundg k2
           case measure => have := HK1.out; have := HK2.out; omega
           case rel => exact ⟨(wrap64 (x5_2 + 1)), (wrap64 (x29_2 + 1)), ar, ar, H', ⟨by have := HK1.out; have := HK2.out; omega⟩, ⟨by exact BK405.out⟩, ⟨by exact HB.out⟩⟩
          ·
           replace c17 := Bool.eq_false_iff.mpr c17; subst c17; have H1 : (trustquorumref02_Satisfied.l1 k2 a1 x5_2 l0_2 (l0_2.length : Int) (wrap64 (x29_2 + 1)) a0_0 l0_1 l0_2) = some r := by rw [if_neg (show ¬ (false = true) by decide)] at H; exact H
           clear H; have H := H1; clear H1; have H' := am H; clear H; have p409 : 0 ≤ (x29_2 : Int) := od; have q409 : x29_2 < (l0_2.length : Int) := od; obtain ⟨ad409, A409_1, c409_1, A409_2, c409_2, e409, hx409_0, hx409_1, hx409_2, hl409_1, hi409_1, hl409_2, hi409_2⟩ := at_T48 HR0_2.out x29_2 p409 q409
           cases e409
           replace hx409_0 := (HB.out.cell (World.block_lt_of_cell? w _ hx409_0)).trans hx409_0; replace hx409_1 := (HB.out.cell (World.block_lt_of_cell? w _ hx409_1)).trans hx409_1; replace hx409_2 := (HB.out.cell (World.block_lt_of_cell? w _ hx409_2)).trans hx409_2; have HR409_1 := am hi409_1; have HC409_1 := am hl409_1; clear hi409_1 hl409_1; have HR409_2 := am hi409_2; have HC409_2 := am hl409_2; clear hi409_2 hl409_2; replace p409 := eq_true p409; replace q409 := eq_true q409
           go_wp2_with (first | (refine bx 9 #[.int .i64 0, .slice none 0 0, .slice none 0 0] 48 HB.out ?_; intro gb410 hg w22 BK410 GE410 hb; replace HB := bs HB hb; have NB405_410 := nl hg BK405; have NB410_405 := ng hg BK405; replace BK405 := bb BK405 hb; clear hb hg; have hnb23 := NB410_405.out; have hnc23 := NB405_410.out; obtain ⟨hcz24_0, hcz24_1, hcz24_2, hfz24_0, hfz24_1, hfz24_2⟩ := blkC3 BK410.out) | (refine gA (some 35) Try.func101 #[.agg #[.int .i64 ((rd_T48 l0_2 x29_2).f0), .slice A409_1 ((rd_T48 l0_2 x29_2).f1).length c409_1, .slice A409_2 ((rd_T48 l0_2 x29_2).f2).length c409_2], .int .i64 a1] ?_; (with_reducible refine (ih k2 (by have := HK1.out; have := HK2.out; omega) ((rd_T48 l0_2 x29_2).f0) _ _ ((rd_T48 l0_2 x29_2).f1) _ _ ((rd_T48 l0_2 x29_2).f2) a1 false _ (Kd.C_below HR409_1.out cl0) HC409_1.out (Kd.C_below HR409_2.out cl0) HC409_2.out A16.out).mono ?_); rintro e w25 ⟨rfl, hb⟩; refine ⟨_, rfl, ?_⟩; replace BK405 := am (blk_below (g := gb405) (o := .cells #[.int .i64 a0_0, .slice A0_1 l0_1.length c0_1, .slice (some ad409) l0_2.length c0_2] 48 (0, 0)) bo hb); replace BK410 := am (blk_below (g := gb410) (o := .cells #[.int .i64 ((rd_T48 l0_2 x29_2).f0), .slice A409_1 ((rd_T48 l0_2 x29_2).f1).length c409_1, .slice A409_2 ((rd_T48 l0_2 x29_2).f2).length c409_2] 48 (0, 0)) bo hb); replace HB := am (below_step (kw HB cl0) hb); (try clear hb); (try clear hi)))
           go_roundg k2
           case measure => have := HK1.out; have := HK2.out; omega
           case rel => exact ⟨(x5_2), (wrap64 (x29_2 + 1)), ar, ar, H', ⟨by have := HK1.out; have := HK2.out; omega⟩, ⟨by exact BK405.out⟩, ⟨by exact HB.out⟩⟩
         ·
          rw [if_neg c15] at H; exact absurd H (by simp)
        ·
         rw [if_neg c14] at H; exact absurd H (by simp)
       ·
        rw [if_neg c13] at H; have c13b0 : decide (x29_2 < (l0_2.length : Int)) = false := decide_eq_false c13; clear c13; obtain rfl := Option.some.inj H; obtain ⟨hcz26_0, hcz26_1, hcz26_2, hfz26_0, hfz26_1, hfz26_2⟩ := blkC3 BK405.out
        go_wp2
        go_ret
        exact ⟨er, by exact HB.out⟩
 ·
  replace c4 := Bool.eq_false_iff.mpr c4; subst c4; have H1 : (some false) = some r := by rw [if_neg (show ¬ (false = true) by decide)] at H; exact H
  clear H; have H := H1; clear H1; obtain rfl := Option.some.inj H
  go_enter Try.func101, Try.ntmps101
  go_wp2_with (first | (refine bx 2 #[.int .i64 a0_0, .slice A0_1 l0_1.length c0_1, .slice A0_2 l0_2.length c0_2] 48 HB.out ?_; intro gb405 hg w27 BK405 GE405 hb; replace HB := bs HB hb; clear hb hg) | (refine gA (some 11) Try.func55 #[.int .i64 a1] ?_; (with_reducible refine (trustquorumref01_Valid.calls a1 false _ A3.out).mono ?_); rintro e w' ⟨rfl, ⟨nd, rfl⟩⟩; refine ⟨_, rfl, ?_⟩))
  go_ret
  exact ⟨er, cl0⟩
/-! ### trustquorumref09_Elimination: function 102 -/
mutual
def trustquorumref09_Elimination.l0 : Nat → Int → List Int → Bool → List (S54) → Option (List Int)
  | 0, _, _, _, _ => none
  | k + 1, x5, x6, x7, x413000 => if x7 = true then ((trustquorumref01_Nodes.f k x5).bind fun t415 => (trustquorumref09_Elimination.l1 k x5 x6 false t415 (t415.length : Int) 0 x413000)) else (some x6)
def trustquorumref09_Elimination.l1 : Nat → Int → List Int → Bool → List Int → Int → Int → List (S54) → Option (List Int)
  | 0, _, _, _, _, _, _, _ => none
  | k + 1, x5, x6, x7, x19, x20, x21, x413000 => if x21 < x20 then (if 0 ≤ x21 then (if x21 < (x19.length : Int) then (if 0 ≤ (rd x19 x21) then (if (rd x19 x21) < (x413000.length : Int) then ((trustquorumref02_Satisfied.f k ((rd_T54 x413000 (rd x19 x21)).f1.f0) ((rd_T54 x413000 (rd x19 x21)).f1.f1) ((rd_T54 x413000 (rd x19 x21)).f1.f2) x5).bind fun t420 => (if t420 = true then (trustquorumref09_Elimination.l1 k x5 x6 x7 x19 x20 (wrap64 (x21 + 1)) x413000) else (if x6.length < 17592186044416 then (trustquorumref09_Elimination.l0 k (wrap64 (x5 - (shl .i64 1 (rd x19 x21)))) (x6 ++ [rd x19 x21]) true x413000) else (none)))) else (none)) else (none)) else (none)) else (none)) else (trustquorumref09_Elimination.l0 k x5 x6 x7 x413000)
end
def trustquorumref09_Elimination.f (k : Nat) (l0_0 : List (S54)) (a1 : Int) : Option (List Int) := (trustquorumref01_Valid.f a1).bind fun t413 => (if t413 = true then ((trustquorumref06_Declared.f k l0_0).bind fun t414 => (trustquorumref09_Elimination.l0 k (Go.bits .and .i64 a1 t414) ([] : List Int) true l0_0)) else (some ([] : List Int)))
set_option maxHeartbeats 8000000 in
set_option maxRecDepth 100000 in
theorem trustquorumref09_Elimination.calls (k : Nat) (A0_0 : Option Addr) (c0_0 : Nat) (l0_0 : List (S54)) (a1 : Int) (r : List Int) (w : World) (hr0_0 : Kd.C k54 w A0_0 l0_0.length l0_0) (hc0_0 : l0_0.length ≤ c0_0) (h : trustquorumref09_Elimination.f k l0_0 a1 = some r) :
    Calls Try.prog 102 #[.agg #[.slice A0_0 l0_0.length c0_0], .int .i64 a1] w fun e w' => ∃ v0_ : Value, e = .returned (v0_) ∧ Kd.R (Kd.int .i64) 3 w' w.heap.size (fun _ => True) v0_ r ∧ Below w.heap.size w w' := by
 have hu27 := Try.underlying27; have hu48 := Try.underlying48; have HR0_0 := am hr0_0; have HC0_0 := am hc0_0; clear hr0_0 hc0_0; have HB := am (Below.refl w.heap.size w); have H : ((trustquorumref01_Valid.f a1).bind fun t413 => (if t413 = true then ((trustquorumref06_Declared.f k l0_0).bind fun t414 => (trustquorumref09_Elimination.l0 k (Go.bits .and .i64 a1 t414) ([] : List Int) true l0_0)) else (some ([] : List Int)))) = some r := h; clear h; replace H := Option.bind_eq_some_iff.mp H; obtain ⟨t413, A30, H⟩ := H; replace H : (if t413 = true then ((trustquorumref06_Declared.f k l0_0).bind fun t414 => (trustquorumref09_Elimination.l0 k (Go.bits .and .i64 a1 t414) ([] : List Int) true l0_0)) else (some ([] : List Int))) = some r := H; have A3 := am A30; clear A30
 by_cases c4 : t413 = true
 ·
  subst c4; have H1 : ((trustquorumref06_Declared.f k l0_0).bind fun t414 => (trustquorumref09_Elimination.l0 k (Go.bits .and .i64 a1 t414) ([] : List Int) true l0_0)) = some r := by rw [if_pos rfl] at H; exact H
  clear H; have H := H1; clear H1; replace H := Option.bind_eq_some_iff.mp H; obtain ⟨t414, A50, H⟩ := H; replace H : (trustquorumref09_Elimination.l0 k (Go.bits .and .i64 a1 t414) ([] : List Int) true l0_0) = some r := H; have A5 := am A50; clear A50; have H' := am H; clear H
  go_enter Try.func102, Try.ntmps102
  go_wp2_with (first | (refine bx 2 #[.slice A0_0 l0_0.length c0_0] 27 HB.out ?_; intro gb412 hg w6 BK412 GE412 hb; replace HB := bs HB hb; clear hb hg) | (refine gA (some 11) Try.func55 #[.int .i64 a1] ?_; (with_reducible refine (trustquorumref01_Valid.calls a1 true _ A3.out).mono ?_); rintro e w' ⟨rfl, ⟨nd, rfl⟩⟩; refine ⟨_, rfl, ?_⟩; have hcz7_0 : w6.cell? ⟨gb412, 0, none⟩ = some (.slice A0_0 l0_0.length c0_0) := (blk_cell BK412.out 0).trans rfl; have hfz7_0 := blk_frozen BK412.out 0) | (refine gA (some 15) Try.func52 #[.agg #[.slice A0_0 l0_0.length c0_0]] ?_; (with_reducible refine (trustquorumref06_Declared.calls k _ _ l0_0 t414 _ ?side1 ?side2 A5.out).mono ?_); (case side1 => repeat (first | exact (Kd.C_below HR0_0.out cl0) | (with_reducible refine Kd.C_alloc ?_ _) | (with_reducible refine Kd.C_drewN ?_ _) | (with_reducible refine Kd.C_drew ?_))); (case side2 => exact HC0_0.out); rintro e w8 ⟨rfl, hb⟩; refine ⟨_, rfl, ?_⟩; replace BK412 := bw BK412 hb; replace HB := am (below_step (kw HB cl0) hb); (try clear hb); (try clear hi)))
  go_loopg [5, 6, 7] k (fun kq v5 v6 v7 w' => ∃ (x5_1 : Int) (x6_1 : List Int) (x7_1 : Bool), v5 = .int .i64 x5_1 ∧ v7 = .bool x7_1 ∧ Aside0 (trustquorumref09_Elimination.l0 kq x5_1 x6_1 x7_1 l0_0 = some r) ∧ Aside0 (kq ≤ k) ∧ Aside0 (Kd.R (Kd.int .i64) 3 w' w.heap.size (fun _ => True) v6 x6_1) ∧ Aside0 (w'.heap[gb412]? = some (.cells #[(.slice A0_0 l0_0.length c0_0)] 27 (0, 0))) ∧ Aside0 (Below w.heap.size w w'))
  case atStart => exact ⟨(Go.bits .and .i64 a1 t414), (([] : List Int)), (true), ar, ar, H', ⟨Nat.le_refl _⟩, ⟨by first | exact Kd.R_nil _ _ _ _ _ | exact Kd.N_nil _ _ _ _ _ | exact Kd.V_nil _ _ _ _ _ | exact Kd.Q_nil _ _ _ _ _ | exact Kd.S_nil _ _ _ _ _⟩, ⟨by exact BK412.out⟩, ⟨by exact HB.out⟩⟩
  case round =>
   clear H'; (try clear c1); (try clear p2); (try clear c4); (try clear c5); (try clear p6); (try clear hcz7_0 hfz7_0); obtain ⟨x5_1, x6_1, x7_1, rfl, rfl, HA, HK1, HO_6, BK412, HB⟩ := hrel
   cases gk with
   | zero => exact absurd HA.out (by simp [trustquorumref09_Elimination.l0])
   | succ k1 =>
    have H := HA.out; clear HA; simp only [trustquorumref09_Elimination.l0] at H
    by_cases c9 : x7_1 = true
    ·
     subst c9; have H1 : ((trustquorumref01_Nodes.f k1 x5_1).bind fun t415 => (trustquorumref09_Elimination.l1 k1 x5_1 x6_1 false t415 (t415.length : Int) 0 l0_0)) = some r := by rw [if_pos rfl] at H; exact H
     clear H; have H := H1; clear H1; replace H := Option.bind_eq_some_iff.mp H; obtain ⟨t415, A100, H⟩ := H; replace H : (trustquorumref09_Elimination.l1 k1 x5_1 x6_1 false t415 (t415.length : Int) 0 l0_0) = some r := H; have A10 := am A100; clear A100; have H' := am H; clear H
     go_wp2_with (first | (refine gA (some 19) Try.func21 #[.int .i64 x5_1] ?_; (with_reducible refine (trustquorumref01_Nodes.calls k1 x5_1 t415 _ A10.out).mono ?_); rintro e w11 ⟨v416, rfl, ho0, hb⟩; refine ⟨_, rfl, ?_⟩; have HO417 := am (Kd.R_lower (Kd.R_new' ho0 (Kd.R_lt HO_6.out)) (below_size HB.out)); replace HO_6 := am (Kd.R_elder' HO_6.out (Kd.R_base ho0) hb); replace BK412 := bb BK412 hb; replace HB := bs HB hb; (try clear hb); (try clear ho0); obtain ⟨Ao12, co12, eo12⟩ := Kd.R_slice HO417.out; subst eo12))
     go_loopg [5, 6, 7, 21] k1 (fun kq v5 v6 v7 v21 w' => ∃ (x5_2 : Int) (x6_2 : List Int) (x7_2 : Bool) (x21_2 : Int), v5 = .int .i64 x5_2 ∧ v7 = .bool x7_2 ∧ v21 = .int .i64 x21_2 ∧ Aside0 (trustquorumref09_Elimination.l1 kq x5_2 x6_2 x7_2 t415 (t415.length : Int) x21_2 l0_0 = some r) ∧ Aside0 (kq ≤ k1) ∧ Aside0 (Kd.R (Kd.int .i64) 3 w' w.heap.size (fun k_ => some k_ ≠ ((.slice Ao12 t415.length co12) : Value).ownBlock) v6 x6_2) ∧ Aside0 (Kd.R (Kd.int .i64) 3 w' w.heap.size (fun k_ => some k_ ≠ (v6 : Value).ownBlock) (.slice Ao12 t415.length co12) t415) ∧ Aside0 (w'.heap[gb412]? = some (.cells #[(.slice A0_0 l0_0.length c0_0)] 27 (0, 0))) ∧ Aside0 (Below w.heap.size w w'))
     case atStart => exact ⟨(x5_1), (x6_1), (false), (0), ar, ar, ar, H', ⟨Nat.le_refl _⟩, ⟨by exact Kd.R_mono HO_6.out (fun _ hk => hk.2)⟩, ⟨by exact Kd.R_mono HO417.out (fun _ hk => hk.2)⟩, ⟨by exact BK412.out⟩, ⟨by exact HB.out⟩⟩
     case round =>
      clear H'; (try clear c1); (try clear c2); (try clear p2); (try clear c4); (try clear c5); (try clear p6); (try clear c9); (try clear c10); (try clear hcz7_0 hfz7_0); (try clear p2); (try clear p6); obtain ⟨x5_2, x6_2, x7_2, x21_2, rfl, rfl, rfl, HA, HK2, HO_6, HO_19, BK412, HB⟩ := hrel
      cases gk with
      | zero => exact absurd HA.out (by simp [trustquorumref09_Elimination.l1])
      | succ k2 =>
       have H := HA.out; clear HA; simp only [trustquorumref09_Elimination.l1] at H
       by_cases c13 : x21_2 < (t415.length : Int)
       ·
        rw [if_pos c13] at H; have c13b0 : decide (x21_2 < (t415.length : Int)) = true := decide_eq_true c13; clear c13
        by_cases c14 : 0 ≤ x21_2
        ·
         rw [if_pos c14] at H; have c14b0 : decide (0 ≤ x21_2) = true := decide_eq_true c14; clear c14
         by_cases c15 : x21_2 < (t415.length : Int)
         ·
          rw [if_pos c15] at H; have c15b0 : decide (x21_2 < (t415.length : Int)) = true := decide_eq_true c15; clear c15
          by_cases c16 : 0 ≤ (rd t415 x21_2)
          ·
           rw [if_pos c16] at H; have c16b0 : decide (0 ≤ (rd t415 x21_2)) = true := decide_eq_true c16; clear c16
           by_cases c17 : (rd t415 x21_2) < (l0_0.length : Int)
           ·
            rw [if_pos c17] at H; have c17b0 : decide ((rd t415 x21_2) < (l0_0.length : Int)) = true := decide_eq_true c17; clear c17; replace H := Option.bind_eq_some_iff.mp H; obtain ⟨t420, A180, H⟩ := H; replace H : (if t420 = true then (trustquorumref09_Elimination.l1 k2 x5_2 x6_2 x7_2 t415 (t415.length : Int) (wrap64 (x21_2 + 1)) l0_0) else (if x6_2.length < 17592186044416 then (trustquorumref09_Elimination.l0 k2 (wrap64 (x5_2 - (shl .i64 1 (rd t415 x21_2)))) (x6_2 ++ [rd t415 x21_2]) true l0_0) else (none))) = some r := H; have A18 := am A180; clear A180
            by_cases c19 : t420 = true
            ·
             subst c19; have H1 : (trustquorumref09_Elimination.l1 k2 x5_2 x6_2 x7_2 t415 (t415.length : Int) (wrap64 (x21_2 + 1)) l0_0) = some r := by rw [if_pos rfl] at H; exact H
             clear H; have H := H1; clear H1; have H' := am H; clear H; have p418 : 0 ≤ (x21_2 : Int) := od; have q418 : x21_2 < (t415.length : Int) := od; obtain ⟨ad418, e418, hx418_0⟩ := Kd.at_int (Kd.R_reads' HO_19.out).2.2 x21_2 p418 q418
             cases e418
             replace p418 := eq_true p418; replace q418 := eq_true q418; obtain ⟨hcz20_0, hfz20_0⟩ := blkC1 BK412.out; have p419 : 0 ≤ ((rd t415 x21_2) : Int) := od; have q419 : (rd t415 x21_2) < (l0_0.length : Int) := od; obtain ⟨ad419, A419_2, c419_2, A419_3, c419_3, e419, hx419_0, hx419_1, hx419_2, hx419_3, hl419_2, hi419_2, hl419_3, hi419_3⟩ := at_T54 HR0_0.out (rd t415 x21_2) p419 q419
             cases e419
             replace hx419_0 := (HB.out.cell (World.block_lt_of_cell? w _ hx419_0)).trans hx419_0; replace hx419_1 := (HB.out.cell (World.block_lt_of_cell? w _ hx419_1)).trans hx419_1; replace hx419_2 := (HB.out.cell (World.block_lt_of_cell? w _ hx419_2)).trans hx419_2; replace hx419_3 := (HB.out.cell (World.block_lt_of_cell? w _ hx419_3)).trans hx419_3; have HR419_2 := am hi419_2; have HC419_2 := am hl419_2; clear hi419_2 hl419_2; have HR419_3 := am hi419_3; have HC419_3 := am hl419_3; clear hi419_3 hl419_3; replace p419 := eq_true p419; replace q419 := eq_true q419
             go_wp2_with (first | (refine gA (some 32) Try.func101 #[.agg #[.int .i64 ((rd_T54 l0_0 (rd t415 x21_2)).f1.f0), .slice A419_2 ((rd_T54 l0_0 (rd t415 x21_2)).f1.f1).length c419_2, .slice A419_3 ((rd_T54 l0_0 (rd t415 x21_2)).f1.f2).length c419_3], .int .i64 x5_2] ?_; (with_reducible refine (trustquorumref02_Satisfied.calls k2 ((rd_T54 l0_0 (rd t415 x21_2)).f1.f0) _ _ ((rd_T54 l0_0 (rd t415 x21_2)).f1.f1) _ _ ((rd_T54 l0_0 (rd t415 x21_2)).f1.f2) x5_2 true _ (Kd.C_below HR419_2.out HB.out) HC419_2.out (Kd.C_below HR419_3.out HB.out) HC419_3.out A18.out).mono ?_); rintro e w21 ⟨rfl, hb⟩; refine ⟨_, rfl, ?_⟩; replace HO_6 := am (Kd.R_below HO_6.out hb); replace HO_19 := am (Kd.R_below HO_19.out hb); replace BK412 := bb BK412 hb; replace HB := bs HB hb; (try clear hb); (try clear hi)))
             go_roundg k2
             case measure => have := HK1.out; have := HK2.out; omega
             case rel => exact ⟨(x5_2), (x6_2), (x7_2), (wrap64 (x21_2 + 1)), ar, ar, ar, H', ⟨by have := HK1.out; have := HK2.out; omega⟩, ⟨by exact HO_6.out⟩, ⟨by exact HO_19.out⟩, ⟨by exact BK412.out⟩, ⟨by exact HB.out⟩⟩
            ·
             replace c19 := Bool.eq_false_iff.mpr c19; subst c19; have H1 : (if x6_2.length < 17592186044416 then (trustquorumref09_Elimination.l0 k2 (wrap64 (x5_2 - (shl .i64 1 (rd t415 x21_2)))) (x6_2 ++ [rd t415 x21_2]) true l0_0) else (none)) = some r := by rw [if_neg (show ¬ (false = true) by decide)] at H; exact H
             clear H; have H := H1; clear H1; have c22b0 := eq_true (od : 0 ≤ (rd t415 x21_2)); obtain ⟨ji23, hji23⟩ : ∃ j_ : Int, (shl .i64 1 (rd t415 x21_2)) = j_ := ⟨_, rfl⟩; replace H : (if x6_2.length < 17592186044416 then (trustquorumref09_Elimination.l0 k2 (wrap64 (x5_2 - (ji23))) (x6_2 ++ [rd t415 x21_2]) true l0_0) else (none)) = some r := by first | (rw [hji23] at H; exact H) | (simp only [hji23] at H ⊢; exact H)
             (try rw [hji23] at A18); have hji23_ : (IntKind.i64.wrap (1 * 2 ^ min (rd t415 x21_2).toNat 64)) = ji23 := hji23; have hji23z : (rd t415 x21_2) ≤ 64 → (IntKind.i64.wrap (1 * 2 ^ (rd t415 x21_2).toNat)) = ji23 := shl_small hji23; have hji23u : (IntKind.i64.wrap (2 ^ min (rd t415 x21_2).toNat 64)) = ji23 := by have h_ := hji23_; rw [Int.one_mul] at h_; exact h_
             have hji23v : (rd t415 x21_2) ≤ 64 → (IntKind.i64.wrap (2 ^ (rd t415 x21_2).toNat)) = ji23 := fun hle_ => by have h_ := hji23z hle_; rw [Int.one_mul] at h_; exact h_
             have hji23y : (wrap64 (1 * 2 ^ min (rd t415 x21_2).toNat 64)) = ji23 := (i64_w _).symm.trans hji23_; have hji23x : (rd t415 x21_2) ≤ 64 → (wrap64 (1 * 2 ^ (rd t415 x21_2).toNat)) = ji23 := fun h_ => (i64_w _).symm.trans (hji23z h_)
             by_cases c24 : x6_2.length < 17592186044416
             ·
              rw [if_pos c24] at H; have LMc24 := am c24; clear c24; obtain ⟨y421, hy421⟩ : ∃ y_ : List Int, y_ = (x6_2 ++ [rd t415 x21_2]) := ⟨_, rfl⟩; replace H : (trustquorumref09_Elimination.l0 k2 (wrap64 (x5_2 - (ji23))) y421 true l0_0) = some r := by first | (rw [hy421]; with_reducible exact H) | (have H2_ := (Option.bind_some _ _).symm.trans H; rw [hy421]; with_reducible exact H2_) | (have H2_ := (Option.bind_some _ _).symm.trans H; with_reducible exact H2_) | with_reducible exact H | (rw [hy421]; exact H) | exact H
              have Ny421 := am hy421; clear hy421; have H' := am H; clear H; have p418 : 0 ≤ (x21_2 : Int) := od; have q418 : x21_2 < (t415.length : Int) := od; obtain ⟨ad418, e418, hx418_0⟩ := Kd.at_int (Kd.R_reads' HO_19.out).2.2 x21_2 p418 q418
              cases e418
              replace p418 := eq_true p418; replace q418 := eq_true q418; obtain ⟨hcz25_0, hfz25_0⟩ := blkC1 BK412.out; have p419 : 0 ≤ ((rd t415 x21_2) : Int) := od; have q419 : (rd t415 x21_2) < (l0_0.length : Int) := od; obtain ⟨ad419, A419_2, c419_2, A419_3, c419_3, e419, hx419_0, hx419_1, hx419_2, hx419_3, hl419_2, hi419_2, hl419_3, hi419_3⟩ := at_T54 HR0_0.out (rd t415 x21_2) p419 q419
              cases e419
              replace hx419_0 := (HB.out.cell (World.block_lt_of_cell? w _ hx419_0)).trans hx419_0; replace hx419_1 := (HB.out.cell (World.block_lt_of_cell? w _ hx419_1)).trans hx419_1; replace hx419_2 := (HB.out.cell (World.block_lt_of_cell? w _ hx419_2)).trans hx419_2; replace hx419_3 := (HB.out.cell (World.block_lt_of_cell? w _ hx419_3)).trans hx419_3; have HR419_2 := am hi419_2; have HC419_2 := am hl419_2; clear hi419_2 hl419_2; have HR419_3 := am hi419_3; have HC419_3 := am hl419_3; clear hi419_3 hl419_3; replace p419 := eq_true p419; replace q419 := eq_true q419
              go_wp2_with (first | (refine gA (some 32) Try.func101 #[.agg #[.int .i64 ((rd_T54 l0_0 (rd t415 x21_2)).f1.f0), .slice A419_2 ((rd_T54 l0_0 (rd t415 x21_2)).f1.f1).length c419_2, .slice A419_3 ((rd_T54 l0_0 (rd t415 x21_2)).f1.f2).length c419_3], .int .i64 x5_2] ?_; (with_reducible refine (trustquorumref02_Satisfied.calls k2 ((rd_T54 l0_0 (rd t415 x21_2)).f1.f0) _ _ ((rd_T54 l0_0 (rd t415 x21_2)).f1.f1) _ _ ((rd_T54 l0_0 (rd t415 x21_2)).f1.f2) x5_2 false _ (Kd.C_below HR419_2.out HB.out) HC419_2.out (Kd.C_below HR419_3.out HB.out) HC419_3.out A18.out).mono ?_); rintro e w26 ⟨rfl, hb⟩; refine ⟨_, rfl, ?_⟩; replace HO_6 := am (Kd.R_below HO_6.out hb); replace HO_19 := am (Kd.R_below HO_19.out hb); replace BK412 := bb BK412 hb; replace HB := bs HB hb; (try clear hb); (try clear hi)) | ((with_reducible refine gate_builtin (b := .append) (xs := #[.tmp 38, .tmp 40]) rfl ?_); at_builtin; refine Kd.R_append (Kd.int .i64) (w0 := w) w.heap.size rfl (.tmp 38) (.tmp 40) 22 3 (.int .i64 0) 8 rfl Try.underlying22 info3 rfl (by decide) (by omega) u6 x6_2 (rd t415 x21_2) [.int .i64 (rd t415 x21_2)] (fun k_ => some k_ ≠ (.slice (some ad418) t415.length co12 : Value).ownBlock) (fun _ => False) rfl rfl ?aP (fun _ hk => hk.elim) ?aF ?aO ?aB ?aS ?aL ?_; (case aP => exact rfl); (case aB => exact HB.out); (case aF => exact (fun k_ hk => Kd.fresh' (Kd.R_lt HO_19.out) k_ hk)); (case aO => exact HO_6.out); (case aS => exact (below_size HB.out)); (case aL => have := LMc24.out; omega); intro v422 w27 ho hb hg hat; rw [← Ny421.out] at ho; replace HO_19 := am (Kd.R_after (ok := (fun _ => True)) (by exact Kd.R_mono HO_19.out (fun _ hk => ⟨trivial, hk⟩)) hg hat); replace BK412 := am (blk_grown BK412.out hg (Kd.R_ne HO_6.out BK412.out (by decide))); replace HB := am (hb); have HO423 := am (ho); clear HO_6; clear ho hb hg hat))
              go_roundg k2
              case measure => have := HK1.out; have := HK2.out; omega
              case rel => exact ⟨(wrap64 (x5_2 - (ji23))), (y421), (true), (by first | rfl | (simp; done) | (simp only [← hji23] <;> (first | rfl | simp)) | (simp [*]; done)), ar, H', ⟨by have := HK1.out; have := HK2.out; omega⟩, ⟨by exact Kd.R_mono HO423.out (fun _ hk => trivial)⟩, ⟨by exact BK412.out⟩, ⟨by exact HB.out⟩⟩
             ·
              rw [if_neg c24] at H; exact absurd H (by simp)
           ·
            rw [if_neg c17] at H; exact absurd H (by simp)
          ·
           rw [if_neg c16] at H; exact absurd H (by simp)
         ·
          rw [if_neg c15] at H; exact absurd H (by simp)
        ·
         rw [if_neg c14] at H; exact absurd H (by simp)
       ·
        rw [if_neg c13] at H; have c13b0 : decide (x21_2 < (t415.length : Int)) = false := decide_eq_false c13; clear c13; have H' := am H; clear H
        go_wp2
        go_roundg k2
        case measure => have := HK1.out; have := HK2.out; omega
        case rel => exact ⟨(x5_2), (x6_2), (x7_2), ar, ar, H', ⟨by have := HK1.out; have := HK2.out; omega⟩, ⟨by exact Kd.R_mono HO_6.out (fun _ hk => trivial)⟩, ⟨by exact BK412.out⟩, ⟨by exact HB.out⟩⟩
    ·
     replace c9 := Bool.eq_false_iff.mpr c9; subst c9; have H1 : (some x6_1) = some r := by rw [if_neg (show ¬ (false = true) by decide)] at H; exact H
     clear H; have H := H1; clear H1; obtain rfl := Option.some.inj H
     go_wp2
     go_ret
     exact ⟨_, by first | rfl | (simp [errW_none, errW_some] <;> rfl) | (simp [*, errW_none, errW_some] <;> rfl), by exact HO_6.out, by exact HB.out⟩
 ·
  replace c4 := Bool.eq_false_iff.mpr c4; subst c4; have H1 : (some ([] : List Int)) = some r := by rw [if_neg (show ¬ (false = true) by decide)] at H; exact H
  clear H; have H := H1; clear H1; obtain rfl := Option.some.inj H
  go_enter Try.func102, Try.ntmps102
  go_wp2_with (first | (refine bx 2 #[.slice A0_0 l0_0.length c0_0] 27 HB.out ?_; intro gb412 hg w28 BK412 GE412 hb; replace HB := bs HB hb; clear hb hg) | (refine gA (some 11) Try.func55 #[.int .i64 a1] ?_; (with_reducible refine (trustquorumref01_Valid.calls a1 false _ A3.out).mono ?_); rintro e w' ⟨rfl, ⟨nd, rfl⟩⟩; refine ⟨_, rfl, ?_⟩))
  go_ret
  exact ⟨_, by first | rfl | (simp [errW_none, errW_some] <;> rfl) | (simp [*, errW_none, errW_some] <;> rfl), by first | exact Kd.R_nil _ _ _ _ _ | exact Kd.N_nil _ _ _ _ _ | exact Kd.V_nil _ _ _ _ _ | exact Kd.Q_nil _ _ _ _ _ | exact Kd.S_nil _ _ _ _ _, cl0⟩
/-! ### trustquorumref09_Greatest: function 72 -/
def trustquorumref09_Greatest.l0 : Nat → Int → List Int → Int → Int → Option (Int)
  | 0, _, _, _, _ => none
  | k + 1, x5, x17, x18, x19 => if x19 < x18 then (if 0 ≤ x19 then (if x19 < (x17.length : Int) then (if 0 ≤ (rd x17 x19) then (trustquorumref09_Greatest.l0 k (wrap64 (x5 - (shl .i64 1 (rd x17 x19)))) x17 x18 (wrap64 (x19 + 1))) else (none)) else (none)) else (none)) else (some x5)
def trustquorumref09_Greatest.f (k : Nat) (l0_0 : List (S54)) (a1 : Int) : Option (Int) := (trustquorumref01_Valid.f a1).bind fun t425 => (if t425 = true then ((trustquorumref06_Declared.f k l0_0).bind fun t426 => ((trustquorumref09_Elimination.f k l0_0 a1).bind fun t427 => (trustquorumref09_Greatest.l0 k (Go.bits .and .i64 a1 t426) t427 (t427.length : Int) 0))) else (some 0))
set_option maxHeartbeats 8000000 in
set_option maxRecDepth 100000 in
theorem trustquorumref09_Greatest.calls (k : Nat) (A0_0 : Option Addr) (c0_0 : Nat) (l0_0 : List (S54)) (a1 : Int) (r : Int) (w : World) (hr0_0 : Kd.C k54 w A0_0 l0_0.length l0_0) (hc0_0 : l0_0.length ≤ c0_0) (h : trustquorumref09_Greatest.f k l0_0 a1 = some r) :
    Calls Try.prog 72 #[.agg #[.slice A0_0 l0_0.length c0_0], .int .i64 a1] w fun e w' => e = .returned (.int .i64 r) ∧ Below w.heap.size w w' := by
 have hu27 := Try.underlying27; have HR0_0 := am hr0_0; have HC0_0 := am hc0_0; clear hr0_0 hc0_0; have HB := am (Below.refl w.heap.size w); have H : ((trustquorumref01_Valid.f a1).bind fun t425 => (if t425 = true then ((trustquorumref06_Declared.f k l0_0).bind fun t426 => ((trustquorumref09_Elimination.f k l0_0 a1).bind fun t427 => (trustquorumref09_Greatest.l0 k (Go.bits .and .i64 a1 t426) t427 (t427.length : Int) 0))) else (some 0))) = some r := h; clear h; replace H := Option.bind_eq_some_iff.mp H; obtain ⟨t425, A30, H⟩ := H; replace H : (if t425 = true then ((trustquorumref06_Declared.f k l0_0).bind fun t426 => ((trustquorumref09_Elimination.f k l0_0 a1).bind fun t427 => (trustquorumref09_Greatest.l0 k (Go.bits .and .i64 a1 t426) t427 (t427.length : Int) 0))) else (some 0)) = some r := H; have A3 := am A30; clear A30
 by_cases c4 : t425 = true
 ·
  subst c4; have H1 : ((trustquorumref06_Declared.f k l0_0).bind fun t426 => ((trustquorumref09_Elimination.f k l0_0 a1).bind fun t427 => (trustquorumref09_Greatest.l0 k (Go.bits .and .i64 a1 t426) t427 (t427.length : Int) 0))) = some r := by rw [if_pos rfl] at H; exact H
  clear H; have H := H1; clear H1; replace H := Option.bind_eq_some_iff.mp H; obtain ⟨t426, A50, H⟩ := H; replace H : ((trustquorumref09_Elimination.f k l0_0 a1).bind fun t427 => (trustquorumref09_Greatest.l0 k (Go.bits .and .i64 a1 t426) t427 (t427.length : Int) 0)) = some r := H; have A5 := am A50; clear A50; replace H := Option.bind_eq_some_iff.mp H; obtain ⟨t427, A60, H⟩ := H; replace H : (trustquorumref09_Greatest.l0 k (Go.bits .and .i64 a1 t426) t427 (t427.length : Int) 0) = some r := H; have A6 := am A60; clear A60; have H' := am H; clear H
  go_enter Try.func72, Try.ntmps72
  go_wp2_with (first | (refine bx 2 #[.slice A0_0 l0_0.length c0_0] 27 HB.out ?_; intro gb424 hg w7 BK424 GE424 hb; replace HB := bs HB hb; clear hb hg) | (refine gA (some 9) Try.func55 #[.int .i64 a1] ?_; (with_reducible refine (trustquorumref01_Valid.calls a1 true _ A3.out).mono ?_); rintro e w' ⟨rfl, ⟨nd, rfl⟩⟩; refine ⟨_, rfl, ?_⟩; have hcz8_0 : w7.cell? ⟨gb424, 0, none⟩ = some (.slice A0_0 l0_0.length c0_0) := (blk_cell BK424.out 0).trans rfl; have hfz8_0 := blk_frozen BK424.out 0) | (refine gA (some 13) Try.func52 #[.agg #[.slice A0_0 l0_0.length c0_0]] ?_; (with_reducible refine (trustquorumref06_Declared.calls k _ _ l0_0 t426 _ ?side1 ?side2 A5.out).mono ?_); (case side1 => repeat (first | exact (Kd.C_below HR0_0.out cl0) | (with_reducible refine Kd.C_alloc ?_ _) | (with_reducible refine Kd.C_drewN ?_ _) | (with_reducible refine Kd.C_drew ?_))); (case side2 => exact HC0_0.out); rintro e w9 ⟨rfl, hb⟩; refine ⟨_, rfl, ?_⟩; replace BK424 := bw BK424 hb; replace HB := am (below_step (kw HB cl0) hb); (try clear hb); obtain ⟨hcz10_0, hfz10_0⟩ := blkC1 BK424.out) | (refine gA (some 17) Try.func102 #[.agg #[.slice A0_0 l0_0.length c0_0], .int .i64 a1] ?_; (with_reducible refine (trustquorumref09_Elimination.calls k _ _ l0_0 a1 t427 _ (Kd.C_below HR0_0.out HB.out) HC0_0.out A6.out).mono ?_); rintro e w11 ⟨v428, rfl, ho0, hb⟩; refine ⟨_, rfl, ?_⟩; have HO429 := am (Kd.R_lower ho0 (below_size HB.out)); replace BK424 := bb BK424 hb; replace HB := bs HB hb; (try clear hb); (try clear ho0); obtain ⟨Ao12, co12, eo12⟩ := Kd.R_slice HO429.out; subst eo12))
  go_loopg [5, 19] k (fun kq v5 v19 w' => ∃ (x5_1 : Int) (x19_1 : Int), v5 = .int .i64 x5_1 ∧ v19 = .int .i64 x19_1 ∧ Aside0 (trustquorumref09_Greatest.l0 kq x5_1 t427 (t427.length : Int) x19_1 = some r) ∧ Aside0 (kq ≤ k) ∧ Aside0 (Kd.R (Kd.int .i64) 3 w' w.heap.size (fun _ => True) (.slice Ao12 t427.length co12) t427) ∧ Aside0 (Below w.heap.size w w'))
  case atStart => exact ⟨(Go.bits .and .i64 a1 t426), (0), ar, ar, H', ⟨Nat.le_refl _⟩, ⟨by exact HO429.out⟩, ⟨by exact HB.out⟩⟩
  case round =>
   clear H'; (try clear c1); (try clear p2); (try clear c4); (try clear c5); (try clear p6); (try clear c7); (try clear c10); (try clear hcz10_0); (try clear hcz8_0); (try clear hfz10_0); (try clear hfz8_0); obtain ⟨x5_1, x19_1, rfl, rfl, HA, HK1, HO_17, HB⟩ := hrel
   cases gk with
   | zero => exact absurd HA.out (by simp [trustquorumref09_Greatest.l0])
   | succ k1 =>
    have H := HA.out; clear HA; simp only [trustquorumref09_Greatest.l0] at H
    by_cases c13 : x19_1 < (t427.length : Int)
    ·
     rw [if_pos c13] at H; have c13b0 : decide (x19_1 < (t427.length : Int)) = true := decide_eq_true c13; clear c13
     by_cases c14 : 0 ≤ x19_1
     ·
      rw [if_pos c14] at H; have c14b0 : decide (0 ≤ x19_1) = true := decide_eq_true c14; clear c14
      by_cases c15 : x19_1 < (t427.length : Int)
      ·
       rw [if_pos c15] at H; have c15b0 : decide (x19_1 < (t427.length : Int)) = true := decide_eq_true c15; clear c15
       by_cases c16 : 0 ≤ (rd t427 x19_1)
       ·
        rw [if_pos c16] at H; have c16b0 := eq_true c16; have c16b1 : decide (0 ≤ (rd t427 x19_1)) = true := decide_eq_true c16; clear c16; obtain ⟨ji17, hji17⟩ : ∃ j_ : Int, (shl .i64 1 (rd t427 x19_1)) = j_ := ⟨_, rfl⟩; replace H : (trustquorumref09_Greatest.l0 k1 (wrap64 (x5_1 - (ji17))) t427 (t427.length : Int) (wrap64 (x19_1 + 1))) = some r := by first | (rw [hji17] at H; exact H) | (simp only [hji17] at H ⊢; exact H)
        have hji17_ : (IntKind.i64.wrap (1 * 2 ^ min (rd t427 x19_1).toNat 64)) = ji17 := hji17; have hji17z : (rd t427 x19_1) ≤ 64 → (IntKind.i64.wrap (1 * 2 ^ (rd t427 x19_1).toNat)) = ji17 := shl_small hji17; have hji17u : (IntKind.i64.wrap (2 ^ min (rd t427 x19_1).toNat 64)) = ji17 := by have h_ := hji17_; rw [Int.one_mul] at h_; exact h_
        have hji17v : (rd t427 x19_1) ≤ 64 → (IntKind.i64.wrap (2 ^ (rd t427 x19_1).toNat)) = ji17 := fun hle_ => by have h_ := hji17z hle_; rw [Int.one_mul] at h_; exact h_
        have hji17y : (wrap64 (1 * 2 ^ min (rd t427 x19_1).toNat 64)) = ji17 := (i64_w _).symm.trans hji17_; have hji17x : (rd t427 x19_1) ≤ 64 → (wrap64 (1 * 2 ^ (rd t427 x19_1).toNat)) = ji17 := fun h_ => (i64_w _).symm.trans (hji17z h_); have H' := am H; clear H; have p430 : 0 ≤ (x19_1 : Int) := od; have q430 : x19_1 < (t427.length : Int) := od; obtain ⟨ad430, e430, hx430_0⟩ := Kd.at_int (Kd.R_reads' HO_17.out).2.2 x19_1 p430 q430
        cases e430
        replace p430 := eq_true p430; replace q430 := eq_true q430
        go_wp2
        go_roundg k1
        case measure => have := HK1.out; omega
        case rel => exact ⟨(wrap64 (x5_1 - (ji17))), (wrap64 (x19_1 + 1)), (by first | rfl | (simp; done) | (simp only [← hji17] <;> (first | rfl | simp)) | (simp [*]; done)), ar, H', ⟨by have := HK1.out; omega⟩, ⟨by exact HO_17.out⟩, ⟨by exact HB.out⟩⟩
       ·
        rw [if_neg c16] at H; exact absurd H (by simp)
      ·
       rw [if_neg c15] at H; exact absurd H (by simp)
     ·
      rw [if_neg c14] at H; exact absurd H (by simp)
    ·
     rw [if_neg c13] at H; have c13b0 : decide (x19_1 < (t427.length : Int)) = false := decide_eq_false c13; clear c13; obtain rfl := Option.some.inj H
     go_wp2
     go_ret
     exact ⟨er, by exact HB.out⟩
 ·
  replace c4 := Bool.eq_false_iff.mpr c4; subst c4; have H1 : (some 0) = some r := by rw [if_neg (show ¬ (false = true) by decide)] at H; exact H
  clear H; have H := H1; clear H1; obtain rfl := Option.some.inj H
  go_enter Try.func72, Try.ntmps72
  go_wp2_with (first | (refine bx 2 #[.slice A0_0 l0_0.length c0_0] 27 HB.out ?_; intro gb424 hg w18 BK424 GE424 hb; replace HB := bs HB hb; clear hb hg) | (refine gA (some 9) Try.func55 #[.int .i64 a1] ?_; (with_reducible refine (trustquorumref01_Valid.calls a1 false _ A3.out).mono ?_); rintro e w' ⟨rfl, ⟨nd, rfl⟩⟩; refine ⟨_, rfl, ?_⟩))
  go_ret
  exact ⟨er, cl0⟩
end Go.Proofs.Ytmeamdklonmahaa.QFederatedSafe
