/- Lean functions that answer as the Go functions do which the law reaches, and proofs that the Go code comes to exactly these answers. Conditions: those that each theorem names. -/
import Derived.Test.YtphndccgadblnaaQLeadersAnswersx0
import Derived.Test.YtphndccgadblnaaQLeadersAnswersx4
import Derived.Test.YtphndccgadblnaaQLeadersAnswersx7
import Derived.Test.YtphndccgadblnaaQLeadersAnswersx10
import Derived.Test.YtphndccgadblnaaQLeadersAnswersx12
namespace Go.Proofs.Ytphndccgadblnaa.QLeadersAnswers
open Go.RowKit Go.Proofs.YtphndccgadblnaaW.PrintWords Go.Proofs.YtphndccgadblnaaW.PrintLast Go.Proofs.YtphndccgadblnaaW.PrintMore
attribute [local go_sem] max2_int min2_int max_two min_two max_three min_three max_four min_four   -- for this text's walks alone
set_option linter.unusedVariables false
set_option linter.unusedSimpArgs false

/-! ### trustquorumref21_Choose: function 27 -/
def trustquorumref21_Choose.l0 : Nat → Int → Int → Int → Int → Int → Int → List Int → List (S27) → Option (Int × Int)
  | 0, _, _, _, _, _, _, _, _ => none
  | k + 1, x1, x2, x3, x11, x12, x479000, x479001, x479002 => if x12 < 10 then ((trustquorumref21_Neighbour.f k x479000 x479001 x479002 x1 x2 x3 x12).bind fun t480 => (if t480 = true then ((trustquorumref21_Hash.f 2 x2 x3 x12).bind fun t481 => ((trustquorumref21_Hash.f 2 x2 x3 x11).bind fun t482 => (if t481 > t482 then (trustquorumref21_Choose.l0 k x1 x2 x3 x12 (wrap64 (x12 + 1)) x479000 x479001 x479002) else (if t481 = t482 then (if x12 > x11 then (trustquorumref21_Choose.l0 k x1 x2 x3 x12 (wrap64 (x12 + 1)) x479000 x479001 x479002) else (trustquorumref21_Choose.l0 k x1 x2 x3 x11 (wrap64 (x12 + 1)) x479000 x479001 x479002)) else (trustquorumref21_Choose.l0 k x1 x2 x3 x11 (wrap64 (x12 + 1)) x479000 x479001 x479002))))) else (trustquorumref21_Choose.l0 k x1 x2 x3 x11 (wrap64 (x12 + 1)) x479000 x479001 x479002))) else (some (x11, 0))
def trustquorumref21_Choose.f (k : Nat) (a0_0 : Int) (l0_1 : List Int) (l0_2 : List (S27)) (a1 : Int) (a2 : Int) (a3 : Int) : Option (Int × Int) := (trustquorumref21_begin.f k a0_0 l0_1 l0_2 a1 a2 a3).bind fun t479 => (if t479 = 0 then (trustquorumref21_Choose.l0 k a1 a2 a3 a1 0 a0_0 l0_1 l0_2) else (some (0, t479)))
set_option maxHeartbeats 8000000 in
set_option maxRecDepth 100000 in
theorem trustquorumref21_Choose.calls (k : Nat) (a0_0 : Int) (A0_1 : Option Addr) (c0_1 : Nat) (l0_1 : List Int) (A0_2 : Option Addr) (c0_2 : Nat) (l0_2 : List (S27)) (a1 : Int) (a2 : Int) (a3 : Int) (r1 : Int) (r2 : Int) (w : World) (hr0_1 : Kd.C (Kd.int .i64) w A0_1 l0_1.length l0_1) (hc0_1 : l0_1.length ≤ c0_1) (hr0_2 : Kd.C k27 w A0_2 l0_2.length l0_2) (hc0_2 : l0_2.length ≤ c0_2) (h : trustquorumref21_Choose.f k a0_0 l0_1 l0_2 a1 a2 a3 = some (r1, r2)) :
    Calls Try.prog 27 #[.agg #[.int .i64 a0_0, .slice A0_1 l0_1.length c0_1, .slice A0_2 l0_2.length c0_2], .int .i64 a1, .int .i64 a2, .int .i64 a3] w fun e w' => e = .returned (.tuple #[.int .i64 r1, .int .i64 r2]) ∧ Below w.heap.size w w' := by
 have hu27 := Try.underlying27; have HR0_1 := am hr0_1; have HC0_1 := am hc0_1; clear hr0_1 hc0_1; have HR0_2 := am hr0_2; have HC0_2 := am hc0_2; clear hr0_2 hc0_2; have HB := am (Below.refl w.heap.size w); have H : ((trustquorumref21_begin.f k a0_0 l0_1 l0_2 a1 a2 a3).bind fun t479 => (if t479 = 0 then (trustquorumref21_Choose.l0 k a1 a2 a3 a1 0 a0_0 l0_1 l0_2) else (some (0, t479)))) = some (r1, r2) := h; clear h; replace H := Option.bind_eq_some_iff.mp H; obtain ⟨t479, A50, H⟩ := H; replace H : (if t479 = 0 then (trustquorumref21_Choose.l0 k a1 a2 a3 a1 0 a0_0 l0_1 l0_2) else (some (0, t479))) = some (r1, r2) := H; have A5 := am A50; clear A50
 by_cases c6 : t479 = 0
 ·
  rw [if_pos c6] at H; have c6b0 : (t479 == 0) = true := beq_iff_eq.mpr c6; have c6b1 : (t479 != 0) = false := bne_eq_false_iff_eq.mpr c6; clear c6; have H' := am H; clear H
  go_enter Try.func27, Try.ntmps27
  go_wp2_with (first | (refine bx 4 #[.int .i64 a0_0, .slice A0_1 l0_1.length c0_1, .slice A0_2 l0_2.length c0_2] 27 HB.out ?_; intro gb478 hg w7 BK478 GE478 hb; replace HB := bs HB hb; clear hb hg; obtain ⟨hcz8_0, hcz8_1, hcz8_2, hfz8_0, hfz8_1, hfz8_2⟩ := blkC3 BK478.out) | (refine gA (some 19) Try.func45 #[.agg #[.int .i64 a0_0, .slice A0_1 l0_1.length c0_1, .slice A0_2 l0_2.length c0_2], .int .i64 a1, .int .i64 a2, .int .i64 a3] ?_; (with_reducible refine (trustquorumref21_begin.calls k a0_0 _ _ l0_1 _ _ l0_2 a1 a2 a3 t479 _ (Kd.C_below HR0_1.out HB.out) HC0_1.out (Kd.C_below HR0_2.out HB.out) HC0_2.out A5.out).mono ?_); rintro e w9 ⟨rfl, hb⟩; refine ⟨_, rfl, ?_⟩; replace BK478 := bb BK478 hb; replace HB := bs HB hb; (try clear hb); (try clear hi)))
  go_loopg [11, 12] k (fun kq v11 v12 w' => ∃ (x11_1 : Int) (x12_1 : Int), v11 = .int .i64 x11_1 ∧ v12 = .int .i64 x12_1 ∧ Aside0 (trustquorumref21_Choose.l0 kq a1 a2 a3 x11_1 x12_1 a0_0 l0_1 l0_2 = some (r1, r2)) ∧ Aside0 (kq ≤ k) ∧ Aside0 (w'.heap[gb478]? = some (.cells #[.int .i64 a0_0, (.slice A0_1 l0_1.length c0_1), (.slice A0_2 l0_2.length c0_2)] 27 (0, 0))) ∧ Aside0 (Below w.heap.size w w'))
  case atStart => exact ⟨(a1), (0), ar, ar, H', ⟨Nat.le_refl _⟩, ⟨by exact BK478.out⟩, ⟨by exact HB.out⟩⟩
  case round =>
   clear H'; (try clear c2); (try clear p2); (try clear c4); (try clear c6); (try clear c6b0); (try clear c6b1); (try clear p6); (try clear hcz8_0 hcz8_1 hcz8_2 hfz8_0 hfz8_1 hfz8_2); obtain ⟨x11_1, x12_1, rfl, rfl, HA, HK1, BK478, HB⟩ := hrel
   cases gk with
   | zero => exact absurd HA.out (by simp [trustquorumref21_Choose.l0])
   | succ k1 =>
    have H := HA.out; clear HA; simp only [trustquorumref21_Choose.l0] at H
    by_cases c10 : x12_1 < 10
    ·
     rw [if_pos c10] at H; have c10b0 : decide (x12_1 < 10) = true := decide_eq_true c10; clear c10; replace H := Option.bind_eq_some_iff.mp H; obtain ⟨t480, A110, H⟩ := H; replace H : (if t480 = true then ((trustquorumref21_Hash.f 2 a2 a3 x12_1).bind fun t481 => ((trustquorumref21_Hash.f 2 a2 a3 x11_1).bind fun t482 => (if t481 > t482 then (trustquorumref21_Choose.l0 k1 a1 a2 a3 x12_1 (wrap64 (x12_1 + 1)) a0_0 l0_1 l0_2) else (if t481 = t482 then (if x12_1 > x11_1 then (trustquorumref21_Choose.l0 k1 a1 a2 a3 x12_1 (wrap64 (x12_1 + 1)) a0_0 l0_1 l0_2) else (trustquorumref21_Choose.l0 k1 a1 a2 a3 x11_1 (wrap64 (x12_1 + 1)) a0_0 l0_1 l0_2)) else (trustquorumref21_Choose.l0 k1 a1 a2 a3 x11_1 (wrap64 (x12_1 + 1)) a0_0 l0_1 l0_2))))) else (trustquorumref21_Choose.l0 k1 a1 a2 a3 x11_1 (wrap64 (x12_1 + 1)) a0_0 l0_1 l0_2)) = some (r1, r2) := H; have A11 := am A110; clear A110
     by_cases c12 : t480 = true
     ·
      subst c12; have H1 : ((trustquorumref21_Hash.f 2 a2 a3 x12_1).bind fun t481 => ((trustquorumref21_Hash.f 2 a2 a3 x11_1).bind fun t482 => (if t481 > t482 then (trustquorumref21_Choose.l0 k1 a1 a2 a3 x12_1 (wrap64 (x12_1 + 1)) a0_0 l0_1 l0_2) else (if t481 = t482 then (if x12_1 > x11_1 then (trustquorumref21_Choose.l0 k1 a1 a2 a3 x12_1 (wrap64 (x12_1 + 1)) a0_0 l0_1 l0_2) else (trustquorumref21_Choose.l0 k1 a1 a2 a3 x11_1 (wrap64 (x12_1 + 1)) a0_0 l0_1 l0_2)) else (trustquorumref21_Choose.l0 k1 a1 a2 a3 x11_1 (wrap64 (x12_1 + 1)) a0_0 l0_1 l0_2))))) = some (r1, r2) := by rw [if_pos rfl] at H; exact H
      clear H; have H := H1; clear H1; replace H := Option.bind_eq_some_iff.mp H; obtain ⟨t481, A130, H⟩ := H; replace H : ((trustquorumref21_Hash.f 2 a2 a3 x11_1).bind fun t482 => (if t481 > t482 then (trustquorumref21_Choose.l0 k1 a1 a2 a3 x12_1 (wrap64 (x12_1 + 1)) a0_0 l0_1 l0_2) else (if t481 = t482 then (if x12_1 > x11_1 then (trustquorumref21_Choose.l0 k1 a1 a2 a3 x12_1 (wrap64 (x12_1 + 1)) a0_0 l0_1 l0_2) else (trustquorumref21_Choose.l0 k1 a1 a2 a3 x11_1 (wrap64 (x12_1 + 1)) a0_0 l0_1 l0_2)) else (trustquorumref21_Choose.l0 k1 a1 a2 a3 x11_1 (wrap64 (x12_1 + 1)) a0_0 l0_1 l0_2)))) = some (r1, r2) := H; have A13 := am A130; clear A130; replace H := Option.bind_eq_some_iff.mp H; obtain ⟨t482, A140, H⟩ := H; replace H : (if t481 > t482 then (trustquorumref21_Choose.l0 k1 a1 a2 a3 x12_1 (wrap64 (x12_1 + 1)) a0_0 l0_1 l0_2) else (if t481 = t482 then (if x12_1 > x11_1 then (trustquorumref21_Choose.l0 k1 a1 a2 a3 x12_1 (wrap64 (x12_1 + 1)) a0_0 l0_1 l0_2) else (trustquorumref21_Choose.l0 k1 a1 a2 a3 x11_1 (wrap64 (x12_1 + 1)) a0_0 l0_1 l0_2)) else (trustquorumref21_Choose.l0 k1 a1 a2 a3 x11_1 (wrap64 (x12_1 + 1)) a0_0 l0_1 l0_2))) = some (r1, r2) := H; have A14 := am A140; clear A140
      by_cases c15 : t481 > t482
      ·
       rw [if_pos c15] at H; have c15b0 : decide (t482 < t481) = true := decide_eq_true c15; clear c15; have H' := am H; clear H; obtain ⟨hcz16_0, hcz16_1, hcz16_2, hfz16_0, hfz16_1, hfz16_2⟩ := blkC3 BK478.out
       go_wp2_with (first | (refine gA (some 33) Try.func30 #[.agg #[.int .i64 a0_0, .slice A0_1 l0_1.length c0_1, .slice A0_2 l0_2.length c0_2], .int .i64 a1, .int .i64 a2, .int .i64 a3, .int .i64 x12_1] ?_; (with_reducible refine (trustquorumref21_Neighbour.calls k1 a0_0 _ _ l0_1 _ _ l0_2 a1 a2 a3 x12_1 true _ (Kd.C_below HR0_1.out HB.out) HC0_1.out (Kd.C_below HR0_2.out HB.out) HC0_2.out A11.out).mono ?_); rintro e w17 ⟨rfl, hb⟩; refine ⟨_, rfl, ?_⟩; replace BK478 := bb BK478 hb; replace HB := bs HB hb; (try clear hb); (try clear hi)) | (refine gA (some 38) Try.func23 #[.int .i64 2, .int .i64 a2, .int .i64 a3, .int .i64 x12_1] ?_; (with_reducible refine (trustquorumref21_Hash.calls 2 a2 a3 x12_1 t481 _ A13.out).mono ?_); rintro e w' ⟨rfl, ⟨nd, rfl⟩⟩; refine ⟨_, rfl, ?_⟩) | (refine gA (some 42) Try.func23 #[.int .i64 2, .int .i64 a2, .int .i64 a3, .int .i64 x11_1] ?_; (with_reducible refine (trustquorumref21_Hash.calls 2 a2 a3 x11_1 t482 _ A14.out).mono ?_); rintro e w' ⟨rfl, ⟨nd, rfl⟩⟩; refine ⟨_, rfl, ?_⟩))
       go_roundg k1
       case measure => have := HK1.out; omega
       case rel => exact ⟨(x12_1), (wrap64 (x12_1 + 1)), ar, ar, H', ⟨by have := HK1.out; omega⟩, ⟨by exact BK478.out⟩, ⟨cl0⟩⟩
      ·
       rw [if_neg c15] at H; have c15b0 : decide (t482 < t481) = false := decide_eq_false c15; clear c15
       by_cases c18 : t481 = t482
       ·
        rw [if_pos c18] at H; have c18b0 : (t481 == t482) = true := beq_iff_eq.mpr c18; have c18b1 : (t481 != t482) = false := bne_eq_false_iff_eq.mpr c18; clear c18
        by_cases c19 : x12_1 > x11_1
        ·
         rw [if_pos c19] at H; have c19b0 : decide (x11_1 < x12_1) = true := decide_eq_true c19; clear c19; have H' := am H; clear H; obtain ⟨hcz20_0, hcz20_1, hcz20_2, hfz20_0, hfz20_1, hfz20_2⟩ := blkC3 BK478.out
         go_wp2_with (first | (refine gA (some 33) Try.func30 #[.agg #[.int .i64 a0_0, .slice A0_1 l0_1.length c0_1, .slice A0_2 l0_2.length c0_2], .int .i64 a1, .int .i64 a2, .int .i64 a3, .int .i64 x12_1] ?_; (with_reducible refine (trustquorumref21_Neighbour.calls k1 a0_0 _ _ l0_1 _ _ l0_2 a1 a2 a3 x12_1 true _ (Kd.C_below HR0_1.out HB.out) HC0_1.out (Kd.C_below HR0_2.out HB.out) HC0_2.out A11.out).mono ?_); rintro e w21 ⟨rfl, hb⟩; refine ⟨_, rfl, ?_⟩; replace BK478 := bb BK478 hb; replace HB := bs HB hb; (try clear hb); (try clear hi)) | (refine gA (some 38) Try.func23 #[.int .i64 2, .int .i64 a2, .int .i64 a3, .int .i64 x12_1] ?_; (with_reducible refine (trustquorumref21_Hash.calls 2 a2 a3 x12_1 t481 _ A13.out).mono ?_); rintro e w' ⟨rfl, ⟨nd, rfl⟩⟩; refine ⟨_, rfl, ?_⟩) | (refine gA (some 42) Try.func23 #[.int .i64 2, .int .i64 a2, .int .i64 a3, .int .i64 x11_1] ?_; (with_reducible refine (trustquorumref21_Hash.calls 2 a2 a3 x11_1 t482 _ A14.out).mono ?_); rintro e w' ⟨rfl, ⟨nd, rfl⟩⟩; refine ⟨_, rfl, ?_⟩))
         go_roundg k1
         case measure => have := HK1.out; omega
         case rel => exact ⟨(x12_1), (wrap64 (x12_1 + 1)), ar, ar, H', ⟨by have := HK1.out; omega⟩, ⟨by exact BK478.out⟩, ⟨cl0⟩⟩
        ·
         rw [if_neg c19] at H; have c19b0 : decide (x11_1 < x12_1) = false := decide_eq_false c19; clear c19; have H' := am H; clear H; obtain ⟨hcz22_0, hcz22_1, hcz22_2, hfz22_0, hfz22_1, hfz22_2⟩ := blkC3 BK478.out
         go_wp2_with (first | (refine gA (some 33) Try.func30 #[.agg #[.int .i64 a0_0, .slice A0_1 l0_1.length c0_1, .slice A0_2 l0_2.length c0_2], .int .i64 a1, .int .i64 a2, .int .i64 a3, .int .i64 x12_1] ?_; (with_reducible refine (trustquorumref21_Neighbour.calls k1 a0_0 _ _ l0_1 _ _ l0_2 a1 a2 a3 x12_1 true _ (Kd.C_below HR0_1.out HB.out) HC0_1.out (Kd.C_below HR0_2.out HB.out) HC0_2.out A11.out).mono ?_); rintro e w23 ⟨rfl, hb⟩; refine ⟨_, rfl, ?_⟩; replace BK478 := bb BK478 hb; replace HB := bs HB hb; (try clear hb); (try clear hi)) | (refine gA (some 38) Try.func23 #[.int .i64 2, .int .i64 a2, .int .i64 a3, .int .i64 x12_1] ?_; (with_reducible refine (trustquorumref21_Hash.calls 2 a2 a3 x12_1 t481 _ A13.out).mono ?_); rintro e w' ⟨rfl, ⟨nd, rfl⟩⟩; refine ⟨_, rfl, ?_⟩) | (refine gA (some 42) Try.func23 #[.int .i64 2, .int .i64 a2, .int .i64 a3, .int .i64 x11_1] ?_; (with_reducible refine (trustquorumref21_Hash.calls 2 a2 a3 x11_1 t482 _ A14.out).mono ?_); rintro e w' ⟨rfl, ⟨nd, rfl⟩⟩; refine ⟨_, rfl, ?_⟩))
         go_roundg k1
         case measure => have := HK1.out; omega
         case rel => exact ⟨(x11_1), (wrap64 (x12_1 + 1)), ar, ar, H', ⟨by have := HK1.out; omega⟩, ⟨by exact BK478.out⟩, ⟨cl0⟩⟩
       ·
        rw [if_neg c18] at H; have c18b0 : (t481 == t482) = false := beq_eq_false_iff_ne.mpr c18; have c18b1 : (t481 != t482) = true := bne_iff_ne.mpr c18; have H' := am H; clear H; obtain ⟨hcz24_0, hcz24_1, hcz24_2, hfz24_0, hfz24_1, hfz24_2⟩ := blkC3 BK478.out
        go_wp2_with (first | (refine gA (some 33) Try.func30 #[.agg #[.int .i64 a0_0, .slice A0_1 l0_1.length c0_1, .slice A0_2 l0_2.length c0_2], .int .i64 a1, .int .i64 a2, .int .i64 a3, .int .i64 x12_1] ?_; (with_reducible refine (trustquorumref21_Neighbour.calls k1 a0_0 _ _ l0_1 _ _ l0_2 a1 a2 a3 x12_1 true _ (Kd.C_below HR0_1.out HB.out) HC0_1.out (Kd.C_below HR0_2.out HB.out) HC0_2.out A11.out).mono ?_); rintro e w25 ⟨rfl, hb⟩; refine ⟨_, rfl, ?_⟩; replace BK478 := bb BK478 hb; replace HB := bs HB hb; (try clear hb); (try clear hi)) | (refine gA (some 38) Try.func23 #[.int .i64 2, .int .i64 a2, .int .i64 a3, .int .i64 x12_1] ?_; (with_reducible refine (trustquorumref21_Hash.calls 2 a2 a3 x12_1 t481 _ A13.out).mono ?_); rintro e w' ⟨rfl, ⟨nd, rfl⟩⟩; refine ⟨_, rfl, ?_⟩) | (refine gA (some 42) Try.func23 #[.int .i64 2, .int .i64 a2, .int .i64 a3, .int .i64 x11_1] ?_; (with_reducible refine (trustquorumref21_Hash.calls 2 a2 a3 x11_1 t482 _ A14.out).mono ?_); rintro e w' ⟨rfl, ⟨nd, rfl⟩⟩; refine ⟨_, rfl, ?_⟩))
        go_roundg k1
        case measure => have := HK1.out; omega
        case rel => exact ⟨(x11_1), (wrap64 (x12_1 + 1)), ar, ar, H', ⟨by have := HK1.out; omega⟩, ⟨by exact BK478.out⟩, ⟨cl0⟩⟩
     ·
      replace c12 := Bool.eq_false_iff.mpr c12; subst c12; have H1 : (trustquorumref21_Choose.l0 k1 a1 a2 a3 x11_1 (wrap64 (x12_1 + 1)) a0_0 l0_1 l0_2) = some (r1, r2) := by rw [if_neg (show ¬ (false = true) by decide)] at H; exact H
      clear H; have H := H1; clear H1; have H' := am H; clear H; obtain ⟨hcz26_0, hcz26_1, hcz26_2, hfz26_0, hfz26_1, hfz26_2⟩ := blkC3 BK478.out
      go_wp2_with (first | (refine gA (some 33) Try.func30 #[.agg #[.int .i64 a0_0, .slice A0_1 l0_1.length c0_1, .slice A0_2 l0_2.length c0_2], .int .i64 a1, .int .i64 a2, .int .i64 a3, .int .i64 x12_1] ?_; (with_reducible refine (trustquorumref21_Neighbour.calls k1 a0_0 _ _ l0_1 _ _ l0_2 a1 a2 a3 x12_1 false _ (Kd.C_below HR0_1.out HB.out) HC0_1.out (Kd.C_below HR0_2.out HB.out) HC0_2.out A11.out).mono ?_); rintro e w27 ⟨rfl, hb⟩; refine ⟨_, rfl, ?_⟩; replace BK478 := bb BK478 hb; replace HB := bs HB hb; (try clear hb); (try clear hi)))
      go_roundg k1
      case measure => have := HK1.out; omega
      case rel => exact ⟨(x11_1), (wrap64 (x12_1 + 1)), ar, ar, H', ⟨by have := HK1.out; omega⟩, ⟨by exact BK478.out⟩, ⟨by exact HB.out⟩⟩
    ·
     rw [if_neg c10] at H; have c10b0 : decide (x12_1 < 10) = false := decide_eq_false c10; clear c10; simp only [Option.some.injEq, Prod.mk.injEq] at H; obtain ⟨rfl, rfl⟩ := H
     go_wp2
     go_ret2
     exact ⟨er, by exact HB.out⟩
 ·
  rw [if_neg c6] at H; have c6b0 : (t479 == 0) = false := beq_eq_false_iff_ne.mpr c6; have c6b1 : (t479 != 0) = true := bne_iff_ne.mpr c6; simp only [Option.some.injEq, Prod.mk.injEq] at H; obtain ⟨rfl, rfl⟩ := H
  go_enter Try.func27, Try.ntmps27
  go_wp2_with (first | (refine bx 4 #[.int .i64 a0_0, .slice A0_1 l0_1.length c0_1, .slice A0_2 l0_2.length c0_2] 27 HB.out ?_; intro gb478 hg w28 BK478 GE478 hb; replace HB := bs HB hb; clear hb hg; obtain ⟨hcz29_0, hcz29_1, hcz29_2, hfz29_0, hfz29_1, hfz29_2⟩ := blkC3 BK478.out) | (refine gA (some 19) Try.func45 #[.agg #[.int .i64 a0_0, .slice A0_1 l0_1.length c0_1, .slice A0_2 l0_2.length c0_2], .int .i64 a1, .int .i64 a2, .int .i64 a3] ?_; (with_reducible refine (trustquorumref21_begin.calls k a0_0 _ _ l0_1 _ _ l0_2 a1 a2 a3 t479 _ (Kd.C_below HR0_1.out HB.out) HC0_1.out (Kd.C_below HR0_2.out HB.out) HC0_2.out A5.out).mono ?_); rintro e w30 ⟨rfl, hb⟩; refine ⟨_, rfl, ?_⟩; replace BK478 := bb BK478 hb; replace HB := bs HB hb; (try clear hb); (try clear hi)))
  go_ret2
  exact ⟨er, by exact HB.out⟩
/-! ### trustquorummake_Mod: function 28 -/
def trustquorummake_Mod.f (a0 : Int) (a1 : Int) : Option (Int) := if a1 < 1 then (some 0) else (if a1 = 0 then (none) else (if (Int.tmod a0 a1) < 0 then (some (wrap64 ((Int.tmod a0 a1) + a1))) else (some (Int.tmod a0 a1))))
set_option maxHeartbeats 8000000 in
set_option maxRecDepth 100000 in
theorem trustquorummake_Mod.calls (a0 : Int) (a1 : Int) (r : Int) (w : World) (h : trustquorummake_Mod.f a0 a1 = some r) :
    Calls Try.prog 28 #[.int .i64 a0, .int .i64 a1] w fun e w' => e = .returned (.int .i64 r) ∧ Drawn0 w w' := by
 have H : (if a1 < 1 then (some 0) else (if a1 = 0 then (none) else (if (Int.tmod a0 a1) < 0 then (some (wrap64 ((Int.tmod a0 a1) + a1))) else (some (Int.tmod a0 a1))))) = some r := h; clear h
 by_cases c3 : a1 < 1
 ·
  rw [if_pos c3] at H; have c3b0 : decide (a1 < 1) = true := decide_eq_true c3; clear c3; obtain rfl := Option.some.inj H
  go_enter Try.func28, Try.ntmps28
  go_wp2
  go_ret
  exact ⟨by first | rfl | (simp; done) | (simp [*]; done) | (refine congrArg (Value.int .i64) ?_; unfold wrap64; omega), by repeat (first | exact Drawn0.refl _ | apply Drawn0.step)⟩
 ·
  rw [if_neg c3] at H; have c3b0 : decide (a1 < 1) = false := decide_eq_false c3; clear c3
  by_cases c4 : a1 = 0
  ·
   rw [if_pos c4] at H; exact absurd H (by simp)
  ·
   rw [if_neg c4] at H; have c4b0 : (a1 == 0) = false := beq_eq_false_iff_ne.mpr c4; have c4b1 : (a1 != 0) = true := bne_iff_ne.mpr c4
   by_cases c5 : (Int.tmod a0 a1) < 0
   ·
    rw [if_pos c5] at H; have c5b0 : decide ((Int.tmod a0 a1) < 0) = true := decide_eq_true c5; clear c5; obtain rfl := Option.some.inj H
    go_enter Try.func28, Try.ntmps28
    go_wp2
    go_ret
    exact ⟨by first | rfl | (simp; done) | (simp [*]; done) | (refine congrArg (Value.int .i64) ?_; unfold wrap64; omega), by repeat (first | exact Drawn0.refl _ | apply Drawn0.step)⟩
   ·
    rw [if_neg c5] at H; have c5b0 : decide ((Int.tmod a0 a1) < 0) = false := decide_eq_false c5; clear c5; obtain rfl := Option.some.inj H
    go_enter Try.func28, Try.ntmps28
    go_wp2
    go_ret
    exact ⟨by first | rfl | (simp; done) | (simp [*]; done) | (refine congrArg (Value.int .i64) ?_; unfold wrap64; omega), by repeat (first | exact Drawn0.refl _ | apply Drawn0.step)⟩
/-! ### trustquorumref21_Leaders: function 29 -/
def trustquorumref21_Leaders.l0 : Nat → Int → Int → Int → Int → Int → Int → List Int → List (S27) → Option (Int × Int)
  | 0, _, _, _, _, _, _, _, _ => none
  | k + 1, x1, x2, x3, x12, x13, x484000, x484001, x484002 => if x13 ≤ x3 then ((trustquorumref21_Choose.f k x484000 x484001 x484002 x1 x2 x13).bind fun bt486 => ((trustquorumref01_Has.f x12 bt486.1).bind fun t488 => (if t488 = true then (trustquorumref21_Leaders.l0 k x1 x2 x3 x12 (wrap64 (x13 + 1)) x484000 x484001 x484002) else (if 0 ≤ bt486.1 then (trustquorumref21_Leaders.l0 k x1 x2 x3 (Go.bits .or .i64 x12 (shl .i64 1 bt486.1)) (wrap64 (x13 + 1)) x484000 x484001 x484002) else (none))))) else (some (x12, 0))
def trustquorumref21_Leaders.f (k : Nat) (a0_0 : Int) (l0_1 : List Int) (l0_2 : List (S27)) (a1 : Int) (a2 : Int) (a3 : Int) : Option (Int × Int) := (trustquorumref21_Choose.f k a0_0 l0_1 l0_2 a1 a2 a3).bind fun bt484 => (if bt484.2 = 0 then (trustquorumref21_Leaders.l0 k a1 a2 a3 0 1 a0_0 l0_1 l0_2) else (some (0, bt484.2)))
set_option maxHeartbeats 8000000 in
set_option maxRecDepth 100000 in
theorem trustquorumref21_Leaders.calls (k : Nat) (a0_0 : Int) (A0_1 : Option Addr) (c0_1 : Nat) (l0_1 : List Int) (A0_2 : Option Addr) (c0_2 : Nat) (l0_2 : List (S27)) (a1 : Int) (a2 : Int) (a3 : Int) (r1 : Int) (r2 : Int) (w : World) (hr0_1 : Kd.C (Kd.int .i64) w A0_1 l0_1.length l0_1) (hc0_1 : l0_1.length ≤ c0_1) (hr0_2 : Kd.C k27 w A0_2 l0_2.length l0_2) (hc0_2 : l0_2.length ≤ c0_2) (h : trustquorumref21_Leaders.f k a0_0 l0_1 l0_2 a1 a2 a3 = some (r1, r2)) :
    Calls Try.prog 29 #[.agg #[.int .i64 a0_0, .slice A0_1 l0_1.length c0_1, .slice A0_2 l0_2.length c0_2], .int .i64 a1, .int .i64 a2, .int .i64 a3] w fun e w' => e = .returned (.tuple #[.int .i64 r1, .int .i64 r2]) ∧ Below w.heap.size w w' := by
 have hu27 := Try.underlying27; have HR0_1 := am hr0_1; have HC0_1 := am hc0_1; clear hr0_1 hc0_1; have HR0_2 := am hr0_2; have HC0_2 := am hc0_2; clear hr0_2 hc0_2; have HB := am (Below.refl w.heap.size w); have H : ((trustquorumref21_Choose.f k a0_0 l0_1 l0_2 a1 a2 a3).bind fun bt484 => (if bt484.2 = 0 then (trustquorumref21_Leaders.l0 k a1 a2 a3 0 1 a0_0 l0_1 l0_2) else (some (0, bt484.2)))) = some (r1, r2) := h; clear h; replace H := Option.bind_eq_some_iff.mp H; obtain ⟨⟨t484, t485⟩, A50, H⟩ := H; replace H : (if t485 = 0 then (trustquorumref21_Leaders.l0 k a1 a2 a3 0 1 a0_0 l0_1 l0_2) else (some (0, t485))) = some (r1, r2) := H; have A5 := am A50; clear A50
 by_cases c6 : t485 = 0
 ·
  rw [if_pos c6] at H; have c6b0 : (t485 == 0) = true := beq_iff_eq.mpr c6; have c6b1 : (t485 != 0) = false := bne_eq_false_iff_eq.mpr c6; clear c6; have H' := am H; clear H
  go_enter Try.func29, Try.ntmps29
  go_wp2_with (first | (refine bx 4 #[.int .i64 a0_0, .slice A0_1 l0_1.length c0_1, .slice A0_2 l0_2.length c0_2] 27 HB.out ?_; intro gb483 hg w7 BK483 GE483 hb; replace HB := bs HB hb; clear hb hg; obtain ⟨hcz8_0, hcz8_1, hcz8_2, hfz8_0, hfz8_1, hfz8_2⟩ := blkC3 BK483.out) | (refine gA (some 21) Try.func27 #[.agg #[.int .i64 a0_0, .slice A0_1 l0_1.length c0_1, .slice A0_2 l0_2.length c0_2], .int .i64 a1, .int .i64 a2, .int .i64 a3] ?_; (with_reducible refine (trustquorumref21_Choose.calls k a0_0 _ _ l0_1 _ _ l0_2 a1 a2 a3 t484 t485 _ (Kd.C_below HR0_1.out HB.out) HC0_1.out (Kd.C_below HR0_2.out HB.out) HC0_2.out A5.out).mono ?_); rintro e w9 ⟨rfl, hb⟩; refine ⟨_, rfl, ?_⟩; replace BK483 := bb BK483 hb; replace HB := bs HB hb; (try clear hb); (try clear hi)))
  go_loopg [12, 13] k (fun kq v12 v13 w' => ∃ (x12_1 : Int) (x13_1 : Int), v12 = .int .i64 x12_1 ∧ v13 = .int .i64 x13_1 ∧ Aside0 (trustquorumref21_Leaders.l0 kq a1 a2 a3 x12_1 x13_1 a0_0 l0_1 l0_2 = some (r1, r2)) ∧ Aside0 (kq ≤ k) ∧ Aside0 (w'.heap[gb483]? = some (.cells #[.int .i64 a0_0, (.slice A0_1 l0_1.length c0_1), (.slice A0_2 l0_2.length c0_2)] 27 (0, 0))) ∧ Aside0 (Below w.heap.size w w'))
  case atStart => exact ⟨(0), (1), ar, ar, H', ⟨Nat.le_refl _⟩, ⟨by exact BK483.out⟩, ⟨by exact HB.out⟩⟩
  case round =>
   clear H'; (try clear c2); (try clear p2); (try clear c6); (try clear c6b0); (try clear c6b1); (try clear p6); (try clear hcz8_0 hcz8_1 hcz8_2 hfz8_0 hfz8_1 hfz8_2); obtain ⟨x12_1, x13_1, rfl, rfl, HA, HK1, BK483, HB⟩ := hrel
   cases gk with
   | zero => exact absurd HA.out (by simp [trustquorumref21_Leaders.l0])
   | succ k1 =>
    have H := HA.out; clear HA; simp only [trustquorumref21_Leaders.l0] at H
    by_cases c10 : x13_1 ≤ a3
    ·
     rw [if_pos c10] at H; have c10b0 : decide (x13_1 ≤ a3) = true := decide_eq_true c10; clear c10; replace H := Option.bind_eq_some_iff.mp H; obtain ⟨⟨t486, t487⟩, A110, H⟩ := H; replace H : ((trustquorumref01_Has.f x12_1 t486).bind fun t488 => (if t488 = true then (trustquorumref21_Leaders.l0 k1 a1 a2 a3 x12_1 (wrap64 (x13_1 + 1)) a0_0 l0_1 l0_2) else (if 0 ≤ t486 then (trustquorumref21_Leaders.l0 k1 a1 a2 a3 (Go.bits .or .i64 x12_1 (shl .i64 1 t486)) (wrap64 (x13_1 + 1)) a0_0 l0_1 l0_2) else (none)))) = some (r1, r2) := H; have A11 := am A110; clear A110; replace H := Option.bind_eq_some_iff.mp H; obtain ⟨t488, A120, H⟩ := H; replace H : (if t488 = true then (trustquorumref21_Leaders.l0 k1 a1 a2 a3 x12_1 (wrap64 (x13_1 + 1)) a0_0 l0_1 l0_2) else (if 0 ≤ t486 then (trustquorumref21_Leaders.l0 k1 a1 a2 a3 (Go.bits .or .i64 x12_1 (shl .i64 1 t486)) (wrap64 (x13_1 + 1)) a0_0 l0_1 l0_2) else (none))) = some (r1, r2) := H; have A12 := am A120; clear A120
     by_cases c13 : t488 = true
     ·
      subst c13; have H1 : (trustquorumref21_Leaders.l0 k1 a1 a2 a3 x12_1 (wrap64 (x13_1 + 1)) a0_0 l0_1 l0_2) = some (r1, r2) := by rw [if_pos rfl] at H; exact H
      clear H; have H := H1; clear H1; have H' := am H; clear H; obtain ⟨hcz14_0, hcz14_1, hcz14_2, hfz14_0, hfz14_1, hfz14_2⟩ := blkC3 BK483.out
      go_wp2_with (first | (refine gA (some 37) Try.func27 #[.agg #[.int .i64 a0_0, .slice A0_1 l0_1.length c0_1, .slice A0_2 l0_2.length c0_2], .int .i64 a1, .int .i64 a2, .int .i64 x13_1] ?_; (with_reducible refine (trustquorumref21_Choose.calls k1 a0_0 _ _ l0_1 _ _ l0_2 a1 a2 x13_1 t486 t487 _ (Kd.C_below HR0_1.out HB.out) HC0_1.out (Kd.C_below HR0_2.out HB.out) HC0_2.out A11.out).mono ?_); rintro e w15 ⟨rfl, hb⟩; refine ⟨_, rfl, ?_⟩; replace BK483 := bb BK483 hb; replace HB := bs HB hb; (try clear hb); (try clear hi)) | (refine gA (some 42) Try.func12 #[.int .i64 x12_1, .int .i64 t486] ?_; (with_reducible refine (trustquorumref01_Has.calls x12_1 t486 true _ A12.out).mono ?_); rintro e w' ⟨rfl, ⟨nd, rfl⟩⟩; refine ⟨_, rfl, ?_⟩))
      go_roundg k1
      case measure => have := HK1.out; omega
      case rel => exact ⟨(x12_1), (wrap64 (x13_1 + 1)), ar, ar, H', ⟨by have := HK1.out; omega⟩, ⟨by exact BK483.out⟩, ⟨cl0⟩⟩
     ·
      replace c13 := Bool.eq_false_iff.mpr c13; subst c13; have H1 : (if 0 ≤ t486 then (trustquorumref21_Leaders.l0 k1 a1 a2 a3 (Go.bits .or .i64 x12_1 (shl .i64 1 t486)) (wrap64 (x13_1 + 1)) a0_0 l0_1 l0_2) else (none)) = some (r1, r2) := by rw [if_neg (show ¬ (false = true) by decide)] at H; exact H
      clear H; have H := H1; clear H1
      by_cases c16 : 0 ≤ t486
      ·
       rw [if_pos c16] at H; have c16b0 := eq_true c16; have c16b1 : decide (0 ≤ t486) = true := decide_eq_true c16; clear c16; obtain ⟨ji17, hji17⟩ : ∃ j_ : Int, (shl .i64 1 t486) = j_ := ⟨_, rfl⟩; replace H : (trustquorumref21_Leaders.l0 k1 a1 a2 a3 (Go.bits .or .i64 x12_1 (ji17)) (wrap64 (x13_1 + 1)) a0_0 l0_1 l0_2) = some (r1, r2) := by first | (rw [hji17] at H; exact H) | (simp only [hji17] at H ⊢; exact H)
       (try rw [hji17] at A11); (try rw [hji17] at A12); have hji17_ : (IntKind.i64.wrap (1 * 2 ^ min t486.toNat 64)) = ji17 := hji17; have hji17z : t486 ≤ 64 → (IntKind.i64.wrap (1 * 2 ^ t486.toNat)) = ji17 := shl_small hji17; have hji17u : (IntKind.i64.wrap (2 ^ min t486.toNat 64)) = ji17 := by have h_ := hji17_; rw [Int.one_mul] at h_; exact h_
       have hji17v : t486 ≤ 64 → (IntKind.i64.wrap (2 ^ t486.toNat)) = ji17 := fun hle_ => by have h_ := hji17z hle_; rw [Int.one_mul] at h_; exact h_
       have hji17y : (wrap64 (1 * 2 ^ min t486.toNat 64)) = ji17 := (i64_w _).symm.trans hji17_; have hji17x : t486 ≤ 64 → (wrap64 (1 * 2 ^ t486.toNat)) = ji17 := fun h_ => (i64_w _).symm.trans (hji17z h_); have H' := am H; clear H; obtain ⟨hcz18_0, hcz18_1, hcz18_2, hfz18_0, hfz18_1, hfz18_2⟩ := blkC3 BK483.out
       go_wp2_with (first | (refine gA (some 37) Try.func27 #[.agg #[.int .i64 a0_0, .slice A0_1 l0_1.length c0_1, .slice A0_2 l0_2.length c0_2], .int .i64 a1, .int .i64 a2, .int .i64 x13_1] ?_; (with_reducible refine (trustquorumref21_Choose.calls k1 a0_0 _ _ l0_1 _ _ l0_2 a1 a2 x13_1 t486 t487 _ (Kd.C_below HR0_1.out HB.out) HC0_1.out (Kd.C_below HR0_2.out HB.out) HC0_2.out A11.out).mono ?_); rintro e w19 ⟨rfl, hb⟩; refine ⟨_, rfl, ?_⟩; replace BK483 := bb BK483 hb; replace HB := bs HB hb; (try clear hb); (try clear hi)) | (refine gA (some 42) Try.func12 #[.int .i64 x12_1, .int .i64 t486] ?_; (with_reducible refine (trustquorumref01_Has.calls x12_1 t486 false _ A12.out).mono ?_); rintro e w' ⟨rfl, ⟨nd, rfl⟩⟩; refine ⟨_, rfl, ?_⟩))
       go_roundg k1
       case measure => have := HK1.out; omega
       case rel => exact ⟨(Go.bits .or .i64 x12_1 (ji17)), (wrap64 (x13_1 + 1)), (by first | rfl | (simp; done) | (simp only [← hji17] <;> (first | rfl | simp)) | (simp [*]; done)), ar, H', ⟨by have := HK1.out; omega⟩, ⟨by exact BK483.out⟩, ⟨cl0⟩⟩
      ·
       rw [if_neg c16] at H; exact absurd H (by simp)
    ·
     rw [if_neg c10] at H; have c10b0 : decide (x13_1 ≤ a3) = false := decide_eq_false c10; clear c10; simp only [Option.some.injEq, Prod.mk.injEq] at H; obtain ⟨rfl, rfl⟩ := H
     go_wp2
     go_ret2
     exact ⟨er, by exact HB.out⟩
 ·
  rw [if_neg c6] at H; have c6b0 : (t485 == 0) = false := beq_eq_false_iff_ne.mpr c6; have c6b1 : (t485 != 0) = true := bne_iff_ne.mpr c6; simp only [Option.some.injEq, Prod.mk.injEq] at H; obtain ⟨rfl, rfl⟩ := H
  go_enter Try.func29, Try.ntmps29
  go_wp2_with (first | (refine bx 4 #[.int .i64 a0_0, .slice A0_1 l0_1.length c0_1, .slice A0_2 l0_2.length c0_2] 27 HB.out ?_; intro gb483 hg w20 BK483 GE483 hb; replace HB := bs HB hb; clear hb hg; obtain ⟨hcz21_0, hcz21_1, hcz21_2, hfz21_0, hfz21_1, hfz21_2⟩ := blkC3 BK483.out) | (refine gA (some 21) Try.func27 #[.agg #[.int .i64 a0_0, .slice A0_1 l0_1.length c0_1, .slice A0_2 l0_2.length c0_2], .int .i64 a1, .int .i64 a2, .int .i64 a3] ?_; (with_reducible refine (trustquorumref21_Choose.calls k a0_0 _ _ l0_1 _ _ l0_2 a1 a2 a3 t484 t485 _ (Kd.C_below HR0_1.out HB.out) HC0_1.out (Kd.C_below HR0_2.out HB.out) HC0_2.out A5.out).mono ?_); rintro e w22 ⟨rfl, hb⟩; refine ⟨_, rfl, ?_⟩; replace BK483 := bb BK483 hb; replace HB := bs HB hb; (try clear hb); (try clear hi)))
  go_ret2
  exact ⟨er, by exact HB.out⟩
/-! ### leaders_Of: function 31 -/
def leaders_Of.f (k : Nat) (l0_0 : List (S71)) (a1 : Int) (a2 : Int) (a3 : Int) : Option (Int × Bool) := if a1 < 0 then (some (0, false)) else (if a1 ≥ (l0_0.length : Int) then (some (0, false)) else (if 0 ≤ a1 then (if a1 < (l0_0.length : Int) then (if ((rd_T71 l0_0 a1).f0 = true) then ((leaders_Choose.f k ((rd_T71 l0_0 a1).f1.f0) ((rd_T71 l0_0 a1).f1.f1) ((rd_T71 l0_0 a1).f1.f2) a1 a2 a3).bind fun bt492 => (some (bt492.1, (bt492.2 == 0)))) else (some (0, false))) else (none)) else (none)))
set_option maxHeartbeats 8000000 in
set_option maxRecDepth 100000 in
theorem leaders_Of.calls (k : Nat) (A0_0 : Option Addr) (c0_0 : Nat) (l0_0 : List (S71)) (a1 : Int) (a2 : Int) (a3 : Int) (r1 : Int) (r2 : Bool) (w : World) (hr0_0 : Kd.C k71 w A0_0 l0_0.length l0_0) (hc0_0 : l0_0.length ≤ c0_0) (h : leaders_Of.f k l0_0 a1 a2 a3 = some (r1, r2)) :
    Calls Try.prog 31 #[.agg #[.slice A0_0 l0_0.length c0_0], .int .i64 a1, .int .i64 a2, .int .i64 a3] w fun e w' => e = .returned (.tuple #[.int .i64 r1, .bool r2]) ∧ Below w.heap.size w w' := by
 have hu47 := Try.underlying47; have hu27 := Try.underlying27; have HR0_0 := am hr0_0; have HC0_0 := am hc0_0; clear hr0_0 hc0_0; have HB := am (Below.refl w.heap.size w); have H : (if a1 < 0 then (some (0, false)) else (if a1 ≥ (l0_0.length : Int) then (some (0, false)) else (if 0 ≤ a1 then (if a1 < (l0_0.length : Int) then (if ((rd_T71 l0_0 a1).f0 = true) then ((leaders_Choose.f k ((rd_T71 l0_0 a1).f1.f0) ((rd_T71 l0_0 a1).f1.f1) ((rd_T71 l0_0 a1).f1.f2) a1 a2 a3).bind fun bt492 => (some (bt492.1, (bt492.2 == 0)))) else (some (0, false))) else (none)) else (none)))) = some (r1, r2) := h; clear h
 by_cases c5 : a1 < 0
 ·
  rw [if_pos c5] at H; have c5b0 : decide (a1 < 0) = true := decide_eq_true c5; clear c5; simp only [Option.some.injEq, Prod.mk.injEq] at H; obtain ⟨rfl, rfl⟩ := H
  go_enter Try.func31, Try.ntmps31
  go_wp2_with (first | ((with_reducible refine gate_dst (N := 4) rfl ?_); (try (refine gate_guard (by rfl) ?_; dsimp only)); refine box_event ?hg (N := 4) ?hd (cs := #[.slice A0_0 l0_0.length c0_0]) (t := 47) ?hr ?_; (case hd => rfl); (case hg => rfl); (case hr => first | (go_simp; done) | (go_simp; rfl)); intro gb489 hg w6 hbox hb; have BK489 := am (hbox); have GW489 := am ((by rw [hg]; exact (below_size HB.out) : w.heap.size ≤ gb489)); have GE489 := am ((by rw [hg]; exact (below_size HB.out) : w.heap.size ≤ gb489)); replace HB := bs HB hb; clear hb hg))
  go_ret2
  exact ⟨er, by exact HB.out⟩
 ·
  rw [if_neg c5] at H; have c5b0 : decide (a1 < 0) = false := decide_eq_false c5; clear c5
  by_cases c7 : a1 ≥ (l0_0.length : Int)
  ·
   rw [if_pos c7] at H; have c7b0 : decide ((l0_0.length : Int) ≤ a1) = true := decide_eq_true c7; clear c7; simp only [Option.some.injEq, Prod.mk.injEq] at H; obtain ⟨rfl, rfl⟩ := H
   go_enter Try.func31, Try.ntmps31
   go_wp2_with (first | ((with_reducible refine gate_dst (N := 4) rfl ?_); (try (refine gate_guard (by rfl) ?_; dsimp only)); refine box_event ?hg (N := 4) ?hd (cs := #[.slice A0_0 l0_0.length c0_0]) (t := 47) ?hr ?_; (case hd => rfl); (case hg => rfl); (case hr => first | (go_simp; done) | (go_simp; rfl)); intro gb489 hg w8 hbox hb; have BK489 := am (hbox); have GW489 := am ((by rw [hg]; exact (below_size HB.out) : w.heap.size ≤ gb489)); have GE489 := am ((by rw [hg]; exact (below_size HB.out) : w.heap.size ≤ gb489)); replace HB := bs HB hb; clear hb hg; obtain ⟨hcz9_0, hfz9_0⟩ := blkC1 BK489.out))
   go_ret2
   exact ⟨er, by exact HB.out⟩
  ·
   rw [if_neg c7] at H; have c7b0 : decide ((l0_0.length : Int) ≤ a1) = false := decide_eq_false c7; clear c7
   by_cases c10 : 0 ≤ a1
   ·
    rw [if_pos c10] at H; have c10b0 : decide (0 ≤ a1) = true := decide_eq_true c10; clear c10
    by_cases c11 : a1 < (l0_0.length : Int)
    ·
     rw [if_pos c11] at H; have c11b0 : decide (a1 < (l0_0.length : Int)) = true := decide_eq_true c11; clear c11; obtain ⟨bq12, hbq12⟩ : ∃ b_ : Bool, b_ = ((rd_T71 l0_0 a1).f0) := ⟨_, rfl⟩; replace H : (if (bq12 = true) then ((leaders_Choose.f k ((rd_T71 l0_0 a1).f1.f0) ((rd_T71 l0_0 a1).f1.f1) ((rd_T71 l0_0 a1).f1.f2) a1 a2 a3).bind fun bt492 => (some (bt492.1, (bt492.2 == 0)))) else (some (0, false))) = some (r1, r2) := by rw [← hbq12] at H; exact H
     have Nbq12 := am hbq12; clear hbq12
     by_cases c13 : (bq12 = true)
     ·
      subst c13; have H1 : ((leaders_Choose.f k ((rd_T71 l0_0 a1).f1.f0) ((rd_T71 l0_0 a1).f1.f1) ((rd_T71 l0_0 a1).f1.f2) a1 a2 a3).bind fun bt492 => (some (bt492.1, (bt492.2 == 0)))) = some (r1, r2) := by rw [if_pos rfl] at H; exact H
      clear H; have H := H1; clear H1; replace H := Option.bind_eq_some_iff.mp H; obtain ⟨⟨t492, t493⟩, A140, H⟩ := H; replace H : (some (t492, (t493 == 0))) = some (r1, r2) := H; have A14 := am A140; clear A140; simp only [Option.some.injEq, Prod.mk.injEq] at H; obtain ⟨rfl, rfl⟩ := H
      go_enter Try.func31, Try.ntmps31
      go_wp2_with (first | ((with_reducible refine gate_dst (N := 4) rfl ?_); (try (refine gate_guard (by rfl) ?_; dsimp only)); refine box_event ?hg (N := 4) ?hd (cs := #[.slice A0_0 l0_0.length c0_0]) (t := 47) ?hr ?_; (case hd => rfl); (case hg => rfl); (case hr => first | (go_simp; done) | (go_simp; rfl)); intro gb489 hg w15 hbox hb; have BK489 := am (hbox); have GW489 := am ((by rw [hg]; exact (below_size HB.out) : w.heap.size ≤ gb489)); have GE489 := am ((by rw [hg]; exact (below_size HB.out) : w.heap.size ≤ gb489)); replace HB := bs HB hb; clear hb hg; obtain ⟨hcz16_0, hfz16_0⟩ := blkC1 BK489.out; have p490 : 0 ≤ (a1 : Int) := od; have q490 : a1 < (l0_0.length : Int) := od; obtain ⟨ad490, A490_2, c490_2, A490_3, c490_3, e490, hx490_0, hx490_1, hx490_2, hx490_3, hl490_2, hi490_2, hl490_3, hi490_3⟩ := at_T71 HR0_0.out a1 p490 q490; (try rw [← Nbq12.out] at hx490_0); cases e490; replace hx490_0 := (HB.out.cell (World.block_lt_of_cell? w _ hx490_0)).trans hx490_0; replace hx490_1 := (HB.out.cell (World.block_lt_of_cell? w _ hx490_1)).trans hx490_1; replace hx490_2 := (HB.out.cell (World.block_lt_of_cell? w _ hx490_2)).trans hx490_2; replace hx490_3 := (HB.out.cell (World.block_lt_of_cell? w _ hx490_3)).trans hx490_3; have HR490_2 := am hi490_2; have HC490_2 := am hl490_2; clear hi490_2 hl490_2; have HR490_3 := am hi490_3; have HC490_3 := am hl490_3; clear hi490_3 hl490_3; replace p490 := eq_true p490; replace q490 := eq_true q490; have p491 : 0 ≤ (a1 : Int) := od; have q491 : a1 < (l0_0.length : Int) := od; obtain ⟨ad491, A491_2, c491_2, A491_3, c491_3, e491, hx491_0, hx491_1, hx491_2, hx491_3, hl491_2, hi491_2, hl491_3, hi491_3⟩ := at_T71 HR0_0.out a1 p491 q491; (try rw [← Nbq12.out] at hx491_0); obtain rfl : ad490 = ad491 := (by injection e491); replace hx491_0 := (HB.out.cell (World.block_lt_of_cell? w _ hx491_0)).trans hx491_0; replace hx491_1 := (HB.out.cell (World.block_lt_of_cell? w _ hx491_1)).trans hx491_1; replace hx491_2 := (HB.out.cell (World.block_lt_of_cell? w _ hx491_2)).trans hx491_2; replace hx491_3 := (HB.out.cell (World.block_lt_of_cell? w _ hx491_3)).trans hx491_3; have HR491_2 := am hi491_2; have HC491_2 := am hl491_2; clear hi491_2 hl491_2; have HR491_3 := am hi491_3; have HC491_3 := am hl491_3; clear hi491_3 hl491_3; replace p491 := eq_true p491; replace q491 := eq_true q491; have ea_ := Option.some.inj (hx490_2.symm.trans hx491_2); injection ea_ with ea_ en_ ec_; subst ea_; subst ec_; clear en_; have ea_ := Option.some.inj (hx490_3.symm.trans hx491_3); injection ea_ with ea_ en_ ec_; subst ea_; subst ec_; clear en_) | (refine gA (some 40) Try.func17 #[.agg #[.int .i64 ((rd_T71 l0_0 a1).f1.f0), .slice A490_2 ((rd_T71 l0_0 a1).f1.f1).length c490_2, .slice A490_3 ((rd_T71 l0_0 a1).f1.f2).length c490_3], .int .i64 a1, .int .i64 a2, .int .i64 a3] ?_; (with_reducible refine (leaders_Choose.calls k ((rd_T71 l0_0 a1).f1.f0) _ _ ((rd_T71 l0_0 a1).f1.f1) _ _ ((rd_T71 l0_0 a1).f1.f2) a1 a2 a3 t492 t493 _ (Kd.C_below HR491_2.out HB.out) HC491_2.out (Kd.C_below HR491_3.out HB.out) HC491_3.out A14.out).mono ?_); rintro e w17 ⟨rfl, hb⟩; refine ⟨_, rfl, ?_⟩; replace BK489 := bb BK489 hb; replace HB := bs HB hb; (try clear hb); (try clear hi)))
      go_ret2
      exact ⟨er, by exact HB.out⟩
     ·
      replace c13 := Bool.eq_false_iff.mpr c13; subst c13; have H1 : (some (0, false)) = some (r1, r2) := by rw [if_neg (show ¬ (false = true) by decide)] at H; exact H
      clear H; have H := H1; clear H1; simp only [Option.some.injEq, Prod.mk.injEq] at H; obtain ⟨rfl, rfl⟩ := H
      go_enter Try.func31, Try.ntmps31
      go_wp2_with (first | ((with_reducible refine gate_dst (N := 4) rfl ?_); (try (refine gate_guard (by rfl) ?_; dsimp only)); refine box_event ?hg (N := 4) ?hd (cs := #[.slice A0_0 l0_0.length c0_0]) (t := 47) ?hr ?_; (case hd => rfl); (case hg => rfl); (case hr => first | (go_simp; done) | (go_simp; rfl)); intro gb489 hg w18 hbox hb; have BK489 := am (hbox); have GW489 := am ((by rw [hg]; exact (below_size HB.out) : w.heap.size ≤ gb489)); have GE489 := am ((by rw [hg]; exact (below_size HB.out) : w.heap.size ≤ gb489)); replace HB := bs HB hb; clear hb hg; obtain ⟨hcz19_0, hfz19_0⟩ := blkC1 BK489.out; have p490 : 0 ≤ (a1 : Int) := od; have q490 : a1 < (l0_0.length : Int) := od; obtain ⟨ad490, A490_2, c490_2, A490_3, c490_3, e490, hx490_0, hx490_1, hx490_2, hx490_3, hl490_2, hi490_2, hl490_3, hi490_3⟩ := at_T71 HR0_0.out a1 p490 q490; (try rw [← Nbq12.out] at hx490_0); cases e490; replace hx490_0 := (HB.out.cell (World.block_lt_of_cell? w _ hx490_0)).trans hx490_0; replace hx490_1 := (HB.out.cell (World.block_lt_of_cell? w _ hx490_1)).trans hx490_1; replace hx490_2 := (HB.out.cell (World.block_lt_of_cell? w _ hx490_2)).trans hx490_2; replace hx490_3 := (HB.out.cell (World.block_lt_of_cell? w _ hx490_3)).trans hx490_3; have HR490_2 := am hi490_2; have HC490_2 := am hl490_2; clear hi490_2 hl490_2; have HR490_3 := am hi490_3; have HC490_3 := am hl490_3; clear hi490_3 hl490_3; replace p490 := eq_true p490; replace q490 := eq_true q490))
      go_ret2
      exact ⟨er, by exact HB.out⟩
    ·
     rw [if_neg c11] at H; exact absurd H (by simp)
   ·
    rw [if_neg c10] at H; exact absurd H (by simp)
/-! ### trustquorumref21_Of: function 32 -/
def trustquorumref21_Of.f (k : Nat) (l0_0 : List (S71)) (a1 : Int) (a2 : Int) (a3 : Int) : Option (Int × Bool) := if a1 < 0 then (some (0, false)) else (if a1 ≥ (l0_0.length : Int) then (some (0, false)) else (if 0 ≤ a1 then (if a1 < (l0_0.length : Int) then (if ((rd_T71 l0_0 a1).f0 = true) then ((trustquorumref21_Choose.f k ((rd_T71 l0_0 a1).f1.f0) ((rd_T71 l0_0 a1).f1.f1) ((rd_T71 l0_0 a1).f1.f2) a1 a2 a3).bind fun bt497 => (some (bt497.1, (bt497.2 == 0)))) else (some (0, false))) else (none)) else (none)))
set_option maxHeartbeats 8000000 in
set_option maxRecDepth 100000 in
theorem trustquorumref21_Of.calls (k : Nat) (A0_0 : Option Addr) (c0_0 : Nat) (l0_0 : List (S71)) (a1 : Int) (a2 : Int) (a3 : Int) (r1 : Int) (r2 : Bool) (w : World) (hr0_0 : Kd.C k71 w A0_0 l0_0.length l0_0) (hc0_0 : l0_0.length ≤ c0_0) (h : trustquorumref21_Of.f k l0_0 a1 a2 a3 = some (r1, r2)) :
    Calls Try.prog 32 #[.agg #[.slice A0_0 l0_0.length c0_0], .int .i64 a1, .int .i64 a2, .int .i64 a3] w fun e w' => e = .returned (.tuple #[.int .i64 r1, .bool r2]) ∧ Below w.heap.size w w' := by
 have hu47 := Try.underlying47; have hu27 := Try.underlying27; have HR0_0 := am hr0_0; have HC0_0 := am hc0_0; clear hr0_0 hc0_0; have HB := am (Below.refl w.heap.size w); have H : (if a1 < 0 then (some (0, false)) else (if a1 ≥ (l0_0.length : Int) then (some (0, false)) else (if 0 ≤ a1 then (if a1 < (l0_0.length : Int) then (if ((rd_T71 l0_0 a1).f0 = true) then ((trustquorumref21_Choose.f k ((rd_T71 l0_0 a1).f1.f0) ((rd_T71 l0_0 a1).f1.f1) ((rd_T71 l0_0 a1).f1.f2) a1 a2 a3).bind fun bt497 => (some (bt497.1, (bt497.2 == 0)))) else (some (0, false))) else (none)) else (none)))) = some (r1, r2) := h; clear h
 by_cases c5 : a1 < 0
 ·
  rw [if_pos c5] at H; have c5b0 : decide (a1 < 0) = true := decide_eq_true c5; clear c5; simp only [Option.some.injEq, Prod.mk.injEq] at H; obtain ⟨rfl, rfl⟩ := H
  go_enter Try.func32, Try.ntmps32
  go_wp2_with (first | ((with_reducible refine gate_dst (N := 4) rfl ?_); (try (refine gate_guard (by rfl) ?_; dsimp only)); refine box_event ?hg (N := 4) ?hd (cs := #[.slice A0_0 l0_0.length c0_0]) (t := 47) ?hr ?_; (case hd => rfl); (case hg => rfl); (case hr => first | (go_simp; done) | (go_simp; rfl)); intro gb494 hg w6 hbox hb; have BK494 := am (hbox); have GW494 := am ((by rw [hg]; exact (below_size HB.out) : w.heap.size ≤ gb494)); have GE494 := am ((by rw [hg]; exact (below_size HB.out) : w.heap.size ≤ gb494)); replace HB := bs HB hb; clear hb hg))
  go_ret2
  exact ⟨er, by exact HB.out⟩
 ·
  rw [if_neg c5] at H; have c5b0 : decide (a1 < 0) = false := decide_eq_false c5; clear c5
  by_cases c7 : a1 ≥ (l0_0.length : Int)
  ·
   rw [if_pos c7] at H; have c7b0 : decide ((l0_0.length : Int) ≤ a1) = true := decide_eq_true c7; clear c7; simp only [Option.some.injEq, Prod.mk.injEq] at H; obtain ⟨rfl, rfl⟩ := H
   go_enter Try.func32, Try.ntmps32
   go_wp2_with (first | ((with_reducible refine gate_dst (N := 4) rfl ?_); (try (refine gate_guard (by rfl) ?_; dsimp only)); refine box_event ?hg (N := 4) ?hd (cs := #[.slice A0_0 l0_0.length c0_0]) (t := 47) ?hr ?_; (case hd => rfl); (case hg => rfl); (case hr => first | (go_simp; done) | (go_simp; rfl)); intro gb494 hg w8 hbox hb; have BK494 := am (hbox); have GW494 := am ((by rw [hg]; exact (below_size HB.out) : w.heap.size ≤ gb494)); have GE494 := am ((by rw [hg]; exact (below_size HB.out) : w.heap.size ≤ gb494)); replace HB := bs HB hb; clear hb hg; obtain ⟨hcz9_0, hfz9_0⟩ := blkC1 BK494.out))
   go_ret2
   exact ⟨er, by exact HB.out⟩
  ·
   rw [if_neg c7] at H; have c7b0 : decide ((l0_0.length : Int) ≤ a1) = false := decide_eq_false c7; clear c7
   by_cases c10 : 0 ≤ a1
   ·
    rw [if_pos c10] at H; have c10b0 : decide (0 ≤ a1) = true := decide_eq_true c10; clear c10
    by_cases c11 : a1 < (l0_0.length : Int)
    ·
     rw [if_pos c11] at H; have c11b0 : decide (a1 < (l0_0.length : Int)) = true := decide_eq_true c11; clear c11; obtain ⟨bq12, hbq12⟩ : ∃ b_ : Bool, b_ = ((rd_T71 l0_0 a1).f0) := ⟨_, rfl⟩; replace H : (if (bq12 = true) then ((trustquorumref21_Choose.f k ((rd_T71 l0_0 a1).f1.f0) ((rd_T71 l0_0 a1).f1.f1) ((rd_T71 l0_0 a1).f1.f2) a1 a2 a3).bind fun bt497 => (some (bt497.1, (bt497.2 == 0)))) else (some (0, false))) = some (r1, r2) := by rw [← hbq12] at H; exact H
     have Nbq12 := am hbq12; clear hbq12
     by_cases c13 : (bq12 = true)
     ·
      subst c13; have H1 : ((trustquorumref21_Choose.f k ((rd_T71 l0_0 a1).f1.f0) ((rd_T71 l0_0 a1).f1.f1) ((rd_T71 l0_0 a1).f1.f2) a1 a2 a3).bind fun bt497 => (some (bt497.1, (bt497.2 == 0)))) = some (r1, r2) := by rw [if_pos rfl] at H; exact H
      clear H; have H := H1; clear H1; replace H := Option.bind_eq_some_iff.mp H; obtain ⟨⟨t497, t498⟩, A140, H⟩ := H; replace H : (some (t497, (t498 == 0))) = some (r1, r2) := H; have A14 := am A140; clear A140; simp only [Option.some.injEq, Prod.mk.injEq] at H; obtain ⟨rfl, rfl⟩ := H
      go_enter Try.func32, Try.ntmps32
      go_wp2_with (first | ((with_reducible refine gate_dst (N := 4) rfl ?_); (try (refine gate_guard (by rfl) ?_; dsimp only)); refine box_event ?hg (N := 4) ?hd (cs := #[.slice A0_0 l0_0.length c0_0]) (t := 47) ?hr ?_; (case hd => rfl); (case hg => rfl); (case hr => first | (go_simp; done) | (go_simp; rfl)); intro gb494 hg w15 hbox hb; have BK494 := am (hbox); have GW494 := am ((by rw [hg]; exact (below_size HB.out) : w.heap.size ≤ gb494)); have GE494 := am ((by rw [hg]; exact (below_size HB.out) : w.heap.size ≤ gb494)); replace HB := bs HB hb; clear hb hg; obtain ⟨hcz16_0, hfz16_0⟩ := blkC1 BK494.out; have p495 : 0 ≤ (a1 : Int) := od; have q495 : a1 < (l0_0.length : Int) := od; obtain ⟨ad495, A495_2, c495_2, A495_3, c495_3, e495, hx495_0, hx495_1, hx495_2, hx495_3, hl495_2, hi495_2, hl495_3, hi495_3⟩ := at_T71 HR0_0.out a1 p495 q495; (try rw [← Nbq12.out] at hx495_0); cases e495; replace hx495_0 := (HB.out.cell (World.block_lt_of_cell? w _ hx495_0)).trans hx495_0; replace hx495_1 := (HB.out.cell (World.block_lt_of_cell? w _ hx495_1)).trans hx495_1; replace hx495_2 := (HB.out.cell (World.block_lt_of_cell? w _ hx495_2)).trans hx495_2; replace hx495_3 := (HB.out.cell (World.block_lt_of_cell? w _ hx495_3)).trans hx495_3; have HR495_2 := am hi495_2; have HC495_2 := am hl495_2; clear hi495_2 hl495_2; have HR495_3 := am hi495_3; have HC495_3 := am hl495_3; clear hi495_3 hl495_3; replace p495 := eq_true p495; replace q495 := eq_true q495; have p496 : 0 ≤ (a1 : Int) := od; have q496 : a1 < (l0_0.length : Int) := od; obtain ⟨ad496, A496_2, c496_2, A496_3, c496_3, e496, hx496_0, hx496_1, hx496_2, hx496_3, hl496_2, hi496_2, hl496_3, hi496_3⟩ := at_T71 HR0_0.out a1 p496 q496; (try rw [← Nbq12.out] at hx496_0); obtain rfl : ad495 = ad496 := (by injection e496); replace hx496_0 := (HB.out.cell (World.block_lt_of_cell? w _ hx496_0)).trans hx496_0; replace hx496_1 := (HB.out.cell (World.block_lt_of_cell? w _ hx496_1)).trans hx496_1; replace hx496_2 := (HB.out.cell (World.block_lt_of_cell? w _ hx496_2)).trans hx496_2; replace hx496_3 := (HB.out.cell (World.block_lt_of_cell? w _ hx496_3)).trans hx496_3; have HR496_2 := am hi496_2; have HC496_2 := am hl496_2; clear hi496_2 hl496_2; have HR496_3 := am hi496_3; have HC496_3 := am hl496_3; clear hi496_3 hl496_3; replace p496 := eq_true p496; replace q496 := eq_true q496; have ea_ := Option.some.inj (hx495_2.symm.trans hx496_2); injection ea_ with ea_ en_ ec_; subst ea_; subst ec_; clear en_; have ea_ := Option.some.inj (hx495_3.symm.trans hx496_3); injection ea_ with ea_ en_ ec_; subst ea_; subst ec_; clear en_) | (refine gA (some 40) Try.func27 #[.agg #[.int .i64 ((rd_T71 l0_0 a1).f1.f0), .slice A495_2 ((rd_T71 l0_0 a1).f1.f1).length c495_2, .slice A495_3 ((rd_T71 l0_0 a1).f1.f2).length c495_3], .int .i64 a1, .int .i64 a2, .int .i64 a3] ?_; (with_reducible refine (trustquorumref21_Choose.calls k ((rd_T71 l0_0 a1).f1.f0) _ _ ((rd_T71 l0_0 a1).f1.f1) _ _ ((rd_T71 l0_0 a1).f1.f2) a1 a2 a3 t497 t498 _ (Kd.C_below HR496_2.out HB.out) HC496_2.out (Kd.C_below HR496_3.out HB.out) HC496_3.out A14.out).mono ?_); rintro e w17 ⟨rfl, hb⟩; refine ⟨_, rfl, ?_⟩; replace BK494 := bb BK494 hb; replace HB := bs HB hb; (try clear hb); (try clear hi)))
      go_ret2
      exact ⟨er, by exact HB.out⟩
     ·
      replace c13 := Bool.eq_false_iff.mpr c13; subst c13; have H1 : (some (0, false)) = some (r1, r2) := by rw [if_neg (show ¬ (false = true) by decide)] at H; exact H
      clear H; have H := H1; clear H1; simp only [Option.some.injEq, Prod.mk.injEq] at H; obtain ⟨rfl, rfl⟩ := H
      go_enter Try.func32, Try.ntmps32
      go_wp2_with (first | ((with_reducible refine gate_dst (N := 4) rfl ?_); (try (refine gate_guard (by rfl) ?_; dsimp only)); refine box_event ?hg (N := 4) ?hd (cs := #[.slice A0_0 l0_0.length c0_0]) (t := 47) ?hr ?_; (case hd => rfl); (case hg => rfl); (case hr => first | (go_simp; done) | (go_simp; rfl)); intro gb494 hg w18 hbox hb; have BK494 := am (hbox); have GW494 := am ((by rw [hg]; exact (below_size HB.out) : w.heap.size ≤ gb494)); have GE494 := am ((by rw [hg]; exact (below_size HB.out) : w.heap.size ≤ gb494)); replace HB := bs HB hb; clear hb hg; obtain ⟨hcz19_0, hfz19_0⟩ := blkC1 BK494.out; have p495 : 0 ≤ (a1 : Int) := od; have q495 : a1 < (l0_0.length : Int) := od; obtain ⟨ad495, A495_2, c495_2, A495_3, c495_3, e495, hx495_0, hx495_1, hx495_2, hx495_3, hl495_2, hi495_2, hl495_3, hi495_3⟩ := at_T71 HR0_0.out a1 p495 q495; (try rw [← Nbq12.out] at hx495_0); cases e495; replace hx495_0 := (HB.out.cell (World.block_lt_of_cell? w _ hx495_0)).trans hx495_0; replace hx495_1 := (HB.out.cell (World.block_lt_of_cell? w _ hx495_1)).trans hx495_1; replace hx495_2 := (HB.out.cell (World.block_lt_of_cell? w _ hx495_2)).trans hx495_2; replace hx495_3 := (HB.out.cell (World.block_lt_of_cell? w _ hx495_3)).trans hx495_3; have HR495_2 := am hi495_2; have HC495_2 := am hl495_2; clear hi495_2 hl495_2; have HR495_3 := am hi495_3; have HC495_3 := am hl495_3; clear hi495_3 hl495_3; replace p495 := eq_true p495; replace q495 := eq_true q495))
      go_ret2
      exact ⟨er, by exact HB.out⟩
    ·
     rw [if_neg c11] at H; exact absurd H (by simp)
   ·
    rw [if_neg c10] at H; exact absurd H (by simp)
end Go.Proofs.Ytphndccgadblnaa.QLeadersAnswers
