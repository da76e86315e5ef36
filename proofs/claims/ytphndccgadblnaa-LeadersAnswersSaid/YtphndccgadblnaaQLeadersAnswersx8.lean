/- Lean functions that answer as the Go functions do which the law reaches, and proofs that the Go code comes to exactly these answers. Conditions: those that each theorem names. -/
import Derived.Test.YtphndccgadblnaaQLeadersAnswersx0
namespace Go.Proofs.Ytphndccgadblnaa.QLeadersAnswers
open Go.RowKit Go.Proofs.YtphndccgadblnaaW.PrintWords Go.Proofs.YtphndccgadblnaaW.PrintLast Go.Proofs.YtphndccgadblnaaW.PrintMore
attribute [local go_sem] max2_int min2_int max_two min_two max_three min_three max_four min_four   -- for this text's walks alone
set_option linter.unusedVariables false
set_option linter.unusedSimpArgs false

/-! ### trustquorummake_entries: function 41 -/
mutual
def trustquorummake_entries.l0 : Nat → Int → Int → Int → List Int → List (S27) → Option (Int)
  | 0, _, _, _, _, _ => none
  | k + 1, x1, x5, x285000, x285001, x285002 => if x5 < (x285002.length : Int) then (if x1 ≤ 400 then (if 0 ≤ x5 then ((trustquorummake_entries.f k ((rd_T27 x285002 x5).f0) ((rd_T27 x285002 x5).f1) ((rd_T27 x285002 x5).f2) x1).bind fun t286 => (trustquorummake_entries.l0 k t286 (wrap64 (x5 + 1)) x285000 x285001 x285002)) else (none)) else (some x1)) else (some x1)
def trustquorummake_entries.f : Nat → Int → List Int → List (S27) → Int → Option (Int)
  | 0, _, _, _, _ => none
  | k + 1, a0_0, l0_1, l0_2, a1 => trustquorummake_entries.l0 k (wrap64 (a1 + (wrap64 (1 + (l0_1.length : Int))))) 0 a0_0 l0_1 l0_2
end
set_option maxHeartbeats 8000000 in
set_option maxRecDepth 100000 in
theorem trustquorummake_entries.calls (k : Nat) : ∀ (a0_0 : Int) (A0_1 : Option Addr) (c0_1 : Nat) (l0_1 : List Int) (A0_2 : Option Addr) (c0_2 : Nat) (l0_2 : List (S27)) (a1 : Int) (r : Int) (w : World) (hr0_1 : Kd.C (Kd.int .i64) w A0_1 l0_1.length l0_1) (hc0_1 : l0_1.length ≤ c0_1) (hr0_2 : Kd.C k27 w A0_2 l0_2.length l0_2) (hc0_2 : l0_2.length ≤ c0_2) (h : trustquorummake_entries.f k a0_0 l0_1 l0_2 a1 = some r),
    Calls Try.prog 41 #[.agg #[.int .i64 a0_0, .slice A0_1 l0_1.length c0_1, .slice A0_2 l0_2.length c0_2], .int .i64 a1] w fun e w' => e = .returned (.int .i64 r) ∧ Below w.heap.size w w' := by
 induction k using Nat.strongRecOn with
 | _ k ih =>
 intro a0_0 A0_1 c0_1 l0_1 A0_2 c0_2 l0_2 a1 r w hr0_1 hc0_1 hr0_2 hc0_2 h
 cases k with
 | zero => exact absurd h (by simp [trustquorummake_entries.f])
 | succ k =>
 simp only [trustquorummake_entries.f] at h; have hu27 := Try.underlying27; have HR0_1 := am hr0_1; have HC0_1 := am hc0_1; clear hr0_1 hc0_1; have HR0_2 := am hr0_2; have HC0_2 := am hc0_2; clear hr0_2 hc0_2; have HB := am (Below.refl w.heap.size w); have H : (trustquorummake_entries.l0 k (wrap64 (a1 + (wrap64 (1 + (l0_1.length : Int))))) 0 a0_0 l0_1 l0_2) = some r := h; clear h; have H' := am H; clear H
 go_enter Try.func41, Try.ntmps41
 go_wp2_with (first | (refine bx 2 #[.int .i64 a0_0, .slice A0_1 l0_1.length c0_1, .slice A0_2 l0_2.length c0_2] 27 HB.out ?_; intro gb284 hg w3 BK284 GE284 hb; replace HB := bs HB hb; clear hb hg; obtain ⟨hcz4_0, hcz4_1, hcz4_2, hfz4_0, hfz4_1, hfz4_2⟩ := blkC3 BK284.out))
 go_loopg [1, 5] k (fun kq v1 v5 w' => ∃ (x1_1 : Int) (x5_1 : Int), v1 = .int .i64 x1_1 ∧ v5 = .int .i64 x5_1 ∧ Aside0 (trustquorummake_entries.l0 kq x1_1 x5_1 a0_0 l0_1 l0_2 = some r) ∧ Aside0 (kq ≤ k) ∧ Aside0 (w'.heap[gb284]? = some (.cells #[.int .i64 a0_0, (.slice A0_1 l0_1.length c0_1), (.slice A0_2 l0_2.length c0_2)] 27 (0, 0))) ∧ Aside0 (Below w.heap.size w w'))
 case atStart => exact ⟨(wrap64 (a1 + (wrap64 (1 + (l0_1.length : Int))))), (0), ar, ar, H', ⟨Nat.le_refl _⟩, ⟨by exact BK284.out⟩, ⟨by exact HB.out⟩⟩
 case round =>
  clear H'; (try clear p2); (try clear c4); (try clear hcz4_0 hcz4_1 hcz4_2 hfz4_0 hfz4_1 hfz4_2); obtain ⟨x1_1, x5_1, rfl, rfl, HA, HK1, BK284, HB⟩ := hrel
  cases gk with
  | zero => exact absurd HA.out (by simp [trustquorummake_entries.l0])
  | succ k1 =>
   have H := HA.out; clear HA; simp only [trustquorummake_entries.l0] at H
   by_cases c5 : x5_1 < (l0_2.length : Int)
   ·
    rw [if_pos c5] at H; have c5b0 : decide (x5_1 < (l0_2.length : Int)) = true := decide_eq_true c5; clear c5
    by_cases c6 : x1_1 ≤ 400
    ·
     rw [if_pos c6] at H; have c6b0 : decide (x1_1 ≤ 400) = true := decide_eq_true c6; clear c6
     by_cases c7 : 0 ≤ x5_1
     ·
      rw [if_pos c7] at H; have c7b0 : decide (0 ≤ x5_1) = true := decide_eq_true c7; clear c7; replace H := Option.bind_eq_some_iff.mp H; obtain ⟨t286, A80, H⟩ := H; replace H : (trustquorummake_entries.l0 k1 t286 (wrap64 (x5_1 + 1)) a0_0 l0_1 l0_2) = some r := H; have A8 := am A80; clear A80; have H' := am H; clear H; obtain ⟨hcz9_0, hcz9_1, hcz9_2, hfz9_0, hfz9_1, hfz9_2⟩ := blkC3 BK284.out; have p285 : 0 ≤ (x5_1 : Int) := od; have q285 : x5_1 < (l0_2.length : Int) := od; obtain ⟨ad285, A285_1, c285_1, A285_2, c285_2, e285, hx285_0, hx285_1, hx285_2, hl285_1, hi285_1, hl285_2, hi285_2⟩ := at_T27 HR0_2.out x5_1 p285 q285
      cases e285
      replace hx285_0 := (HB.out.cell (World.block_lt_of_cell? w _ hx285_0)).trans hx285_0; replace hx285_1 := (HB.out.cell (World.block_lt_of_cell? w _ hx285_1)).trans hx285_1; replace hx285_2 := (HB.out.cell (World.block_lt_of_cell? w _ hx285_2)).trans hx285_2; have HR285_1 := am hi285_1; have HC285_1 := am hl285_1; clear hi285_1 hl285_1; have HR285_2 := am hi285_2; have HC285_2 := am hl285_2; clear hi285_2 hl285_2; replace p285 := eq_true p285; replace q285 := eq_true q285
      go_wp2_with (first | (refine gA (some 29) Try.func41 #[.agg #[.int .i64 ((rd_T27 l0_2 x5_1).f0), .slice A285_1 ((rd_T27 l0_2 x5_1).f1).length c285_1, .slice A285_2 ((rd_T27 l0_2 x5_1).f2).length c285_2], .int .i64 x1_1] ?_; (with_reducible refine (ih k1 (by have := HK1.out; omega) ((rd_T27 l0_2 x5_1).f0) _ _ ((rd_T27 l0_2 x5_1).f1) _ _ ((rd_T27 l0_2 x5_1).f2) x1_1 t286 _ (Kd.C_below HR285_1.out HB.out) HC285_1.out (Kd.C_below HR285_2.out HB.out) HC285_2.out A8.out).mono ?_); rintro e w10 ⟨rfl, hb⟩; refine ⟨_, rfl, ?_⟩; replace BK284 := bb BK284 hb; replace HB := bs HB hb; (try clear hb); (try clear hi)))
      go_roundg k1
      case measure => have := HK1.out; omega
      case rel => exact ⟨(t286), (wrap64 (x5_1 + 1)), ar, ar, H', ⟨by have := HK1.out; omega⟩, ⟨by exact BK284.out⟩, ⟨by exact HB.out⟩⟩
     ·
      rw [if_neg c7] at H; exact absurd H (by simp)
    ·
     rw [if_neg c6] at H; have c6b0 : decide (x1_1 ≤ 400) = false := decide_eq_false c6; clear c6; obtain rfl := Option.some.inj H; obtain ⟨hcz11_0, hcz11_1, hcz11_2, hfz11_0, hfz11_1, hfz11_2⟩ := blkC3 BK284.out
     go_wp2
     go_ret
     exact ⟨er, by exact HB.out⟩
   ·
    rw [if_neg c5] at H; have c5b0 : decide (x5_1 < (l0_2.length : Int)) = false := decide_eq_false c5; clear c5; obtain rfl := Option.some.inj H; obtain ⟨hcz12_0, hcz12_1, hcz12_2, hfz12_0, hfz12_1, hfz12_2⟩ := blkC3 BK284.out
    go_wp2
    go_ret
    exact ⟨er, by exact HB.out⟩
/-! ### trustquorummake_SmallTrust: function 20 -/
def trustquorummake_SmallTrust.f (k : Nat) (a0_0 : Int) (l0_1 : List Int) (l0_2 : List (S27)) : Option (Bool) := (trustquorummake_entries.f k a0_0 l0_1 l0_2 0).bind fun t288 => (some (decide (t288 ≤ 400)))
set_option maxHeartbeats 8000000 in
set_option maxRecDepth 100000 in
theorem trustquorummake_SmallTrust.calls (k : Nat) (a0_0 : Int) (A0_1 : Option Addr) (c0_1 : Nat) (l0_1 : List Int) (A0_2 : Option Addr) (c0_2 : Nat) (l0_2 : List (S27)) (r : Bool) (w : World) (hr0_1 : Kd.C (Kd.int .i64) w A0_1 l0_1.length l0_1) (hc0_1 : l0_1.length ≤ c0_1) (hr0_2 : Kd.C k27 w A0_2 l0_2.length l0_2) (hc0_2 : l0_2.length ≤ c0_2) (h : trustquorummake_SmallTrust.f k a0_0 l0_1 l0_2 = some r) :
    Calls Try.prog 20 #[.agg #[.int .i64 a0_0, .slice A0_1 l0_1.length c0_1, .slice A0_2 l0_2.length c0_2]] w fun e w' => e = .returned (.bool r) ∧ Below w.heap.size w w' := by
 have hu27 := Try.underlying27; have HR0_1 := am hr0_1; have HC0_1 := am hc0_1; clear hr0_1 hc0_1; have HR0_2 := am hr0_2; have HC0_2 := am hc0_2; clear hr0_2 hc0_2; have HB := am (Below.refl w.heap.size w); have H : ((trustquorummake_entries.f k a0_0 l0_1 l0_2 0).bind fun t288 => (some (decide (t288 ≤ 400)))) = some r := h; clear h; replace H := Option.bind_eq_some_iff.mp H; obtain ⟨t288, A20, H⟩ := H; replace H : (some (decide (t288 ≤ 400))) = some r := H; have A2 := am A20; clear A20; obtain rfl := Option.some.inj H
 go_enter Try.func20, Try.ntmps20
 go_wp2_with (first | (refine bx 1 #[.int .i64 a0_0, .slice A0_1 l0_1.length c0_1, .slice A0_2 l0_2.length c0_2] 27 HB.out ?_; intro gb287 hg w3 BK287 GE287 hb; replace HB := bs HB hb; clear hb hg; obtain ⟨hcz4_0, hcz4_1, hcz4_2, hfz4_0, hfz4_1, hfz4_2⟩ := blkC3 BK287.out) | (refine gA (some 4) Try.func41 #[.agg #[.int .i64 a0_0, .slice A0_1 l0_1.length c0_1, .slice A0_2 l0_2.length c0_2], .int .i64 0] ?_; (with_reducible refine (trustquorummake_entries.calls k a0_0 _ _ l0_1 _ _ l0_2 0 t288 _ (Kd.C_below HR0_1.out HB.out) HC0_1.out (Kd.C_below HR0_2.out HB.out) HC0_2.out A2.out).mono ?_); rintro e w5 ⟨rfl, hb⟩; refine ⟨_, rfl, ?_⟩; replace BK287 := bb BK287 hb; replace HB := bs HB hb; (try clear hb); (try clear hi)))
 go_ret
 exact ⟨er, by exact HB.out⟩
/-! ### trustquorummake_SmallConfig: function 21 -/
def trustquorummake_SmallConfig.l0 : Nat → Int → Int → List (S71) → Option (Bool)
  | 0, _, _, _ => none
  | k + 1, x3, x4, x290000 => if x4 < (x290000.length : Int) then (if x3 ≤ 400 then (if 0 ≤ x4 then ((trustquorummake_entries.f k ((rd_T71 x290000 x4).f1.f0) ((rd_T71 x290000 x4).f1.f1) ((rd_T71 x290000 x4).f1.f2) x3).bind fun t291 => (trustquorummake_SmallConfig.l0 k t291 (wrap64 (x4 + 1)) x290000)) else (none)) else (some (decide (x3 ≤ 400)))) else (some (decide (x3 ≤ 400)))
def trustquorummake_SmallConfig.f (k : Nat) (l0_0 : List (S71)) : Option (Bool) := if (l0_0.length : Int) > 30 then (some false) else (trustquorummake_SmallConfig.l0 k 0 0 l0_0)
set_option maxHeartbeats 8000000 in
set_option maxRecDepth 100000 in
theorem trustquorummake_SmallConfig.calls (k : Nat) (A0_0 : Option Addr) (c0_0 : Nat) (l0_0 : List (S71)) (r : Bool) (w : World) (hr0_0 : Kd.C k71 w A0_0 l0_0.length l0_0) (hc0_0 : l0_0.length ≤ c0_0) (h : trustquorummake_SmallConfig.f k l0_0 = some r) :
    Calls Try.prog 21 #[.agg #[.slice A0_0 l0_0.length c0_0]] w fun e w' => e = .returned (.bool r) ∧ Below w.heap.size w w' := by
 have hu47 := Try.underlying47; have hu27 := Try.underlying27; have HR0_0 := am hr0_0; have HC0_0 := am hc0_0; clear hr0_0 hc0_0; have HB := am (Below.refl w.heap.size w); have H : (if (l0_0.length : Int) > 30 then (some false) else (trustquorummake_SmallConfig.l0 k 0 0 l0_0)) = some r := h; clear h
 by_cases c2 : (l0_0.length : Int) > 30
 ·
  rw [if_pos c2] at H; have c2b0 : decide (30 < (l0_0.length : Int)) = true := decide_eq_true c2; have c2b1 : decide (30 < l0_0.length) = true := decide_eq_true (by omega); clear c2; obtain rfl := Option.some.inj H
  go_enter Try.func21, Try.ntmps21
  go_wp2_with (first | (refine bx 1 #[.slice A0_0 l0_0.length c0_0] 47 HB.out ?_; intro gb289 hg w3 BK289 GE289 hb; replace HB := bs HB hb; clear hb hg; obtain ⟨hcz4_0, hfz4_0⟩ := blkC1 BK289.out))
  go_ret
  exact ⟨er, by exact HB.out⟩
 ·
  rw [if_neg c2] at H; have c2b0 : decide (30 < (l0_0.length : Int)) = false := decide_eq_false c2; have c2b1 : decide (30 < l0_0.length) = false := decide_eq_false (by omega); clear c2; have H' := am H; clear H
  go_enter Try.func21, Try.ntmps21
  go_wp2_with (first | (refine bx 1 #[.slice A0_0 l0_0.length c0_0] 47 HB.out ?_; intro gb289 hg w5 BK289 GE289 hb; replace HB := bs HB hb; clear hb hg; obtain ⟨hcz6_0, hfz6_0⟩ := blkC1 BK289.out))
  go_loopg [3, 4] k (fun kq v3 v4 w' => ∃ (x3_1 : Int) (x4_1 : Int), v3 = .int .i64 x3_1 ∧ v4 = .int .i64 x4_1 ∧ Aside0 (trustquorummake_SmallConfig.l0 kq x3_1 x4_1 l0_0 = some r) ∧ Aside0 (kq ≤ k) ∧ Aside0 (w'.heap[gb289]? = some (.cells #[(.slice A0_0 l0_0.length c0_0)] 47 (0, 0))) ∧ Aside0 (Below w.heap.size w w'))
  case atStart => exact ⟨(0), (0), ar, ar, H', ⟨Nat.le_refl _⟩, ⟨by exact BK289.out⟩, ⟨by exact HB.out⟩⟩
  case round =>
   clear H'; (try clear c2); (try clear c2b0); (try clear c2b1); (try clear p2); (try clear p6); (try clear hcz4_0); (try clear hcz6_0); (try clear hfz4_0); (try clear hfz6_0); obtain ⟨x3_1, x4_1, rfl, rfl, HA, HK1, BK289, HB⟩ := hrel
   cases gk with
   | zero => exact absurd HA.out (by simp [trustquorummake_SmallConfig.l0])
   | succ k1 =>
    have H := HA.out; clear HA; simp only [trustquorummake_SmallConfig.l0] at H
    by_cases c7 : x4_1 < (l0_0.length : Int)
    ·
     rw [if_pos c7] at H; have c7b0 : decide (x4_1 < (l0_0.length : Int)) = true := decide_eq_true c7; clear c7
     by_cases c8 : x3_1 ≤ 400
     ·
      rw [if_pos c8] at H; have c8b0 : decide (x3_1 ≤ 400) = true := decide_eq_true c8; clear c8
      by_cases c9 : 0 ≤ x4_1
      ·
       rw [if_pos c9] at H; have c9b0 : decide (0 ≤ x4_1) = true := decide_eq_true c9; clear c9; replace H := Option.bind_eq_some_iff.mp H; obtain ⟨t291, A100, H⟩ := H; replace H : (trustquorummake_SmallConfig.l0 k1 t291 (wrap64 (x4_1 + 1)) l0_0) = some r := H; have A10 := am A100; clear A100; have H' := am H; clear H; obtain ⟨hcz11_0, hfz11_0⟩ := blkC1 BK289.out; have p290 : 0 ≤ (x4_1 : Int) := od; have q290 : x4_1 < (l0_0.length : Int) := od; obtain ⟨ad290, A290_2, c290_2, A290_3, c290_3, e290, hx290_0, hx290_1, hx290_2, hx290_3, hl290_2, hi290_2, hl290_3, hi290_3⟩ := at_T71 HR0_0.out x4_1 p290 q290
       cases e290
       replace hx290_0 := (HB.out.cell (World.block_lt_of_cell? w _ hx290_0)).trans hx290_0; replace hx290_1 := (HB.out.cell (World.block_lt_of_cell? w _ hx290_1)).trans hx290_1; replace hx290_2 := (HB.out.cell (World.block_lt_of_cell? w _ hx290_2)).trans hx290_2; replace hx290_3 := (HB.out.cell (World.block_lt_of_cell? w _ hx290_3)).trans hx290_3; have HR290_2 := am hi290_2; have HC290_2 := am hl290_2; clear hi290_2 hl290_2; have HR290_3 := am hi290_3; have HC290_3 := am hl290_3; clear hi290_3 hl290_3; replace p290 := eq_true p290; replace q290 := eq_true q290
       go_wp2_with (first | (refine gA (some 27) Try.func41 #[.agg #[.int .i64 ((rd_T71 l0_0 x4_1).f1.f0), .slice A290_2 ((rd_T71 l0_0 x4_1).f1.f1).length c290_2, .slice A290_3 ((rd_T71 l0_0 x4_1).f1.f2).length c290_3], .int .i64 x3_1] ?_; (with_reducible refine (trustquorummake_entries.calls k1 ((rd_T71 l0_0 x4_1).f1.f0) _ _ ((rd_T71 l0_0 x4_1).f1.f1) _ _ ((rd_T71 l0_0 x4_1).f1.f2) x3_1 t291 _ (Kd.C_below HR290_2.out HB.out) HC290_2.out (Kd.C_below HR290_3.out HB.out) HC290_3.out A10.out).mono ?_); rintro e w12 ⟨rfl, hb⟩; refine ⟨_, rfl, ?_⟩; replace BK289 := bb BK289 hb; replace HB := bs HB hb; (try clear hb); (try clear hi)))
       go_roundg k1
       case measure => have := HK1.out; omega
       case rel => exact ⟨(t291), (wrap64 (x4_1 + 1)), ar, ar, H', ⟨by have := HK1.out; omega⟩, ⟨by exact BK289.out⟩, ⟨by exact HB.out⟩⟩
      ·
       rw [if_neg c9] at H; exact absurd H (by simp)
     ·
      rw [if_neg c8] at H; have c8b0 : decide (x3_1 ≤ 400) = false := decide_eq_false c8; clear c8; obtain rfl := Option.some.inj H; obtain ⟨hcz13_0, hfz13_0⟩ := blkC1 BK289.out
      go_wp2
      go_ret
      exact ⟨er, by exact HB.out⟩
    ·
     rw [if_neg c7] at H; have c7b0 : decide (x4_1 < (l0_0.length : Int)) = false := decide_eq_false c7; clear c7; obtain rfl := Option.some.inj H; obtain ⟨hcz14_0, hfz14_0⟩ := blkC1 BK289.out
     go_wp2
     go_ret
     exact ⟨er, by exact HB.out⟩
end Go.Proofs.Ytphndccgadblnaa.QLeadersAnswers
