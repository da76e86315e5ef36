/- Lean functions that answer as the Go functions do which the law reaches, and proofs that the Go code comes to exactly these answers. Conditions: those that each theorem names. -/
import Derived.Test.YtmeamdklonmahaaQFederatedSafex0
import Derived.Test.YtmeamdklonmahaaQFederatedSafex3
import Derived.Test.YtmeamdklonmahaaQFederatedSafex9
namespace Go.Proofs.Ytmeamdklonmahaa.QFederatedSafe
open Go.RowKit Go.Proofs.YtmeamdklonmahaaW.PrintWords Go.Proofs.YtmeamdklonmahaaW.PrintLast Go.Proofs.YtmeamdklonmahaaW.PrintMore
attribute [local go_sem] max2_int min2_int max_two min_two max_three min_three max_four min_four   -- for this text's walks alone
set_option linter.unusedVariables false
set_option linter.unusedSimpArgs false

/-! ### trustquorumref02_Uses: function 85 -/
mutual
def trustquorumref02_Uses.l0 : Nat → Int → List Int → Int → Int → Int → List Int → List (S48) → Option (Int)
  | 0, _, _, _, _, _, _, _ => none
  | k + 1, x3, x9, x10, x11, x391000, x391001, x391002 => if x11 < x10 then (if 0 ≤ x11 then (if x11 < (x9.length : Int) then (if (rd x9 x11) ≥ 0 then (if (rd x9 x11) < 10 then (if 0 ≤ (rd x9 x11) then (trustquorumref02_Uses.l0 k (Go.bits .or .i64 x3 (shl .i64 1 (rd x9 x11))) x9 x10 (wrap64 (x11 + 1)) x391000 x391001 x391002) else (none)) else (trustquorumref02_Uses.l0 k x3 x9 x10 (wrap64 (x11 + 1)) x391000 x391001 x391002)) else (trustquorumref02_Uses.l0 k x3 x9 x10 (wrap64 (x11 + 1)) x391000 x391001 x391002)) else (none)) else (none)) else (trustquorumref02_Uses.l1 k x3 x391002 (x391002.length : Int) 0)
def trustquorumref02_Uses.l1 : Nat → Int → List (S48) → Int → Int → Option (Int)
  | 0, _, _, _, _ => none
  | k + 1, x3, x27, x28, x29 => if x29 < x28 then (if 0 ≤ x29 then (if x29 < (x27.length : Int) then ((trustquorumref02_Uses.f k ((rd_T48 x27 x29).f0) ((rd_T48 x27 x29).f1) ((rd_T48 x27 x29).f2)).bind fun t394 => (trustquorumref02_Uses.l1 k (Go.bits .or .i64 x3 t394) x27 x28 (wrap64 (x29 + 1)))) else (none)) else (none)) else (some x3)
def trustquorumref02_Uses.f : Nat → Int → List Int → List (S48) → Option (Int)
  | 0, _, _, _ => none
  | k + 1, a0_0, l0_1, l0_2 => trustquorumref02_Uses.l0 k 0 l0_1 (l0_1.length : Int) 0 a0_0 l0_1 l0_2
end
set_option maxHeartbeats 8000000 in
set_option maxRecDepth 100000 in
theorem trustquorumref02_Uses.calls (k : Nat) : ∀ (a0_0 : Int) (A0_1 : Option Addr) (c0_1 : Nat) (l0_1 : List Int) (A0_2 : Option Addr) (c0_2 : Nat) (l0_2 : List (S48)) (r : Int) (w : World) (hr0_1 : Kd.C (Kd.int .i64) w A0_1 l0_1.length l0_1) (hc0_1 : l0_1.length ≤ c0_1) (hr0_2 : Kd.C k48 w A0_2 l0_2.length l0_2) (hc0_2 : l0_2.length ≤ c0_2) (h : trustquorumref02_Uses.f k a0_0 l0_1 l0_2 = some r),
    Calls Try.prog 85 #[.agg #[.int .i64 a0_0, .slice A0_1 l0_1.length c0_1, .slice A0_2 l0_2.length c0_2]] w fun e w' => e = .returned (.int .i64 r) ∧ Below w.heap.size w w' := by
 induction k using Nat.strongRecOn with
 | _ k ih =>
 intro a0_0 A0_1 c0_1 l0_1 A0_2 c0_2 l0_2 r w hr0_1 hc0_1 hr0_2 hc0_2 h
 cases k with
 | zero => exact absurd h (by simp [trustquorumref02_Uses.f])
 | succ k =>
 simp only [trustquorumref02_Uses.f] at h; have hu48 := Try.underlying48; have HR0_1 := am hr0_1; have HC0_1 := am hc0_1; clear hr0_1 hc0_1; have HR0_2 := am hr0_2; have HC0_2 := am hc0_2; clear hr0_2 hc0_2; have HB := am (Below.refl w.heap.size w); have H : (trustquorumref02_Uses.l0 k 0 l0_1 (l0_1.length : Int) 0 a0_0 l0_1 l0_2) = some r := h; clear h; have H' := am H; clear H
 go_enter Try.func85, Try.ntmps85
 go_wp2_with (first | (refine bx 1 #[.int .i64 a0_0, .slice A0_1 l0_1.length c0_1, .slice A0_2 l0_2.length c0_2] 48 HB.out ?_; intro gb390 hg w2 BK390 GE390 hb; replace HB := bs HB hb; clear hb hg; obtain ⟨hcz3_0, hcz3_1, hcz3_2, hfz3_0, hfz3_1, hfz3_2⟩ := blkC3 BK390.out))
 go_loopg [3, 11] k (fun kq v3 v11 w' => ∃ (x3_1 : Int) (x11_1 : Int), v3 = .int .i64 x3_1 ∧ v11 = .int .i64 x11_1 ∧ Aside0 (trustquorumref02_Uses.l0 kq x3_1 l0_1 (l0_1.length : Int) x11_1 a0_0 l0_1 l0_2 = some r) ∧ Aside0 (kq ≤ k) ∧ Aside0 (w'.heap[gb390]? = some (.cells #[.int .i64 a0_0, (.slice A0_1 l0_1.length c0_1), (.slice A0_2 l0_2.length c0_2)] 48 (0, 0))) ∧ Aside0 (Below w.heap.size w w'))
 case atStart => exact ⟨(0), (0), ar, ar, H', ⟨Nat.le_refl _⟩, ⟨by exact BK390.out⟩, ⟨by exact HB.out⟩⟩
 case round =>
  clear H'; (try clear p2); (try clear hcz3_0 hcz3_1 hcz3_2 hfz3_0 hfz3_1 hfz3_2); obtain ⟨x3_1, x11_1, rfl, rfl, HA, HK1, BK390, HB⟩ := hrel
  cases gk with
  | zero => exact absurd HA.out (by simp [trustquorumref02_Uses.l0])
  | succ k1 =>
   have H := HA.out; clear HA; simp only [trustquorumref02_Uses.l0] at H
   by_cases c4 : x11_1 < (l0_1.length : Int)
   ·
    rw [if_pos c4] at H; have c4b0 : decide (x11_1 < (l0_1.length : Int)) = true := decide_eq_true c4; clear c4
    by_cases c5 : 0 ≤ x11_1
    ·
     rw [if_pos c5] at H; have c5b0 : decide (0 ≤ x11_1) = true := decide_eq_true c5; clear c5
     by_cases c6 : x11_1 < (l0_1.length : Int)
     ·
      rw [if_pos c6] at H; have c6b0 : decide (x11_1 < (l0_1.length : Int)) = true := decide_eq_true c6; clear c6
      by_cases c7 : (rd l0_1 x11_1) ≥ 0
      ·
       rw [if_pos c7] at H; have c7b0 : decide (0 ≤ (rd l0_1 x11_1)) = true := decide_eq_true c7; clear c7
       by_cases c8 : (rd l0_1 x11_1) < 10
       ·
        rw [if_pos c8] at H; have c8b0 : decide ((rd l0_1 x11_1) < 10) = true := decide_eq_true c8; clear c8
        by_cases c9 : 0 ≤ (rd l0_1 x11_1)
        ·
         rw [if_pos c9] at H; have c9b0 := eq_true c9; have c9b1 : decide (0 ≤ (rd l0_1 x11_1)) = true := decide_eq_true c9; clear c9; obtain ⟨ji10, hji10⟩ : ∃ j_ : Int, (shl .i64 1 (rd l0_1 x11_1)) = j_ := ⟨_, rfl⟩; replace H : (trustquorumref02_Uses.l0 k1 (Go.bits .or .i64 x3_1 (ji10)) l0_1 (l0_1.length : Int) (wrap64 (x11_1 + 1)) a0_0 l0_1 l0_2) = some r := by first | (rw [hji10] at H; exact H) | (simp only [hji10] at H ⊢; exact H)
         have hji10_ : (IntKind.i64.wrap (1 * 2 ^ min (rd l0_1 x11_1).toNat 64)) = ji10 := hji10; have hji10z : (rd l0_1 x11_1) ≤ 64 → (IntKind.i64.wrap (1 * 2 ^ (rd l0_1 x11_1).toNat)) = ji10 := shl_small hji10; have hji10u : (IntKind.i64.wrap (2 ^ min (rd l0_1 x11_1).toNat 64)) = ji10 := by have h_ := hji10_; rw [Int.one_mul] at h_; exact h_
         have hji10v : (rd l0_1 x11_1) ≤ 64 → (IntKind.i64.wrap (2 ^ (rd l0_1 x11_1).toNat)) = ji10 := fun hle_ => by have h_ := hji10z hle_; rw [Int.one_mul] at h_; exact h_
         have hji10y : (wrap64 (1 * 2 ^ min (rd l0_1 x11_1).toNat 64)) = ji10 := (i64_w _).symm.trans hji10_; have hji10x : (rd l0_1 x11_1) ≤ 64 → (wrap64 (1 * 2 ^ (rd l0_1 x11_1).toNat)) = ji10 := fun h_ => (i64_w _).symm.trans (hji10z h_); have H' := am H; clear H; have p391 : 0 ≤ (x11_1 : Int) := od; have q391 : x11_1 < (l0_1.length : Int) := od; obtain ⟨ad391, e391, hx391_0⟩ := Kd.at_int HR0_1.out x11_1 p391 q391
         cases e391
         replace hx391_0 := (HB.out.cell (World.block_lt_of_cell? w _ hx391_0)).trans hx391_0; replace p391 := eq_true p391; replace q391 := eq_true q391
         go_wp2
         go_roundg k1
         case measure => have := HK1.out; omega
         case rel => exact ⟨(Go.bits .or .i64 x3_1 (ji10)), (wrap64 (x11_1 + 1)), (by first | rfl | (simp; done) | (simp only [← hji10] <;> (first | rfl | simp)) | (simp [*]; done)), ar, H', ⟨by have := HK1.out; omega⟩, ⟨by exact BK390.out⟩, ⟨by exact HB.out⟩⟩
        ·
         rw [if_neg c9] at H; exact absurd H (by simp)
       ·
        rw [if_neg c8] at H; have c8b0 : decide ((rd l0_1 x11_1) < 10) = false := decide_eq_false c8; clear c8; have H' := am H; clear H; have p391 : 0 ≤ (x11_1 : Int) := od; have q391 : x11_1 < (l0_1.length : Int) := od; obtain ⟨ad391, e391, hx391_0⟩ := Kd.at_int HR0_1.out x11_1 p391 q391
        cases e391
        replace hx391_0 := (HB.out.cell (World.block_lt_of_cell? w _ hx391_0)).trans hx391_0; replace p391 := eq_true p391; replace q391 := eq_true q391
        go_wp2
        go_roundg k1
        case measure => have := HK1.out; omega
        case rel => exact ⟨(x3_1), (wrap64 (x11_1 + 1)), ar, ar, H', ⟨by have := HK1.out; omega⟩, ⟨by exact BK390.out⟩, ⟨by exact HB.out⟩⟩
      ·
       rw [if_neg c7] at H; have c7b0 : decide (0 ≤ (rd l0_1 x11_1)) = false := decide_eq_false c7; clear c7; have H' := am H; clear H; have p391 : 0 ≤ (x11_1 : Int) := od; have q391 : x11_1 < (l0_1.length : Int) := od; obtain ⟨ad391, e391, hx391_0⟩ := Kd.at_int HR0_1.out x11_1 p391 q391
       cases e391
       replace hx391_0 := (HB.out.cell (World.block_lt_of_cell? w _ hx391_0)).trans hx391_0; replace p391 := eq_true p391; replace q391 := eq_true q391
       go_wp2
       go_roundg k1
       case measure => have := HK1.out; omega
       case rel => exact ⟨(x3_1), (wrap64 (x11_1 + 1)), ar, ar, H', ⟨by have := HK1.out; omega⟩, ⟨by exact BK390.out⟩, ⟨by exact HB.out⟩⟩
     ·
      rw [if_neg c6] at H; exact absurd H (by simp)
    ·
     rw [if_neg c5] at H; exact absurd H (by simp)
   ·
    rw [if_neg c4] at H; have c4b0 : decide (x11_1 < (l0_1.length : Int)) = false := decide_eq_false c4; clear c4; have H' := am H; clear H; obtain ⟨hcz11_0, hcz11_1, hcz11_2, hfz11_0, hfz11_1, hfz11_2⟩ := blkC3 BK390.out
    go_wp2
    go_loopg [3, 29] k1 (fun kq v3 v29 w' => ∃ (x3_2 : Int) (x29_2 : Int), v3 = .int .i64 x3_2 ∧ v29 = .int .i64 x29_2 ∧ Aside0 (trustquorumref02_Uses.l1 kq x3_2 l0_2 (l0_2.length : Int) x29_2 = some r) ∧ Aside0 (kq ≤ k1) ∧ Aside0 (Below w.heap.size w w'))
    case atStart => exact ⟨(x3_1), (0), ar, ar, H', ⟨Nat.le_refl _⟩, ⟨by exact HB.out⟩⟩
    case round =>
     clear H'; (try clear p2); (try clear p3); (try clear q3); (try clear hx3); (try clear c4); (try clear c4b0); (try clear c5); (try clear c5b0); (try clear c6); (try clear c6b0); (try clear p6); (try clear c7); (try clear c7b0); (try clear c8); (try clear c8b0); (try clear c9); (try clear c9b0); (try clear c9b1); (try clear hcz11_0 hcz11_1 hcz11_2); (try clear hcz3_0 hcz3_1 hcz3_2); (try clear hfz11_0 hfz11_1 hfz11_2); (try clear hfz3_0 hfz3_1 hfz3_2); (try clear hx391_0); (try clear p2); (try clear p391); (try clear q391); obtain ⟨x3_2, x29_2, rfl, rfl, HA, HK2, HB⟩ := hrel
     cases gk with
     | zero => exact absurd HA.out (by simp [trustquorumref02_Uses.l1])
     | succ k2 =>
      have H := HA.out; clear HA; simp only [trustquorumref02_Uses.l1] at H
      by_cases c12 : x29_2 < (l0_2.length : Int)
      ·
       rw [if_pos c12] at H; have c12b0 : decide (x29_2 < (l0_2.length : Int)) = true := decide_eq_true c12; clear c12
       by_cases c13 : 0 ≤ x29_2
       ·
        rw [if_pos c13] at H; have c13b0 : decide (0 ≤ x29_2) = true := decide_eq_true c13; clear c13
        by_cases c14 : x29_2 < (l0_2.length : Int)
        ·
         rw [if_pos c14] at H; have c14b0 : decide (x29_2 < (l0_2.length : Int)) = true := decide_eq_true c14; clear c14; replace H := Option.bind_eq_some_iff.mp H; obtain ⟨t394, A150, H⟩ := H; replace H : (trustquorumref02_Uses.l1 k2 (Go.bits .or .i64 x3_2 t394) l0_2 (l0_2.length : Int) (wrap64 (x29_2 + 1))) = some r := H; have A15 := am A150; clear A150; have H' := am H; clear H; have p392 : 0 ≤ (x29_2 : Int) := od; have q392 : x29_2 < (l0_2.length : Int) := od; obtain ⟨ad392, A392_1, c392_1, A392_2, c392_2, e392, hx392_0, hx392_1, hx392_2, hl392_1, hi392_1, hl392_2, hi392_2⟩ := at_T48 HR0_2.out x29_2 p392 q392
         cases e392
         replace hx392_0 := (HB.out.cell (World.block_lt_of_cell? w _ hx392_0)).trans hx392_0; replace hx392_1 := (HB.out.cell (World.block_lt_of_cell? w _ hx392_1)).trans hx392_1; replace hx392_2 := (HB.out.cell (World.block_lt_of_cell? w _ hx392_2)).trans hx392_2; have HR392_1 := am hi392_1; have HC392_1 := am hl392_1; clear hi392_1 hl392_1; have HR392_2 := am hi392_2; have HC392_2 := am hl392_2; clear hi392_2 hl392_2; replace p392 := eq_true p392; replace q392 := eq_true q392
         go_wp2_with (first | (refine bx 7 #[.int .i64 0, .slice none 0 0, .slice none 0 0] 48 HB.out ?_; intro gb393 hg w16 BK393 GE393 hb; replace HB := bs HB hb; clear hb hg; obtain ⟨hcz17_0, hcz17_1, hcz17_2, hfz17_0, hfz17_1, hfz17_2⟩ := blkC3 BK393.out) | (refine gA (some 35) Try.func85 #[.agg #[.int .i64 ((rd_T48 l0_2 x29_2).f0), .slice A392_1 ((rd_T48 l0_2 x29_2).f1).length c392_1, .slice A392_2 ((rd_T48 l0_2 x29_2).f2).length c392_2]] ?_; (with_reducible refine (ih k2 (by have := HK1.out; have := HK2.out; omega) ((rd_T48 l0_2 x29_2).f0) _ _ ((rd_T48 l0_2 x29_2).f1) _ _ ((rd_T48 l0_2 x29_2).f2) t394 _ (Kd.C_below HR392_1.out cl0) HC392_1.out (Kd.C_below HR392_2.out cl0) HC392_2.out A15.out).mono ?_); rintro e w18 ⟨rfl, hb⟩; refine ⟨_, rfl, ?_⟩; replace BK393 := am (blk_below (g := gb393) (o := .cells #[.int .i64 ((rd_T48 l0_2 x29_2).f0), .slice A392_1 ((rd_T48 l0_2 x29_2).f1).length c392_1, .slice A392_2 ((rd_T48 l0_2 x29_2).f2).length c392_2] 48 (0, 0)) bo hb); replace HB := am (below_step (kw HB cl0) hb); (try clear hb); (try clear hi)))
         go_roundg k2
         case measure => have := HK1.out; have := HK2.out; omega
         case rel => exact ⟨(Go.bits .or .i64 x3_2 t394), (wrap64 (x29_2 + 1)), ar, ar, H', ⟨by have := HK1.out; have := HK2.out; omega⟩, ⟨by exact HB.out⟩⟩
        ·
         rw [if_neg c14] at H; exact absurd H (by simp)
       ·
        rw [if_neg c13] at H; exact absurd H (by simp)
      ·
       rw [if_neg c12] at H; have c12b0 : decide (x29_2 < (l0_2.length : Int)) = false := decide_eq_false c12; clear c12; obtain rfl := Option.some.inj H
       go_wp2
       go_ret
       exact ⟨er, by exact HB.out⟩
/-! ### trustquorumref06_Valid: function 53 -/
def trustquorumref06_Valid.l0 : Nat → List (S54) → Int → Int → List (S54) → Option (Int)
  | 0, _, _, _, _ => none
  | k + 1, x11, x12, x13, x396000 => if x13 < x12 then (if 0 ≤ x13 then (if x13 < (x11.length : Int) then (if ((rd_T54 x11 x13).f0 = true) then ((trustquorumref02_Valid.f k ((rd_T54 x11 x13).f1.f0) ((rd_T54 x11 x13).f1.f1) ((rd_T54 x11 x13).f1.f2)).bind fun t399 => (if t399 = 0 then ((trustquorumref02_Uses.f k ((rd_T54 x11 x13).f1.f0) ((rd_T54 x11 x13).f1.f1) ((rd_T54 x11 x13).f1.f2)).bind fun t400 => (if t400 ≥ (shl .i64 1 (x396000.length : Int)) then (some 5) else (trustquorumref06_Valid.l0 k x11 x12 (wrap64 (x13 + 1)) x396000))) else (some t399))) else ((trustquorumref02_Same.f k ((rd_T54 x11 x13).f1.f0) ((rd_T54 x11 x13).f1.f1) ((rd_T54 x11 x13).f1.f2) 0 ([] : List Int) ([] : List (S48))).bind fun t398 => (if t398 = true then (trustquorumref06_Valid.l0 k x11 x12 (wrap64 (x13 + 1)) x396000) else (some 1)))) else (none)) else (none)) else (some 0)
def trustquorumref06_Valid.f (k : Nat) (l0_0 : List (S54)) : Option (Int) := if (l0_0.length : Int) > 10 then (some 3) else (trustquorumref06_Valid.l0 k l0_0 (l0_0.length : Int) 0 l0_0)
def trustquorumref06_Valid.T12 : Bool × List (List Nat × List Nat) := (true, [([], []), ([0], [0]), ([1], [1]), ([], []), ([3], [3]), ([4], [4]), ([5], [5]), ([2, 6], [2, 6])])
def trustquorumref06_Valid.B12 : List Nat := [0, 1, 3, 0, 8, 24, 56, 127]
theorem trustquorumref06_Valid.tab12 : rtab .any (opsOf Try.f53 12) = trustquorumref06_Valid.T12 := by kernel_rfl
theorem trustquorumref06_Valid.bits12 : waitsOk trustquorumref06_Valid.T12.2 trustquorumref06_Valid.B12 = true := by kernel_rfl
set_option maxHeartbeats 8000000 in
set_option maxRecDepth 100000 in
theorem trustquorumref06_Valid.calls (k : Nat) (A0_0 : Option Addr) (c0_0 : Nat) (l0_0 : List (S54)) (r : Int) (w : World) (hr0_0 : Kd.C k54 w A0_0 l0_0.length l0_0) (hc0_0 : l0_0.length ≤ c0_0) (h : trustquorumref06_Valid.f k l0_0 = some r) :
    Calls Try.prog 53 #[.agg #[.slice A0_0 l0_0.length c0_0]] w fun e w' => e = .returned (.int .i64 r) ∧ Below w.heap.size w w' := by
 have hu27 := Try.underlying27; have hu54 := Try.underlying54; have hu48 := Try.underlying48; have HR0_0 := am hr0_0; have HC0_0 := am hc0_0; clear hr0_0 hc0_0; have HB := am (Below.refl w.heap.size w); have H : (if (l0_0.length : Int) > 10 then (some 3) else (trustquorumref06_Valid.l0 k l0_0 (l0_0.length : Int) 0 l0_0)) = some r := h; clear h
 by_cases c2 : (l0_0.length : Int) > 10
 ·
  rw [if_pos c2] at H; have c2b0 : decide (10 < (l0_0.length : Int)) = true := decide_eq_true c2; have c2b1 : decide (10 < l0_0.length) = true := decide_eq_true (by omega); clear c2; obtain rfl := Option.some.inj H
  go_enter Try.func53, Try.ntmps53
  go_wp2_with (first | (refine bx 1 #[.slice A0_0 l0_0.length c0_0] 27 HB.out ?_; intro gb395 hg w3 BK395 GE395 hb; replace HB := bs HB hb; clear hb hg; obtain ⟨hcz4_0, hfz4_0⟩ := blkC1 BK395.out))
  go_ret
  exact ⟨er, by exact HB.out⟩
 ·
  rw [if_neg c2] at H; have c2b0 : decide (10 < (l0_0.length : Int)) = false := decide_eq_false c2; have c2b1 : decide (10 < l0_0.length) = false := decide_eq_false (by omega); clear c2; have H' := am H; clear H
  go_enter Try.func53, Try.ntmps53
  go_wp2_with (first | (refine bx 1 #[.slice A0_0 l0_0.length c0_0] 27 HB.out ?_; intro gb395 hg w5 BK395 GE395 hb; replace HB := bs HB hb; clear hb hg; obtain ⟨hcz6_0, hfz6_0⟩ := blkC1 BK395.out))
  go_loopg [13] k (fun kq v13 w' => ∃ (x13_1 : Int), v13 = .int .i64 x13_1 ∧ Aside0 (trustquorumref06_Valid.l0 kq l0_0 (l0_0.length : Int) x13_1 l0_0 = some r) ∧ Aside0 (kq ≤ k) ∧ Aside0 (w'.heap[gb395]? = some (.cells #[(.slice A0_0 l0_0.length c0_0)] 27 (0, 0))) ∧ Aside0 (Below w.heap.size w w'))
  case atStart => exact ⟨(0), ar, H', ⟨Nat.le_refl _⟩, ⟨by exact BK395.out⟩, ⟨by exact HB.out⟩⟩
  case round =>
   clear H'; (try clear c2); (try clear c2b0); (try clear c2b1); (try clear p2); (try clear c5); (try clear p6); (try clear hcz4_0); (try clear hcz6_0); (try clear hfz4_0); (try clear hfz6_0); obtain ⟨x13_1, rfl, HA, HK1, BK395, HB⟩ := hrel
   cases gk with
   | zero => exact absurd HA.out (by simp [trustquorumref06_Valid.l0])
   | succ k1 =>
    have H := HA.out; clear HA; simp only [trustquorumref06_Valid.l0] at H
    by_cases c7 : x13_1 < (l0_0.length : Int)
    ·
     rw [if_pos c7] at H; have c7b0 : decide (x13_1 < (l0_0.length : Int)) = true := decide_eq_true c7; clear c7
     by_cases c8 : 0 ≤ x13_1
     ·
      rw [if_pos c8] at H; have c8b0 : decide (0 ≤ x13_1) = true := decide_eq_true c8; clear c8
      by_cases c9 : x13_1 < (l0_0.length : Int)
      ·
       rw [if_pos c9] at H; have c9b0 : decide (x13_1 < (l0_0.length : Int)) = true := decide_eq_true c9; clear c9; obtain ⟨bq10, hbq10⟩ : ∃ b_ : Bool, b_ = ((rd_T54 l0_0 x13_1).f0) := ⟨_, rfl⟩; replace H : (if (bq10 = true) then ((trustquorumref02_Valid.f k1 ((rd_T54 l0_0 x13_1).f1.f0) ((rd_T54 l0_0 x13_1).f1.f1) ((rd_T54 l0_0 x13_1).f1.f2)).bind fun t399 => (if t399 = 0 then ((trustquorumref02_Uses.f k1 ((rd_T54 l0_0 x13_1).f1.f0) ((rd_T54 l0_0 x13_1).f1.f1) ((rd_T54 l0_0 x13_1).f1.f2)).bind fun t400 => (if t400 ≥ (shl .i64 1 (l0_0.length : Int)) then (some 5) else (trustquorumref06_Valid.l0 k1 l0_0 (l0_0.length : Int) (wrap64 (x13_1 + 1)) l0_0))) else (some t399))) else ((trustquorumref02_Same.f k1 ((rd_T54 l0_0 x13_1).f1.f0) ((rd_T54 l0_0 x13_1).f1.f1) ((rd_T54 l0_0 x13_1).f1.f2) 0 ([] : List Int) ([] : List (S48))).bind fun t398 => (if t398 = true then (trustquorumref06_Valid.l0 k1 l0_0 (l0_0.length : Int) (wrap64 (x13_1 + 1)) l0_0) else (some 1)))) = some r := by rw [← hbq10] at H; exact H
       have Nbq10 := am hbq10; clear hbq10
       by_cases c11 : (bq10 = true)
       ·
        subst c11; have H1 : ((trustquorumref02_Valid.f k1 ((rd_T54 l0_0 x13_1).f1.f0) ((rd_T54 l0_0 x13_1).f1.f1) ((rd_T54 l0_0 x13_1).f1.f2)).bind fun t399 => (if t399 = 0 then ((trustquorumref02_Uses.f k1 ((rd_T54 l0_0 x13_1).f1.f0) ((rd_T54 l0_0 x13_1).f1.f1) ((rd_T54 l0_0 x13_1).f1.f2)).bind fun t400 => (if t400 ≥ (shl .i64 1 (l0_0.length : Int)) then (some 5) else (trustquorumref06_Valid.l0 k1 l0_0 (l0_0.length : Int) (wrap64 (x13_1 + 1)) l0_0))) else (some t399))) = some r := by rw [if_pos rfl] at H; exact H
        clear H; have H := H1; clear H1; replace H := Option.bind_eq_some_iff.mp H; obtain ⟨t399, A120, H⟩ := H; replace H : (if t399 = 0 then ((trustquorumref02_Uses.f k1 ((rd_T54 l0_0 x13_1).f1.f0) ((rd_T54 l0_0 x13_1).f1.f1) ((rd_T54 l0_0 x13_1).f1.f2)).bind fun t400 => (if t400 ≥ (shl .i64 1 (l0_0.length : Int)) then (some 5) else (trustquorumref06_Valid.l0 k1 l0_0 (l0_0.length : Int) (wrap64 (x13_1 + 1)) l0_0))) else (some t399)) = some r := H; have A12 := am A120; clear A120
        by_cases c13 : t399 = 0
        ·
         rw [if_pos c13] at H; have c13b0 : (t399 == 0) = true := beq_iff_eq.mpr c13; have c13b1 : (t399 != 0) = false := bne_eq_false_iff_eq.mpr c13; clear c13; replace H := Option.bind_eq_some_iff.mp H; obtain ⟨t400, A140, H⟩ := H; replace H : (if t400 ≥ (shl .i64 1 (l0_0.length : Int)) then (some 5) else (trustquorumref06_Valid.l0 k1 l0_0 (l0_0.length : Int) (wrap64 (x13_1 + 1)) l0_0)) = some r := H; have A14 := am A140; clear A140; obtain ⟨ji15, hji15⟩ : ∃ j_ : Int, (shl .i64 1 (l0_0.length : Int)) = j_ := ⟨_, rfl⟩; replace H : (if t400 ≥ (ji15) then (some 5) else (trustquorumref06_Valid.l0 k1 l0_0 (l0_0.length : Int) (wrap64 (x13_1 + 1)) l0_0)) = some r := by first | (rw [hji15] at H; exact H) | (simp only [hji15] at H ⊢; exact H)
         (try rw [hji15] at A12); (try rw [hji15] at A14); have hji15_ : (IntKind.i64.wrap (1 * 2 ^ min (l0_0.length : Int).toNat 64)) = ji15 := hji15; have hji15z : (l0_0.length : Int) ≤ 64 → (IntKind.i64.wrap (1 * 2 ^ (l0_0.length : Int).toNat)) = ji15 := shl_small hji15; have hji15p : (IntKind.i64.wrap (1 * 2 ^ min l0_0.length 64)) = ji15 := hji15_; have hji15q : (l0_0.length : Int) ≤ 64 → (IntKind.i64.wrap (1 * 2 ^ l0_0.length)) = ji15 := hji15z; have hji15r : (IntKind.i64.wrap (2 ^ min l0_0.length 64)) = ji15 := by have h_ := hji15p; rw [Int.one_mul] at h_; exact h_
         have hji15s : (l0_0.length : Int) ≤ 64 → (IntKind.i64.wrap (2 ^ l0_0.length)) = ji15 := fun hle_ => by have h_ := hji15q hle_; rw [Int.one_mul] at h_; exact h_
         have hji15u : (IntKind.i64.wrap (2 ^ min (l0_0.length : Int).toNat 64)) = ji15 := by have h_ := hji15_; rw [Int.one_mul] at h_; exact h_
         have hji15v : (l0_0.length : Int) ≤ 64 → (IntKind.i64.wrap (2 ^ (l0_0.length : Int).toNat)) = ji15 := fun hle_ => by have h_ := hji15z hle_; rw [Int.one_mul] at h_; exact h_
         have hji15y : (wrap64 (1 * 2 ^ min (l0_0.length : Int).toNat 64)) = ji15 := (i64_w _).symm.trans hji15_; have hji15x : (l0_0.length : Int) ≤ 64 → (wrap64 (1 * 2 ^ (l0_0.length : Int).toNat)) = ji15 := fun h_ => (i64_w _).symm.trans (hji15z h_)
         by_cases c16 : t400 ≥ (ji15)
         ·
          rw [if_pos c16] at H; have c16b0 : decide ((ji15) ≤ t400) = true := decide_eq_true c16; clear c16; obtain rfl := Option.some.inj H; have p396 : 0 ≤ (x13_1 : Int) := od; have q396 : x13_1 < (l0_0.length : Int) := od; obtain ⟨ad396, A396_2, c396_2, A396_3, c396_3, e396, hx396_0, hx396_1, hx396_2, hx396_3, hl396_2, hi396_2, hl396_3, hi396_3⟩ := at_T54 HR0_0.out x13_1 p396 q396; (try rw [← Nbq10.out] at hx396_0)
          cases e396
          replace hx396_0 := (HB.out.cell (World.block_lt_of_cell? w _ hx396_0)).trans hx396_0; replace hx396_1 := (HB.out.cell (World.block_lt_of_cell? w _ hx396_1)).trans hx396_1; replace hx396_2 := (HB.out.cell (World.block_lt_of_cell? w _ hx396_2)).trans hx396_2; replace hx396_3 := (HB.out.cell (World.block_lt_of_cell? w _ hx396_3)).trans hx396_3; have HR396_2 := am hi396_2; have HC396_2 := am hl396_2; clear hi396_2 hl396_2; have HR396_3 := am hi396_3; have HC396_3 := am hl396_3; clear hi396_3 hl396_3; replace p396 := eq_true p396; replace q396 := eq_true q396
          try go_wp2_with (first | (refine bx 4 #[.bool false, .int .i64 0, .slice none 0 0, .slice none 0 0] 54 HB.out ?_; intro gb397 hg w17 BK397 GE397 hb; replace HB := bs HB hb; have NB395_397 := nl hg BK395; have NB397_395 := ng hg BK395; replace BK395 := bb BK395 hb; clear hb hg; have hnb18 := NB397_395.out; have hnc18 := NB395_397.out; obtain ⟨hcz19_0, hcz19_1, hcz19_2, hcz19_3, hfz19_0, hfz19_1, hfz19_2, hfz19_3⟩ := blkC4 BK397.out) | (refine gA (some 27) Try.func63 #[.agg #[.int .i64 ((rd_T54 l0_0 x13_1).f1.f0), .slice A396_2 ((rd_T54 l0_0 x13_1).f1.f1).length c396_2, .slice A396_3 ((rd_T54 l0_0 x13_1).f1.f2).length c396_3]] ?_; (with_reducible refine (trustquorumref02_Valid.calls k1 ((rd_T54 l0_0 x13_1).f1.f0) _ _ ((rd_T54 l0_0 x13_1).f1.f1) _ _ ((rd_T54 l0_0 x13_1).f1.f2) t399 _ (Kd.C_below HR396_2.out cl0) HC396_2.out (Kd.C_below HR396_3.out cl0) HC396_3.out A12.out).mono ?_); rintro e w20 ⟨rfl, hb⟩; refine ⟨_, rfl, ?_⟩; replace BK395 := am (blk_below (g := gb395) (o := .cells #[.slice (some ad396) l0_0.length c0_0] 27 (0, 0)) bo hb); replace BK397 := am (blk_below (g := gb397) (o := .cells #[.bool true, .int .i64 ((rd_T54 l0_0 x13_1).f1.f0), .slice A396_2 ((rd_T54 l0_0 x13_1).f1.f1).length c396_2, .slice A396_3 ((rd_T54 l0_0 x13_1).f1.f2).length c396_3] 54 (0, 0)) (by refine blk_put (cs := #[.bool true, .int .i64 ((rd_T54 l0_0 x13_1).f1.f0), .slice A396_2 ((rd_T54 l0_0 x13_1).f1.f1).length c396_2, .slice none 0 0]) ?_ 3 _ (by first | rfl | ((try rw [← Nbq10.out]); rfl)); refine blk_put (cs := #[.bool true, .int .i64 ((rd_T54 l0_0 x13_1).f1.f0), .slice none 0 0, .slice none 0 0]) ?_ 2 _ (by first | rfl | ((try rw [← Nbq10.out]); rfl)); refine blk_put (cs := #[.bool true, .int .i64 0, .slice none 0 0, .slice none 0 0]) ?_ 1 _ (by first | rfl | ((try rw [← Nbq10.out]); rfl)); refine blk_put (cs := #[.bool false, .int .i64 0, .slice none 0 0, .slice none 0 0]) ?_ 0 _ (by first | rfl | ((try rw [← Nbq10.out]); rfl)); exact BK397.out) hb); replace HB := am (below_step (kw HB cl0) hb); (try clear hb); (try clear hi)))
          replace BK395 := am (blk_drew BK395.out); replace BK397 := am (blk_drew BK397.out); replace HB := am (below_drew1 HB.out); refine start_ (n := 8) (S := fun w' => w'.cell? ⟨gb397, 0, none⟩ = some (.bool true) ∧ w'.cell? ⟨gb397, 1, none⟩ = some (.int .i64 ((rd_T54 l0_0 x13_1).f1.f0)) ∧ w'.cell? ⟨gb397, 2, none⟩ = some (.slice A396_2 ((rd_T54 l0_0 x13_1).f1.f1).length c396_2) ∧ w'.cell? ⟨gb397, 3, none⟩ = some (.slice A396_3 ((rd_T54 l0_0 x13_1).f1.f2).length c396_3) ∧ w'.cell? ⟨gb395, 0, none⟩ = some (.slice (some ad396) l0_0.length c0_0)) (ds := []) #[false, false, false, false, false, false, false, false] (by kernel_rfl) rfl rfl ⟨(blk_cell BK397.out 0).trans rfl, (blk_cell BK397.out 1).trans rfl, (blk_cell BK397.out 2).trans rfl, (blk_cell BK397.out 3).trans rfl, (blk_cell BK395.out 0).trans rfl⟩ (fun hHeld => ?_); refine with_tabW trustquorumref06_Valid.tab12 trustquorumref06_Valid.bits12 (fun HT_ HW_ => ?_); generalize w20.drew = w21 at BK395 BK397 HB hHeld ⊢; refine pq (i := 0) (N := some 31) HT_ ?_
          refine pq (i := 3) (N := some 34) HT_ ?_
          refine tq (i := 1) (N := some 32) HT_ HW_ hHeld ?_
          refine tq (i := 4) (N := some 35) HT_ HW_ hHeld ?_
          refine pq (i := 5) (N := some 36) HT_ ?_
          refine pq (i := 6) (N := some 37) HT_ ?_
          refine one_ (i := 2) (N := some 33) #[true, true, true, true, true, true, true, false] rfl rfl (one_of HT_.out (by kernel_rfl)) (by decide) (fun K hK => ?_); refine goes_ Try.func85 (by kernel_rfl) rfl #[.agg #[.int .i64 ((rd_T54 l0_0 x13_1).f1.f0), .slice A396_2 ((rd_T54 l0_0 x13_1).f1.f1).length c396_2, .slice A396_3 ((rd_T54 l0_0 x13_1).f1.f2).length c396_3]] (by rfl) rfl rfl ax ?_
          with_reducible refine (trustquorumref02_Uses.calls k1 ((rd_T54 l0_0 x13_1).f1.f0) _ _ ((rd_T54 l0_0 x13_1).f1.f1) _ _ ((rd_T54 l0_0 x13_1).f1.f2) t400 _ ?side1 ?side2 ?side3 ?side4 A14.out).mono ?_
          (case side1 => exact (Kd.C_below HR396_2.out HB.out))
          (case side2 => exact HC396_2.out)
          (case side3 => exact (Kd.C_below HR396_3.out HB.out))
          (case side4 => exact HC396_3.out)
          rintro e w22 ⟨rfl, hb⟩; refine ⟨_, rfl, ?_⟩; replace BK395 := bb BK395 hb; replace BK397 := bb BK397 hb; replace HB := bs HB hb; (try clear hb); refine hK.out _ _ ⟨(blk_cell BK397.out 0).trans rfl, (blk_cell BK397.out 1).trans rfl, (blk_cell BK397.out 2).trans rfl, (blk_cell BK397.out 3).trans rfl, (blk_cell BK395.out 0).trans rfl⟩ (fun hHeld => ?_); clear hK K; refine norm_ (a' := ?_) ?_ ?_; rotate_left
          ·
           show Act.put _ (some 33) _ = _
           exact pu
          refine pq (i := 7) (N := some 38) HT_ ?_
          refine done_ (done_of HT_.out (by kernel_rfl)) ?_
          try go_wp2
          go_ret
          exact ⟨by first | rfl | (simp [errW_none, errW_some] <;> rfl) | (simp only [← hji15]; first | rfl | (simp [errW_none, errW_some] <;> rfl)) | (simp [*, errW_none, errW_some] <;> rfl), by exact HB.out⟩
         ·
          rw [if_neg c16] at H; have c16b0 : decide ((ji15) ≤ t400) = false := decide_eq_false c16; clear c16; have H' := am H; clear H; have p396 : 0 ≤ (x13_1 : Int) := od; have q396 : x13_1 < (l0_0.length : Int) := od; obtain ⟨ad396, A396_2, c396_2, A396_3, c396_3, e396, hx396_0, hx396_1, hx396_2, hx396_3, hl396_2, hi396_2, hl396_3, hi396_3⟩ := at_T54 HR0_0.out x13_1 p396 q396; (try rw [← Nbq10.out] at hx396_0)
          cases e396
          replace hx396_0 := (HB.out.cell (World.block_lt_of_cell? w _ hx396_0)).trans hx396_0; replace hx396_1 := (HB.out.cell (World.block_lt_of_cell? w _ hx396_1)).trans hx396_1; replace hx396_2 := (HB.out.cell (World.block_lt_of_cell? w _ hx396_2)).trans hx396_2; replace hx396_3 := (HB.out.cell (World.block_lt_of_cell? w _ hx396_3)).trans hx396_3; have HR396_2 := am hi396_2; have HC396_2 := am hl396_2; clear hi396_2 hl396_2; have HR396_3 := am hi396_3; have HC396_3 := am hl396_3; clear hi396_3 hl396_3; replace p396 := eq_true p396; replace q396 := eq_true q396
          try go_wp2_with (first | (refine bx 4 #[.bool false, .int .i64 0, .slice none 0 0, .slice none 0 0] 54 HB.out ?_; intro gb397 hg w23 BK397 GE397 hb; replace HB := bs HB hb; have NB395_397 := nl hg BK395; have NB397_395 := ng hg BK395; replace BK395 := bb BK395 hb; clear hb hg; have hnb24 := NB397_395.out; have hnc24 := NB395_397.out; obtain ⟨hcz25_0, hcz25_1, hcz25_2, hcz25_3, hfz25_0, hfz25_1, hfz25_2, hfz25_3⟩ := blkC4 BK397.out) | (refine gA (some 27) Try.func63 #[.agg #[.int .i64 ((rd_T54 l0_0 x13_1).f1.f0), .slice A396_2 ((rd_T54 l0_0 x13_1).f1.f1).length c396_2, .slice A396_3 ((rd_T54 l0_0 x13_1).f1.f2).length c396_3]] ?_; (with_reducible refine (trustquorumref02_Valid.calls k1 ((rd_T54 l0_0 x13_1).f1.f0) _ _ ((rd_T54 l0_0 x13_1).f1.f1) _ _ ((rd_T54 l0_0 x13_1).f1.f2) t399 _ (Kd.C_below HR396_2.out cl0) HC396_2.out (Kd.C_below HR396_3.out cl0) HC396_3.out A12.out).mono ?_); rintro e w26 ⟨rfl, hb⟩; refine ⟨_, rfl, ?_⟩; replace BK395 := am (blk_below (g := gb395) (o := .cells #[.slice (some ad396) l0_0.length c0_0] 27 (0, 0)) bo hb); replace BK397 := am (blk_below (g := gb397) (o := .cells #[.bool true, .int .i64 ((rd_T54 l0_0 x13_1).f1.f0), .slice A396_2 ((rd_T54 l0_0 x13_1).f1.f1).length c396_2, .slice A396_3 ((rd_T54 l0_0 x13_1).f1.f2).length c396_3] 54 (0, 0)) (by refine blk_put (cs := #[.bool true, .int .i64 ((rd_T54 l0_0 x13_1).f1.f0), .slice A396_2 ((rd_T54 l0_0 x13_1).f1.f1).length c396_2, .slice none 0 0]) ?_ 3 _ (by first | rfl | ((try rw [← Nbq10.out]); rfl)); refine blk_put (cs := #[.bool true, .int .i64 ((rd_T54 l0_0 x13_1).f1.f0), .slice none 0 0, .slice none 0 0]) ?_ 2 _ (by first | rfl | ((try rw [← Nbq10.out]); rfl)); refine blk_put (cs := #[.bool true, .int .i64 0, .slice none 0 0, .slice none 0 0]) ?_ 1 _ (by first | rfl | ((try rw [← Nbq10.out]); rfl)); refine blk_put (cs := #[.bool false, .int .i64 0, .slice none 0 0, .slice none 0 0]) ?_ 0 _ (by first | rfl | ((try rw [← Nbq10.out]); rfl)); exact BK397.out) hb); replace HB := am (below_step (kw HB cl0) hb); (try clear hb); (try clear hi)))
          replace BK395 := am (blk_drew BK395.out); replace BK397 := am (blk_drew BK397.out); replace HB := am (below_drew1 HB.out); refine start_ (n := 8) (S := fun w' => w'.cell? ⟨gb397, 0, none⟩ = some (.bool true) ∧ w'.cell? ⟨gb397, 1, none⟩ = some (.int .i64 ((rd_T54 l0_0 x13_1).f1.f0)) ∧ w'.cell? ⟨gb397, 2, none⟩ = some (.slice A396_2 ((rd_T54 l0_0 x13_1).f1.f1).length c396_2) ∧ w'.cell? ⟨gb397, 3, none⟩ = some (.slice A396_3 ((rd_T54 l0_0 x13_1).f1.f2).length c396_3) ∧ w'.cell? ⟨gb395, 0, none⟩ = some (.slice (some ad396) l0_0.length c0_0)) (ds := []) #[false, false, false, false, false, false, false, false] (by kernel_rfl) rfl rfl ⟨(blk_cell BK397.out 0).trans rfl, (blk_cell BK397.out 1).trans rfl, (blk_cell BK397.out 2).trans rfl, (blk_cell BK397.out 3).trans rfl, (blk_cell BK395.out 0).trans rfl⟩ (fun hHeld => ?_); refine with_tabW trustquorumref06_Valid.tab12 trustquorumref06_Valid.bits12 (fun HT_ HW_ => ?_); generalize w26.drew = w27 at BK395 BK397 HB hHeld ⊢; refine pq (i := 0) (N := some 31) HT_ ?_
          refine pq (i := 3) (N := some 34) HT_ ?_
          refine tq (i := 1) (N := some 32) HT_ HW_ hHeld ?_
          refine tq (i := 4) (N := some 35) HT_ HW_ hHeld ?_
          refine pq (i := 5) (N := some 36) HT_ ?_
          refine pq (i := 6) (N := some 37) HT_ ?_
          refine one_ (i := 2) (N := some 33) #[true, true, true, true, true, true, true, false] rfl rfl (one_of HT_.out (by kernel_rfl)) (by decide) (fun K hK => ?_); refine goes_ Try.func85 (by kernel_rfl) rfl #[.agg #[.int .i64 ((rd_T54 l0_0 x13_1).f1.f0), .slice A396_2 ((rd_T54 l0_0 x13_1).f1.f1).length c396_2, .slice A396_3 ((rd_T54 l0_0 x13_1).f1.f2).length c396_3]] (by rfl) rfl rfl ax ?_
          with_reducible refine (trustquorumref02_Uses.calls k1 ((rd_T54 l0_0 x13_1).f1.f0) _ _ ((rd_T54 l0_0 x13_1).f1.f1) _ _ ((rd_T54 l0_0 x13_1).f1.f2) t400 _ ?side1 ?side2 ?side3 ?side4 A14.out).mono ?_
          (case side1 => exact (Kd.C_below HR396_2.out HB.out))
          (case side2 => exact HC396_2.out)
          (case side3 => exact (Kd.C_below HR396_3.out HB.out))
          (case side4 => exact HC396_3.out)
          rintro e w28 ⟨rfl, hb⟩; refine ⟨_, rfl, ?_⟩; replace BK395 := bb BK395 hb; replace BK397 := bb BK397 hb; replace HB := bs HB hb; (try clear hb); refine hK.out _ _ ⟨(blk_cell BK397.out 0).trans rfl, (blk_cell BK397.out 1).trans rfl, (blk_cell BK397.out 2).trans rfl, (blk_cell BK397.out 3).trans rfl, (blk_cell BK395.out 0).trans rfl⟩ (fun hHeld => ?_); clear hK K; refine norm_ (a' := ?_) ?_ ?_; rotate_left
          ·
           show Act.put _ (some 33) _ = _
           exact pu
          refine pq (i := 7) (N := some 38) HT_ ?_
          refine done_ (done_of HT_.out (by kernel_rfl)) ?_
          try go_wp2
          go_roundg k1
          case measure => have := HK1.out; omega
          case rel => exact ⟨(wrap64 (x13_1 + 1)), ar, H', ⟨by have := HK1.out; omega⟩, ⟨by exact BK395.out⟩, ⟨by exact HB.out⟩⟩
        ·
         rw [if_neg c13] at H; have c13b0 : (t399 == 0) = false := beq_eq_false_iff_ne.mpr c13; have c13b1 : (t399 != 0) = true := bne_iff_ne.mpr c13; obtain rfl := Option.some.inj H; have p396 : 0 ≤ (x13_1 : Int) := od; have q396 : x13_1 < (l0_0.length : Int) := od; obtain ⟨ad396, A396_2, c396_2, A396_3, c396_3, e396, hx396_0, hx396_1, hx396_2, hx396_3, hl396_2, hi396_2, hl396_3, hi396_3⟩ := at_T54 HR0_0.out x13_1 p396 q396; (try rw [← Nbq10.out] at hx396_0)
         cases e396
         replace hx396_0 := (HB.out.cell (World.block_lt_of_cell? w _ hx396_0)).trans hx396_0; replace hx396_1 := (HB.out.cell (World.block_lt_of_cell? w _ hx396_1)).trans hx396_1; replace hx396_2 := (HB.out.cell (World.block_lt_of_cell? w _ hx396_2)).trans hx396_2; replace hx396_3 := (HB.out.cell (World.block_lt_of_cell? w _ hx396_3)).trans hx396_3; have HR396_2 := am hi396_2; have HC396_2 := am hl396_2; clear hi396_2 hl396_2; have HR396_3 := am hi396_3; have HC396_3 := am hl396_3; clear hi396_3 hl396_3; replace p396 := eq_true p396; replace q396 := eq_true q396
         go_wp2_with (first | (refine bx 4 #[.bool false, .int .i64 0, .slice none 0 0, .slice none 0 0] 54 HB.out ?_; intro gb397 hg w29 BK397 GE397 hb; replace HB := bs HB hb; have NB395_397 := nl hg BK395; have NB397_395 := ng hg BK395; replace BK395 := bb BK395 hb; clear hb hg; have hnb30 := NB397_395.out; have hnc30 := NB395_397.out; obtain ⟨hcz31_0, hcz31_1, hcz31_2, hcz31_3, hfz31_0, hfz31_1, hfz31_2, hfz31_3⟩ := blkC4 BK397.out) | (refine gA (some 27) Try.func63 #[.agg #[.int .i64 ((rd_T54 l0_0 x13_1).f1.f0), .slice A396_2 ((rd_T54 l0_0 x13_1).f1.f1).length c396_2, .slice A396_3 ((rd_T54 l0_0 x13_1).f1.f2).length c396_3]] ?_; (with_reducible refine (trustquorumref02_Valid.calls k1 ((rd_T54 l0_0 x13_1).f1.f0) _ _ ((rd_T54 l0_0 x13_1).f1.f1) _ _ ((rd_T54 l0_0 x13_1).f1.f2) t399 _ (Kd.C_below HR396_2.out cl0) HC396_2.out (Kd.C_below HR396_3.out cl0) HC396_3.out A12.out).mono ?_); rintro e w32 ⟨rfl, hb⟩; refine ⟨_, rfl, ?_⟩; replace BK395 := am (blk_below (g := gb395) (o := .cells #[.slice (some ad396) l0_0.length c0_0] 27 (0, 0)) bo hb); replace BK397 := am (blk_below (g := gb397) (o := .cells #[.bool true, .int .i64 ((rd_T54 l0_0 x13_1).f1.f0), .slice A396_2 ((rd_T54 l0_0 x13_1).f1.f1).length c396_2, .slice A396_3 ((rd_T54 l0_0 x13_1).f1.f2).length c396_3] 54 (0, 0)) (by refine blk_put (cs := #[.bool true, .int .i64 ((rd_T54 l0_0 x13_1).f1.f0), .slice A396_2 ((rd_T54 l0_0 x13_1).f1.f1).length c396_2, .slice none 0 0]) ?_ 3 _ (by first | rfl | ((try rw [← Nbq10.out]); rfl)); refine blk_put (cs := #[.bool true, .int .i64 ((rd_T54 l0_0 x13_1).f1.f0), .slice none 0 0, .slice none 0 0]) ?_ 2 _ (by first | rfl | ((try rw [← Nbq10.out]); rfl)); refine blk_put (cs := #[.bool true, .int .i64 0, .slice none 0 0, .slice none 0 0]) ?_ 1 _ (by first | rfl | ((try rw [← Nbq10.out]); rfl)); refine blk_put (cs := #[.bool false, .int .i64 0, .slice none 0 0, .slice none 0 0]) ?_ 0 _ (by first | rfl | ((try rw [← Nbq10.out]); rfl)); exact BK397.out) hb); replace HB := am (below_step (kw HB cl0) hb); (try clear hb); (try clear hi)))
         go_ret
         exact ⟨er, by exact HB.out⟩
       ·
        replace c11 := Bool.eq_false_iff.mpr c11; subst c11; have H1 : ((trustquorumref02_Same.f k1 ((rd_T54 l0_0 x13_1).f1.f0) ((rd_T54 l0_0 x13_1).f1.f1) ((rd_T54 l0_0 x13_1).f1.f2) 0 ([] : List Int) ([] : List (S48))).bind fun t398 => (if t398 = true then (trustquorumref06_Valid.l0 k1 l0_0 (l0_0.length : Int) (wrap64 (x13_1 + 1)) l0_0) else (some 1))) = some r := by rw [if_neg (show ¬ (false = true) by decide)] at H; exact H
        clear H; have H := H1; clear H1; replace H := Option.bind_eq_some_iff.mp H; obtain ⟨t398, A330, H⟩ := H; replace H : (if t398 = true then (trustquorumref06_Valid.l0 k1 l0_0 (l0_0.length : Int) (wrap64 (x13_1 + 1)) l0_0) else (some 1)) = some r := H; have A33 := am A330; clear A330
        by_cases c34 : t398 = true
        ·
         subst c34; have H1 : (trustquorumref06_Valid.l0 k1 l0_0 (l0_0.length : Int) (wrap64 (x13_1 + 1)) l0_0) = some r := by rw [if_pos rfl] at H; exact H
         clear H; have H := H1; clear H1; have H' := am H; clear H; have p396 : 0 ≤ (x13_1 : Int) := od; have q396 : x13_1 < (l0_0.length : Int) := od; obtain ⟨ad396, A396_2, c396_2, A396_3, c396_3, e396, hx396_0, hx396_1, hx396_2, hx396_3, hl396_2, hi396_2, hl396_3, hi396_3⟩ := at_T54 HR0_0.out x13_1 p396 q396; (try rw [← Nbq10.out] at hx396_0)
         cases e396
         replace hx396_0 := (HB.out.cell (World.block_lt_of_cell? w _ hx396_0)).trans hx396_0; replace hx396_1 := (HB.out.cell (World.block_lt_of_cell? w _ hx396_1)).trans hx396_1; replace hx396_2 := (HB.out.cell (World.block_lt_of_cell? w _ hx396_2)).trans hx396_2; replace hx396_3 := (HB.out.cell (World.block_lt_of_cell? w _ hx396_3)).trans hx396_3; have HR396_2 := am hi396_2; have HC396_2 := am hl396_2; clear hi396_2 hl396_2; have HR396_3 := am hi396_3; have HC396_3 := am hl396_3; clear hi396_3 hl396_3; replace p396 := eq_true p396; replace q396 := eq_true q396
         go_wp2_with (first | (refine bx 4 #[.bool false, .int .i64 0, .slice none 0 0, .slice none 0 0] 54 HB.out ?_; intro gb397 hg w35 BK397 GE397 hb; replace HB := bs HB hb; have NB395_397 := nl hg BK395; have NB397_395 := ng hg BK395; replace BK395 := bb BK395 hb; clear hb hg; have hnb36 := NB397_395.out; have hnc36 := NB395_397.out; obtain ⟨hcz37_0, hcz37_1, hcz37_2, hcz37_3, hfz37_0, hfz37_1, hfz37_2, hfz37_3⟩ := blkC4 BK397.out) | (refine gA (some 23) Try.func25 #[.agg #[.int .i64 ((rd_T54 l0_0 x13_1).f1.f0), .slice A396_2 ((rd_T54 l0_0 x13_1).f1.f1).length c396_2, .slice A396_3 ((rd_T54 l0_0 x13_1).f1.f2).length c396_3], .agg #[.int .i64 0, .slice none 0 0, .slice none 0 0]] ?_; (refine (trustquorumref02_Same.calls k1 ((rd_T54 l0_0 x13_1).f1.f0) _ _ ((rd_T54 l0_0 x13_1).f1.f1) _ _ ((rd_T54 l0_0 x13_1).f1.f2) 0 _ _ ([] : List Int) _ _ ([] : List (S48)) true _ ?side1 ?side2 ?side3 ?side4 ?side5 ?side6 ?side7 ?side8 A33.out).mono ?_); (case side1 => exact Kd.C_below HR396_2.out cl0); (case side2 => exact HC396_2.out); (case side3 => exact Kd.C_below HR396_3.out cl0); (case side4 => exact HC396_3.out); (case side5 => exact Kd.C_nil _ _); (case side6 => exact Nat.le_refl _); (case side7 => exact Kd.C_nil _ _); (case side8 => exact Nat.le_refl _); rintro e w38 ⟨rfl, hb⟩; refine ⟨_, rfl, ?_⟩; replace BK395 := am (blk_below (g := gb395) (o := .cells #[.slice (some ad396) l0_0.length c0_0] 27 (0, 0)) bo hb); replace BK397 := am (blk_below (g := gb397) (o := .cells #[.bool false, .int .i64 ((rd_T54 l0_0 x13_1).f1.f0), .slice A396_2 ((rd_T54 l0_0 x13_1).f1.f1).length c396_2, .slice A396_3 ((rd_T54 l0_0 x13_1).f1.f2).length c396_3] 54 (0, 0)) (by refine blk_put (cs := #[.bool false, .int .i64 ((rd_T54 l0_0 x13_1).f1.f0), .slice A396_2 ((rd_T54 l0_0 x13_1).f1.f1).length c396_2, .slice none 0 0]) ?_ 3 _ (by first | rfl | ((try rw [← Nbq10.out]); rfl)); refine blk_put (cs := #[.bool false, .int .i64 ((rd_T54 l0_0 x13_1).f1.f0), .slice none 0 0, .slice none 0 0]) ?_ 2 _ (by first | rfl | ((try rw [← Nbq10.out]); rfl)); refine blk_put (cs := #[.bool false, .int .i64 0, .slice none 0 0, .slice none 0 0]) ?_ 1 _ (by first | rfl | ((try rw [← Nbq10.out]); rfl)); refine blk_put (cs := #[.bool false, .int .i64 0, .slice none 0 0, .slice none 0 0]) ?_ 0 _ (by first | rfl | ((try rw [← Nbq10.out]); rfl)); exact BK397.out) hb); replace HB := am (below_step (kw HB cl0) hb); (try clear hb); (try clear hi)))
         go_roundg k1
         case measure => have := HK1.out; omega
         case rel => exact ⟨(wrap64 (x13_1 + 1)), ar, H', ⟨by have := HK1.out; omega⟩, ⟨by exact BK395.out⟩, ⟨by exact HB.out⟩⟩
        ·
         replace c34 := Bool.eq_false_iff.mpr c34; subst c34; have H1 : (some 1) = some r := by rw [if_neg (show ¬ (false = true) by decide)] at H; exact H
         clear H; have H := H1; clear H1; obtain rfl := Option.some.inj H; have p396 : 0 ≤ (x13_1 : Int) := od; have q396 : x13_1 < (l0_0.length : Int) := od; obtain ⟨ad396, A396_2, c396_2, A396_3, c396_3, e396, hx396_0, hx396_1, hx396_2, hx396_3, hl396_2, hi396_2, hl396_3, hi396_3⟩ := at_T54 HR0_0.out x13_1 p396 q396; (try rw [← Nbq10.out] at hx396_0)
         cases e396
         replace hx396_0 := (HB.out.cell (World.block_lt_of_cell? w _ hx396_0)).trans hx396_0; replace hx396_1 := (HB.out.cell (World.block_lt_of_cell? w _ hx396_1)).trans hx396_1; replace hx396_2 := (HB.out.cell (World.block_lt_of_cell? w _ hx396_2)).trans hx396_2; replace hx396_3 := (HB.out.cell (World.block_lt_of_cell? w _ hx396_3)).trans hx396_3; have HR396_2 := am hi396_2; have HC396_2 := am hl396_2; clear hi396_2 hl396_2; have HR396_3 := am hi396_3; have HC396_3 := am hl396_3; clear hi396_3 hl396_3; replace p396 := eq_true p396; replace q396 := eq_true q396
         go_wp2_with (first | (refine bx 4 #[.bool false, .int .i64 0, .slice none 0 0, .slice none 0 0] 54 HB.out ?_; intro gb397 hg w39 BK397 GE397 hb; replace HB := bs HB hb; have NB395_397 := nl hg BK395; have NB397_395 := ng hg BK395; replace BK395 := bb BK395 hb; clear hb hg; have hnb40 := NB397_395.out; have hnc40 := NB395_397.out; obtain ⟨hcz41_0, hcz41_1, hcz41_2, hcz41_3, hfz41_0, hfz41_1, hfz41_2, hfz41_3⟩ := blkC4 BK397.out) | (refine gA (some 23) Try.func25 #[.agg #[.int .i64 ((rd_T54 l0_0 x13_1).f1.f0), .slice A396_2 ((rd_T54 l0_0 x13_1).f1.f1).length c396_2, .slice A396_3 ((rd_T54 l0_0 x13_1).f1.f2).length c396_3], .agg #[.int .i64 0, .slice none 0 0, .slice none 0 0]] ?_; (refine (trustquorumref02_Same.calls k1 ((rd_T54 l0_0 x13_1).f1.f0) _ _ ((rd_T54 l0_0 x13_1).f1.f1) _ _ ((rd_T54 l0_0 x13_1).f1.f2) 0 _ _ ([] : List Int) _ _ ([] : List (S48)) false _ ?side1 ?side2 ?side3 ?side4 ?side5 ?side6 ?side7 ?side8 A33.out).mono ?_); (case side1 => exact Kd.C_below HR396_2.out cl0); (case side2 => exact HC396_2.out); (case side3 => exact Kd.C_below HR396_3.out cl0); (case side4 => exact HC396_3.out); (case side5 => exact Kd.C_nil _ _); (case side6 => exact Nat.le_refl _); (case side7 => exact Kd.C_nil _ _); (case side8 => exact Nat.le_refl _); rintro e w42 ⟨rfl, hb⟩; refine ⟨_, rfl, ?_⟩; replace BK395 := am (blk_below (g := gb395) (o := .cells #[.slice (some ad396) l0_0.length c0_0] 27 (0, 0)) bo hb); replace BK397 := am (blk_below (g := gb397) (o := .cells #[.bool false, .int .i64 ((rd_T54 l0_0 x13_1).f1.f0), .slice A396_2 ((rd_T54 l0_0 x13_1).f1.f1).length c396_2, .slice A396_3 ((rd_T54 l0_0 x13_1).f1.f2).length c396_3] 54 (0, 0)) (by refine blk_put (cs := #[.bool false, .int .i64 ((rd_T54 l0_0 x13_1).f1.f0), .slice A396_2 ((rd_T54 l0_0 x13_1).f1.f1).length c396_2, .slice none 0 0]) ?_ 3 _ (by first | rfl | ((try rw [← Nbq10.out]); rfl)); refine blk_put (cs := #[.bool false, .int .i64 ((rd_T54 l0_0 x13_1).f1.f0), .slice none 0 0, .slice none 0 0]) ?_ 2 _ (by first | rfl | ((try rw [← Nbq10.out]); rfl)); refine blk_put (cs := #[.bool false, .int .i64 0, .slice none 0 0, .slice none 0 0]) ?_ 1 _ (by first | rfl | ((try rw [← Nbq10.out]); rfl)); refine blk_put (cs := #[.bool false, .int .i64 0, .slice none 0 0, .slice none 0 0]) ?_ 0 _ (by first | rfl | ((try rw [← Nbq10.out]); rfl)); exact BK397.out) hb); replace HB := am (below_step (kw HB cl0) hb); (try clear hb); (try clear hi)))
         go_ret
         exact ⟨er, by exact HB.out⟩
      ·
       rw [if_neg c9] at H; exact absurd H (by simp)
     ·
      rw [if_neg c8] at H; exact absurd H (by simp)
    ·
     rw [if_neg c7] at H; have c7b0 : decide (x13_1 < (l0_0.length : Int)) = false := decide_eq_false c7; clear c7; obtain rfl := Option.some.inj H
     go_wp2
     go_ret
     exact ⟨er, by exact HB.out⟩
/-! ### trustquorumref01_Nodes: function 21 -/
def trustquorumref01_Nodes.l0 : Nat → Int → List Int → Int → Option (List Int)
  | 0, _, _, _ => none
  | k + 1, x0, x3, x4 => if x4 < 10 then ((trustquorumref01_Has.f x0 x4).bind fun t401 => (if t401 = true then (if x3.length < 17592186044416 then (trustquorumref01_Nodes.l0 k x0 (x3 ++ [x4]) (wrap64 (x4 + 1))) else (none)) else (trustquorumref01_Nodes.l0 k x0 x3 (wrap64 (x4 + 1))))) else (some x3)
def trustquorumref01_Nodes.f (k : Nat) (a0 : Int) : Option (List Int) := trustquorumref01_Nodes.l0 k a0 ([] : List Int) 0
set_option maxHeartbeats 8000000 in
set_option maxRecDepth 100000 in
theorem trustquorumref01_Nodes.calls (k : Nat) (a0 : Int) (r : List Int) (w : World) (h : trustquorumref01_Nodes.f k a0 = some r) :
    Calls Try.prog 21 #[.int .i64 a0] w fun e w' => ∃ v0_ : Value, e = .returned (v0_) ∧ Kd.R (Kd.int .i64) 3 w' w.heap.size (fun _ => True) v0_ r ∧ Below w.heap.size w w' := by
 have HB := am (Below.refl w.heap.size w); have H : (trustquorumref01_Nodes.l0 k a0 ([] : List Int) 0) = some r := h; clear h; have H' := am H; clear H
 go_enter Try.func21, Try.ntmps21
 go_wp2
 go_loopg [3, 4] k (fun kq v3 v4 w' => ∃ (x3_1 : List Int) (x4_1 : Int), v4 = .int .i64 x4_1 ∧ Aside0 (trustquorumref01_Nodes.l0 kq a0 x3_1 x4_1 = some r) ∧ Aside0 (kq ≤ k) ∧ Aside0 (Kd.R (Kd.int .i64) 3 w' w.heap.size (fun _ => True) v3 x3_1) ∧ Aside0 (Below w.heap.size w w'))
 case atStart => exact ⟨(([] : List Int)), (0), ar, H', ⟨Nat.le_refl _⟩, ⟨by first | exact Kd.R_nil _ _ _ _ _ | exact Kd.N_nil _ _ _ _ _ | exact Kd.V_nil _ _ _ _ _ | exact Kd.Q_nil _ _ _ _ _ | exact Kd.S_nil _ _ _ _ _⟩, ⟨by exact HB.out⟩⟩
 case round =>
  clear H'; obtain ⟨x3_1, x4_1, rfl, HA, HK1, HO_3, HB⟩ := hrel
  cases gk with
  | zero => exact absurd HA.out (by simp [trustquorumref01_Nodes.l0])
  | succ k1 =>
   have H := HA.out; clear HA; simp only [trustquorumref01_Nodes.l0] at H
   by_cases c2 : x4_1 < 10
   ·
    rw [if_pos c2] at H; have c2b0 : decide (x4_1 < 10) = true := decide_eq_true c2; clear c2; replace H := Option.bind_eq_some_iff.mp H; obtain ⟨t401, A30, H⟩ := H; replace H : (if t401 = true then (if x3_1.length < 17592186044416 then (trustquorumref01_Nodes.l0 k1 a0 (x3_1 ++ [x4_1]) (wrap64 (x4_1 + 1))) else (none)) else (trustquorumref01_Nodes.l0 k1 a0 x3_1 (wrap64 (x4_1 + 1)))) = some r := H; have A3 := am A30; clear A30
    by_cases c4 : t401 = true
    ·
     subst c4; have H1 : (if x3_1.length < 17592186044416 then (trustquorumref01_Nodes.l0 k1 a0 (x3_1 ++ [x4_1]) (wrap64 (x4_1 + 1))) else (none)) = some r := by rw [if_pos rfl] at H; exact H
     clear H; have H := H1; clear H1
     by_cases c5 : x3_1.length < 17592186044416
     ·
      rw [if_pos c5] at H; have LMc5 := am c5; clear c5; obtain ⟨y402, hy402⟩ : ∃ y_ : List Int, y_ = (x3_1 ++ [x4_1]) := ⟨_, rfl⟩; replace H : (trustquorumref01_Nodes.l0 k1 a0 y402 (wrap64 (x4_1 + 1))) = some r := by first | (rw [hy402]; with_reducible exact H) | (have H2_ := (Option.bind_some _ _).symm.trans H; rw [hy402]; with_reducible exact H2_) | (have H2_ := (Option.bind_some _ _).symm.trans H; with_reducible exact H2_) | with_reducible exact H | (rw [hy402]; exact H) | exact H
      have Ny402 := am hy402; clear hy402; have H' := am H; clear H
      go_wp2_with (first | (refine gA (some 11) Try.func18 #[.int .i64 a0, .int .i64 x4_1] ?_; (with_reducible refine (trustquorumref01_Has.calls a0 x4_1 true _ A3.out).mono ?_); rintro e w' ⟨rfl, ⟨nd, rfl⟩⟩; refine ⟨_, rfl, ?_⟩) | ((with_reducible refine gate_builtin (b := .append) (xs := #[.tmp 12, .tmp 14]) rfl ?_); at_builtin; refine Kd.R_append (Kd.int .i64) (w0 := w) w.heap.size rfl (.tmp 12) (.tmp 14) 22 3 (.int .i64 0) 8 rfl Try.underlying22 info3 rfl (by decide) (by omega) u3 x3_1 x4_1 [.int .i64 x4_1] (fun _ => True) (fun _ => False) rfl rfl ?aP (fun _ hk => hk.elim) ?aF ?aO ?aB ?aS ?aL ?_; (case aP => exact rfl); (case aB => exact cl4); (case aF => exact (fun _ _ => trivial)); (case aO => exact (pR HO_3)); (case aS => exact (below_size cl4)); (case aL => have := LMc5.out; omega); intro v403 w6 ho hb hg hat; rw [← Ny402.out] at ho; replace HB := am (hb); have HO404 := am (ho); clear HO_3; clear ho hb hg hat))
      go_roundg k1
      case measure => have := HK1.out; omega
      case rel => exact ⟨(y402), (wrap64 (x4_1 + 1)), ar, H', ⟨by have := HK1.out; omega⟩, ⟨by exact HO404.out⟩, ⟨by exact HB.out⟩⟩
     ·
      rw [if_neg c5] at H; exact absurd H (by simp)
    ·
     replace c4 := Bool.eq_false_iff.mpr c4; subst c4; have H1 : (trustquorumref01_Nodes.l0 k1 a0 x3_1 (wrap64 (x4_1 + 1))) = some r := by rw [if_neg (show ¬ (false = true) by decide)] at H; exact H
     clear H; have H := H1; clear H1; have H' := am H; clear H
     go_wp2_with (first | (refine gA (some 11) Try.func18 #[.int .i64 a0, .int .i64 x4_1] ?_; (with_reducible refine (trustquorumref01_Has.calls a0 x4_1 false _ A3.out).mono ?_); rintro e w' ⟨rfl, ⟨nd, rfl⟩⟩; refine ⟨_, rfl, ?_⟩))
     go_roundg k1
     case measure => have := HK1.out; omega
     case rel => exact ⟨(x3_1), (wrap64 (x4_1 + 1)), ar, H', ⟨by have := HK1.out; omega⟩, ⟨by exact HO_3.out⟩, ⟨cl4⟩⟩
   ·
    rw [if_neg c2] at H; have c2b0 : decide (x4_1 < 10) = false := decide_eq_false c2; clear c2; obtain rfl := Option.some.inj H
    go_wp2
    go_ret
    exact ⟨_, by first | rfl | (simp [errW_none, errW_some] <;> rfl) | (simp [*, errW_none, errW_some] <;> rfl), by exact HO_3.out, by exact HB.out⟩
end Go.Proofs.Ytmeamdklonmahaa.QFederatedSafe
