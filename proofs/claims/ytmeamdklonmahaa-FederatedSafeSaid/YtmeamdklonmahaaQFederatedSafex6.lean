/- Lean functions that answer as the Go functions do which the law reaches, and proofs that the Go code comes to exactly these answers. Conditions: those that each theorem names. -/
import Derived.Test.YtmeamdklonmahaaQFederatedSafex0
import Derived.Test.YtmeamdklonmahaaQFederatedSafex5
namespace Go.Proofs.Ytmeamdklonmahaa.QFederatedSafe
open Go.RowKit Go.Proofs.YtmeamdklonmahaaW.PrintWords Go.Proofs.YtmeamdklonmahaaW.PrintLast Go.Proofs.YtmeamdklonmahaaW.PrintMore
attribute [local go_sem] max2_int min2_int max_two min_two max_three min_three max_four min_four   -- for this text's walks alone
set_option linter.unusedVariables false
set_option linter.unusedSimpArgs false

/-! ### nodeset_Nodes: function 125 -/
def nodeset_Nodes.l0 : Nat → Int → List Int → Int → Option (List Int)
  | 0, _, _, _ => none
  | k + 1, x0, x3, x5 => if x5 < 10 then ((nodeset_Has.f x0 x5).bind fun t292 => (if t292 = true then (if x3.length < 17592186044416 then (nodeset_Nodes.l0 k x0 (x3 ++ [x5]) (wrap64 (x5 + 1))) else (none)) else (nodeset_Nodes.l0 k x0 x3 (wrap64 (x5 + 1))))) else (some x3)
def nodeset_Nodes.f (k : Nat) (a0 : Int) : Option (List Int) := nodeset_Nodes.l0 k a0 ([] : List Int) 0
set_option maxHeartbeats 8000000 in
set_option maxRecDepth 100000 in
theorem nodeset_Nodes.calls (k : Nat) (a0 : Int) (r : List Int) (w : World) (h : nodeset_Nodes.f k a0 = some r) :
    Calls Try.prog 125 #[.int .i64 a0] w fun e w' => ∃ v0_ : Value, e = .returned (v0_) ∧ Kd.R (Kd.int .i64) 3 w' w.heap.size (fun _ => True) v0_ r ∧ Below w.heap.size w w' := by
 have HB := am (Below.refl w.heap.size w); have H : (nodeset_Nodes.l0 k a0 ([] : List Int) 0) = some r := h; clear h; have H' := am H; clear H
 go_enter Try.func125, Try.ntmps125
 go_wp2
 go_loopg [3, 5] k (fun kq v3 v5 w' => ∃ (x3_1 : List Int) (x5_1 : Int), v5 = .int .i64 x5_1 ∧ Aside0 (nodeset_Nodes.l0 kq a0 x3_1 x5_1 = some r) ∧ Aside0 (kq ≤ k) ∧ Aside0 (Kd.R (Kd.int .i64) 3 w' w.heap.size (fun _ => True) v3 x3_1) ∧ Aside0 (Below w.heap.size w w'))
 case atStart => exact ⟨(([] : List Int)), (0), ar, H', ⟨Nat.le_refl _⟩, ⟨by first | exact Kd.R_nil _ _ _ _ _ | exact Kd.N_nil _ _ _ _ _ | exact Kd.V_nil _ _ _ _ _ | exact Kd.Q_nil _ _ _ _ _ | exact Kd.S_nil _ _ _ _ _⟩, ⟨by exact HB.out⟩⟩
 case round =>
  clear H'; (try clear c1); obtain ⟨x3_1, x5_1, rfl, HA, HK1, HO_3, HB⟩ := hrel
  cases gk with
  | zero => exact absurd HA.out (by simp [nodeset_Nodes.l0])
  | succ k1 =>
   have H := HA.out; clear HA; simp only [nodeset_Nodes.l0] at H
   by_cases c2 : x5_1 < 10
   ·
    rw [if_pos c2] at H; have c2b0 : decide (x5_1 < 10) = true := decide_eq_true c2; clear c2; replace H := Option.bind_eq_some_iff.mp H; obtain ⟨t292, A30, H⟩ := H; replace H : (if t292 = true then (if x3_1.length < 17592186044416 then (nodeset_Nodes.l0 k1 a0 (x3_1 ++ [x5_1]) (wrap64 (x5_1 + 1))) else (none)) else (nodeset_Nodes.l0 k1 a0 x3_1 (wrap64 (x5_1 + 1)))) = some r := H; have A3 := am A30; clear A30
    by_cases c4 : t292 = true
    ·
     subst c4; have H1 : (if x3_1.length < 17592186044416 then (nodeset_Nodes.l0 k1 a0 (x3_1 ++ [x5_1]) (wrap64 (x5_1 + 1))) else (none)) = some r := by rw [if_pos rfl] at H; exact H
     clear H; have H := H1; clear H1
     by_cases c5 : x3_1.length < 17592186044416
     ·
      rw [if_pos c5] at H; have LMc5 := am c5; clear c5; obtain ⟨y293, hy293⟩ : ∃ y_ : List Int, y_ = (x3_1 ++ [x5_1]) := ⟨_, rfl⟩; replace H : (nodeset_Nodes.l0 k1 a0 y293 (wrap64 (x5_1 + 1))) = some r := by first | (rw [hy293]; with_reducible exact H) | (have H2_ := (Option.bind_some _ _).symm.trans H; rw [hy293]; with_reducible exact H2_) | (have H2_ := (Option.bind_some _ _).symm.trans H; with_reducible exact H2_) | with_reducible exact H | (rw [hy293]; exact H) | exact H
      have Ny293 := am hy293; clear hy293; have H' := am H; clear H
      go_wp2_with (first | (refine gA (some 10) Try.func49 #[.int .i64 a0, .int .i64 x5_1] ?_; (with_reducible refine (nodeset_Has.calls a0 x5_1 true _ A3.out).mono ?_); rintro e w' ⟨rfl, ⟨nd, rfl⟩⟩; refine ⟨_, rfl, ?_⟩) | ((with_reducible refine gate_builtin (b := .append) (xs := #[.tmp 11, .tmp 13]) rfl ?_); at_builtin; refine Kd.R_append (Kd.int .i64) (w0 := w) w.heap.size rfl (.tmp 11) (.tmp 13) 22 3 (.int .i64 0) 8 rfl Try.underlying22 info3 rfl (by decide) (by omega) u3 x3_1 x5_1 [.int .i64 x5_1] (fun _ => True) (fun _ => False) rfl rfl ?aP (fun _ hk => hk.elim) ?aF ?aO ?aB ?aS ?aL ?_; (case aP => exact rfl); (case aB => exact cl4); (case aF => exact (fun _ _ => trivial)); (case aO => exact (pR HO_3)); (case aS => exact (below_size cl4)); (case aL => have := LMc5.out; omega); intro v294 w6 ho hb hg hat; rw [← Ny293.out] at ho; replace HB := am (hb); have HO295 := am (ho); clear HO_3; clear ho hb hg hat))
      go_roundg k1
      case measure => have := HK1.out; omega
      case rel => exact ⟨(y293), (wrap64 (x5_1 + 1)), ar, H', ⟨by have := HK1.out; omega⟩, ⟨by exact HO295.out⟩, ⟨by exact HB.out⟩⟩
     ·
      rw [if_neg c5] at H; exact absurd H (by simp)
    ·
     replace c4 := Bool.eq_false_iff.mpr c4; subst c4; have H1 : (nodeset_Nodes.l0 k1 a0 x3_1 (wrap64 (x5_1 + 1))) = some r := by rw [if_neg (show ¬ (false = true) by decide)] at H; exact H
     clear H; have H := H1; clear H1; have H' := am H; clear H
     go_wp2_with (first | (refine gA (some 10) Try.func49 #[.int .i64 a0, .int .i64 x5_1] ?_; (with_reducible refine (nodeset_Has.calls a0 x5_1 false _ A3.out).mono ?_); rintro e w' ⟨rfl, ⟨nd, rfl⟩⟩; refine ⟨_, rfl, ?_⟩))
     go_roundg k1
     case measure => have := HK1.out; omega
     case rel => exact ⟨(x3_1), (wrap64 (x5_1 + 1)), ar, H', ⟨by have := HK1.out; omega⟩, ⟨by exact HO_3.out⟩, ⟨cl4⟩⟩
   ·
    rw [if_neg c2] at H; have c2b0 : decide (x5_1 < 10) = false := decide_eq_false c2; clear c2; obtain rfl := Option.some.inj H
    go_wp2
    go_ret
    exact ⟨_, by first | rfl | (simp [errW_none, errW_some] <;> rfl) | (simp [*, errW_none, errW_some] <;> rfl), by exact HO_3.out, by exact HB.out⟩
/-! ### threshold_Satisfied: function 83 -/
mutual
def threshold_Satisfied.l0 : Nat → Int → Int → List Int → Int → Int → Int → List Int → List (S48) → Option (Bool)
  | 0, _, _, _, _, _, _, _, _ => none
  | k + 1, x1, x5, x14, x15, x16, x297000, x297001, x297002 => if x16 < x15 then (if 0 ≤ x16 then (if x16 < (x14.length : Int) then ((nodeset_Has.f x1 (rd x14 x16)).bind fun t299 => (if t299 = true then (threshold_Satisfied.l0 k x1 (wrap64 (x5 + 1)) x14 x15 (wrap64 (x16 + 1)) x297000 x297001 x297002) else (threshold_Satisfied.l0 k x1 x5 x14 x15 (wrap64 (x16 + 1)) x297000 x297001 x297002))) else (none)) else (none)) else (threshold_Satisfied.l1 k x1 x5 x297002 (x297002.length : Int) 0 x297000 x297001 x297002)
def threshold_Satisfied.l1 : Nat → Int → Int → List (S48) → Int → Int → Int → List Int → List (S48) → Option (Bool)
  | 0, _, _, _, _, _, _, _, _ => none
  | k + 1, x1, x5, x27, x28, x29, x297000, x297001, x297002 => if x29 < x28 then (if 0 ≤ x29 then (if x29 < (x27.length : Int) then ((threshold_Satisfied.f k ((rd_T48 x27 x29).f0) ((rd_T48 x27 x29).f1) ((rd_T48 x27 x29).f2) x1).bind fun t302 => (if t302 = true then (threshold_Satisfied.l1 k x1 (wrap64 (x5 + 1)) x27 x28 (wrap64 (x29 + 1)) x297000 x297001 x297002) else (threshold_Satisfied.l1 k x1 x5 x27 x28 (wrap64 (x29 + 1)) x297000 x297001 x297002))) else (none)) else (none)) else (some (decide (x5 ≥ x297000)))
def threshold_Satisfied.f : Nat → Int → List Int → List (S48) → Int → Option (Bool)
  | 0, _, _, _, _ => none
  | k + 1, a0_0, l0_1, l0_2, a1 => (nodeset_Valid.f a1).bind fun t297 => (if t297 = true then (threshold_Satisfied.l0 k a1 0 l0_1 (l0_1.length : Int) 0 a0_0 l0_1 l0_2) else (some false))
end
set_option maxHeartbeats 8000000 in
set_option maxRecDepth 100000 in
theorem threshold_Satisfied.calls (k : Nat) : ∀ (a0_0 : Int) (A0_1 : Option Addr) (c0_1 : Nat) (l0_1 : List Int) (A0_2 : Option Addr) (c0_2 : Nat) (l0_2 : List (S48)) (a1 : Int) (r : Bool) (w : World) (hr0_1 : Kd.C (Kd.int .i64) w A0_1 l0_1.length l0_1) (hc0_1 : l0_1.length ≤ c0_1) (hr0_2 : Kd.C k48 w A0_2 l0_2.length l0_2) (hc0_2 : l0_2.length ≤ c0_2) (h : threshold_Satisfied.f k a0_0 l0_1 l0_2 a1 = some r),
    Calls Try.prog 83 #[.agg #[.int .i64 a0_0, .slice A0_1 l0_1.length c0_1, .slice A0_2 l0_2.length c0_2], .int .i64 a1] w fun e w' => e = .returned (.bool r) ∧ Below w.heap.size w w' := by
 induction k using Nat.strongRecOn with
 | _ k ih =>
 intro a0_0 A0_1 c0_1 l0_1 A0_2 c0_2 l0_2 a1 r w hr0_1 hc0_1 hr0_2 hc0_2 h
 cases k with
 | zero => exact absurd h (by simp [threshold_Satisfied.f])
 | succ k =>
 simp only [threshold_Satisfied.f] at h; have hu48 := Try.underlying48; have HR0_1 := am hr0_1; have HC0_1 := am hc0_1; clear hr0_1 hc0_1; have HR0_2 := am hr0_2; have HC0_2 := am hc0_2; clear hr0_2 hc0_2; have HB := am (Below.refl w.heap.size w); have H : ((nodeset_Valid.f a1).bind fun t297 => (if t297 = true then (threshold_Satisfied.l0 k a1 0 l0_1 (l0_1.length : Int) 0 a0_0 l0_1 l0_2) else (some false))) = some r := h; clear h; replace H := Option.bind_eq_some_iff.mp H; obtain ⟨t297, A30, H⟩ := H; replace H : (if t297 = true then (threshold_Satisfied.l0 k a1 0 l0_1 (l0_1.length : Int) 0 a0_0 l0_1 l0_2) else (some false)) = some r := H; have A3 := am A30; clear A30
 by_cases c4 : t297 = true
 ·
  subst c4; have H1 : (threshold_Satisfied.l0 k a1 0 l0_1 (l0_1.length : Int) 0 a0_0 l0_1 l0_2) = some r := by rw [if_pos rfl] at H; exact H
  clear H; have H := H1; clear H1; have H' := am H; clear H
  go_enter Try.func83, Try.ntmps83
  go_wp2_with (first | (refine bx 2 #[.int .i64 a0_0, .slice A0_1 l0_1.length c0_1, .slice A0_2 l0_2.length c0_2] 48 HB.out ?_; intro gb296 hg w5 BK296 GE296 hb; replace HB := bs HB hb; clear hb hg) | (refine gA (some 11) Try.func47 #[.int .i64 a1] ?_; (with_reducible refine (nodeset_Valid.calls a1 true _ A3.out).mono ?_); rintro e w' ⟨rfl, ⟨nd, rfl⟩⟩; refine ⟨_, rfl, ?_⟩; have hcz6_0 : w5.cell? ⟨gb296, 0, none⟩ = some (.int .i64 a0_0) := (blk_cell BK296.out 0).trans rfl; have hcz6_1 : w5.cell? ⟨gb296, 1, none⟩ = some (.slice A0_1 l0_1.length c0_1) := (blk_cell BK296.out 1).trans rfl; have hcz6_2 : w5.cell? ⟨gb296, 2, none⟩ = some (.slice A0_2 l0_2.length c0_2) := (blk_cell BK296.out 2).trans rfl; have hfz6_0 := blk_frozen BK296.out 0; have hfz6_1 := blk_frozen BK296.out 1; have hfz6_2 := blk_frozen BK296.out 2))
  go_loopg [5, 16] k (fun kq v5 v16 w' => ∃ (x5_1 : Int) (x16_1 : Int), v5 = .int .i64 x5_1 ∧ v16 = .int .i64 x16_1 ∧ Aside0 (threshold_Satisfied.l0 kq a1 x5_1 l0_1 (l0_1.length : Int) x16_1 a0_0 l0_1 l0_2 = some r) ∧ Aside0 (kq ≤ k) ∧ Aside0 (w'.heap[gb296]? = some (.cells #[.int .i64 a0_0, (.slice A0_1 l0_1.length c0_1), (.slice A0_2 l0_2.length c0_2)] 48 (0, 0))) ∧ Aside0 (Below w.heap.size w w'))
  case atStart => exact ⟨(0), (0), ar, ar, H', ⟨Nat.le_refl _⟩, ⟨by exact BK296.out⟩, ⟨cl0⟩⟩
  case round =>
   clear H'; (try clear p2); (try clear c4); (try clear p6); (try clear hcz6_0 hcz6_1 hcz6_2 hfz6_0 hfz6_1 hfz6_2); obtain ⟨x5_1, x16_1, rfl, rfl, HA, HK1, BK296, HB⟩ := hrel
   cases gk with
   | zero => exact absurd HA.out (by simp [threshold_Satisfied.l0])
   | succ k1 =>
    have H := HA.out; clear HA; simp only [threshold_Satisfied.l0] at H
    by_cases c7 : x16_1 < (l0_1.length : Int)
    ·
     rw [if_pos c7] at H; have c7b0 : decide (x16_1 < (l0_1.length : Int)) = true := decide_eq_true c7; clear c7
     by_cases c8 : 0 ≤ x16_1
     ·
      rw [if_pos c8] at H; have c8b0 : decide (0 ≤ x16_1) = true := decide_eq_true c8; clear c8
      by_cases c9 : x16_1 < (l0_1.length : Int)
      ·
       rw [if_pos c9] at H; have c9b0 : decide (x16_1 < (l0_1.length : Int)) = true := decide_eq_true c9; clear c9; replace H := Option.bind_eq_some_iff.mp H; obtain ⟨t299, A100, H⟩ := H; replace H : (if t299 = true then (threshold_Satisfied.l0 k1 a1 (wrap64 (x5_1 + 1)) l0_1 (l0_1.length : Int) (wrap64 (x16_1 + 1)) a0_0 l0_1 l0_2) else (threshold_Satisfied.l0 k1 a1 x5_1 l0_1 (l0_1.length : Int) (wrap64 (x16_1 + 1)) a0_0 l0_1 l0_2)) = some r := H; have A10 := am A100; clear A100
       by_cases c11 : t299 = true
       ·
        subst c11; have H1 : (threshold_Satisfied.l0 k1 a1 (wrap64 (x5_1 + 1)) l0_1 (l0_1.length : Int) (wrap64 (x16_1 + 1)) a0_0 l0_1 l0_2) = some r := by rw [if_pos rfl] at H; exact H
        clear H; have H := H1; clear H1; have H' := am H; clear H; have p298 : 0 ≤ (x16_1 : Int) := od; have q298 : x16_1 < (l0_1.length : Int) := od; obtain ⟨ad298, e298, hx298_0⟩ := Kd.at_int HR0_1.out x16_1 p298 q298
        cases e298
        replace hx298_0 := (HB.out.cell (World.block_lt_of_cell? w _ hx298_0)).trans hx298_0; replace p298 := eq_true p298; replace q298 := eq_true q298
        go_wp2_with (first | (refine gA (some 22) Try.func49 #[.int .i64 a1, .int .i64 (rd l0_1 x16_1)] ?_; (with_reducible refine (nodeset_Has.calls a1 (rd l0_1 x16_1) true _ A10.out).mono ?_); rintro e w' ⟨rfl, ⟨nd, rfl⟩⟩; refine ⟨_, rfl, ?_⟩))
        go_roundg k1
        case measure => have := HK1.out; omega
        case rel => exact ⟨(wrap64 (x5_1 + 1)), (wrap64 (x16_1 + 1)), ar, ar, H', ⟨by have := HK1.out; omega⟩, ⟨by exact BK296.out⟩, ⟨cl0⟩⟩
       ·
        replace c11 := Bool.eq_false_iff.mpr c11; subst c11; have H1 : (threshold_Satisfied.l0 k1 a1 x5_1 l0_1 (l0_1.length : Int) (wrap64 (x16_1 + 1)) a0_0 l0_1 l0_2) = some r := by rw [if_neg (show ¬ (false = true) by decide)] at H; exact H
        clear H; have H := H1; clear H1; have H' := am H; clear H; have p298 : 0 ≤ (x16_1 : Int) := od; have q298 : x16_1 < (l0_1.length : Int) := od; obtain ⟨ad298, e298, hx298_0⟩ := Kd.at_int HR0_1.out x16_1 p298 q298
        cases e298
        replace hx298_0 := (HB.out.cell (World.block_lt_of_cell? w _ hx298_0)).trans hx298_0; replace p298 := eq_true p298; replace q298 := eq_true q298
        go_wp2_with (first | (refine gA (some 22) Try.func49 #[.int .i64 a1, .int .i64 (rd l0_1 x16_1)] ?_; (with_reducible refine (nodeset_Has.calls a1 (rd l0_1 x16_1) false _ A10.out).mono ?_); rintro e w' ⟨rfl, ⟨nd, rfl⟩⟩; refine ⟨_, rfl, ?_⟩))
        go_roundg k1
        case measure => have := HK1.out; omega
        case rel => exact ⟨(x5_1), (wrap64 (x16_1 + 1)), ar, ar, H', ⟨by have := HK1.out; omega⟩, ⟨by exact BK296.out⟩, ⟨cl0⟩⟩
      ·
       rw [if_neg c9] at H; exact absurd H (by simp)
     ·
      rw [if_neg c8] at H; exact absurd H (by simp)
    ·
     rw [if_neg c7] at H; have c7b0 : decide (x16_1 < (l0_1.length : Int)) = false := decide_eq_false c7; clear c7; have H' := am H; clear H; obtain ⟨hcz12_0, hcz12_1, hcz12_2, hfz12_0, hfz12_1, hfz12_2⟩ := blkC3 BK296.out
     go_wp2
     go_loopg [5, 29] k1 (fun kq v5 v29 w' => ∃ (x5_2 : Int) (x29_2 : Int), v5 = .int .i64 x5_2 ∧ v29 = .int .i64 x29_2 ∧ Aside0 (threshold_Satisfied.l1 kq a1 x5_2 l0_2 (l0_2.length : Int) x29_2 a0_0 l0_1 l0_2 = some r) ∧ Aside0 (kq ≤ k1) ∧ Aside0 (w'.heap[gb296]? = some (.cells #[.int .i64 a0_0, (.slice A0_1 l0_1.length c0_1), (.slice A0_2 l0_2.length c0_2)] 48 (0, 0))) ∧ Aside0 (Below w.heap.size w w'))
     case atStart => exact ⟨(x5_1), (0), ar, ar, H', ⟨Nat.le_refl _⟩, ⟨by exact BK296.out⟩, ⟨by exact HB.out⟩⟩
     case round =>
      clear H'; (try clear c1); (try clear p2); (try clear q2); (try clear hx2); (try clear c4); (try clear p6); (try clear c7); (try clear c7b0); (try clear c8); (try clear c8b0); (try clear c9); (try clear c9b0); (try clear c11); (try clear hcz12_0 hcz12_1 hcz12_2); (try clear hcz6_0 hcz6_1 hcz6_2); (try clear hfz12_0 hfz12_1 hfz12_2); (try clear hfz6_0 hfz6_1 hfz6_2); (try clear hx298_0); (try clear p2); (try clear p298); (try clear p6); (try clear q298); obtain ⟨x5_2, x29_2, rfl, rfl, HA, HK2, BK296, HB⟩ := hrel
      cases gk with
      | zero => exact absurd HA.out (by simp [threshold_Satisfied.l1])
      | succ k2 =>
       have H := HA.out; clear HA; simp only [threshold_Satisfied.l1] at H
       by_cases c13 : x29_2 < (l0_2.length : Int)
       ·
        rw [if_pos c13] at H; have c13b0 : decide (x29_2 < (l0_2.length : Int)) = true := decide_eq_true c13; clear c13
        by_cases c14 : 0 ≤ x29_2
        ·
         rw [if_pos c14] at H; have c14b0 : decide (0 ≤ x29_2) = true := decide_eq_true c14; clear c14
         by_cases c15 : x29_2 < (l0_2.length : Int)
         ·
          rw [if_pos c15] at H; have c15b0 : decide (x29_2 < (l0_2.length : Int)) = true := decide_eq_true c15; clear c15; replace H := Option.bind_eq_some_iff.mp H; obtain ⟨t302, A160, H⟩ := H; replace H : (if t302 = true then (threshold_Satisfied.l1 k2 a1 (wrap64 (x5_2 + 1)) l0_2 (l0_2.length : Int) (wrap64 (x29_2 + 1)) a0_0 l0_1 l0_2) else (threshold_Satisfied.l1 k2 a1 x5_2 l0_2 (l0_2.length : Int) (wrap64 (x29_2 + 1)) a0_0 l0_1 l0_2)) = some r := H; have A16 := am A160; clear A160
          by_cases c17 : t302 = true
          ·
           subst c17; have H1 : (threshold_Satisfied.l1 k2 a1 (wrap64 (x5_2 + 1)) l0_2 (l0_2.length : Int) (wrap64 (x29_2 + 1)) a0_0 l0_1 l0_2) = some r := by rw [if_pos rfl] at H; exact H
           clear H; have H := H1; clear H1; have H' := am H; clear H; have p300 : 0 ≤ (x29_2 : Int) := od; have q300 : x29_2 < (l0_2.length : Int) := od; obtain ⟨ad300, A300_1, c300_1, A300_2, c300_2, e300, hx300_0, hx300_1, hx300_2, hl300_1, hi300_1, hl300_2, hi300_2⟩ := at_T48 HR0_2.out x29_2 p300 q300
           cases e300
           replace hx300_0 := (HB.out.cell (World.block_lt_of_cell? w _ hx300_0)).trans hx300_0; replace hx300_1 := (HB.out.cell (World.block_lt_of_cell? w _ hx300_1)).trans hx300_1; replace hx300_2 := (HB.out.cell (World.block_lt_of_cell? w _ hx300_2)).trans hx300_2; have HR300_1 := am hi300_1; have HC300_1 := am hl300_1; clear hi300_1 hl300_1; have HR300_2 := am hi300_2; have HC300_2 := am hl300_2; clear hi300_2 hl300_2; replace p300 := eq_true p300; replace q300 := eq_true q300
           go_wp2_with (first | (refine bx 9 #[.int .i64 0, .slice none 0 0, .slice none 0 0] 48 HB.out ?_; intro gb301 hg w18 BK301 GE301 hb; replace HB := bs HB hb; have NB296_301 := nl hg BK296; have NB301_296 := ng hg BK296; replace BK296 := bb BK296 hb; clear hb hg; have hnb19 := NB301_296.out; have hnc19 := NB296_301.out; obtain ⟨hcz20_0, hcz20_1, hcz20_2, hfz20_0, hfz20_1, hfz20_2⟩ := blkC3 BK301.out) | (refine gA (some 35) Try.func83 #[.agg #[.int .i64 ((rd_T48 l0_2 x29_2).f0), .slice A300_1 ((rd_T48 l0_2 x29_2).f1).length c300_1, .slice A300_2 ((rd_T48 l0_2 x29_2).f2).length c300_2], .int .i64 a1] ?_; (with_reducible refine (ih k2 (by have := HK1.out; have := HK2.out; omega) ((rd_T48 l0_2 x29_2).f0) _ _ ((rd_T48 l0_2 x29_2).f1) _ _ ((rd_T48 l0_2 x29_2).f2) a1 true _ (Kd.C_below HR300_1.out cl0) HC300_1.out (Kd.C_below HR300_2.out cl0) HC300_2.out A16.out).mono ?_); rintro e w21 ⟨rfl, hb⟩; refine ⟨_, rfl, ?_⟩; replace BK296 := am (blk_below (g := gb296) (o := .cells #[.int .i64 a0_0, .slice A0_1 l0_1.length c0_1, .slice (some ad300) l0_2.length c0_2] 48 (0, 0)) bo hb); replace BK301 := am (blk_below (g := gb301) (o := .cells #[.int .i64 ((rd_T48 l0_2 x29_2).f0), .slice A300_1 ((rd_T48 l0_2 x29_2).f1).length c300_1, .slice A300_2 ((rd_T48 l0_2 x29_2).f2).length c300_2] 48 (0, 0)) bo hb); replace HB := am (below_step (kw HB cl0) hb); (try clear hb); (try clear hi)))
           go_roundg k2
           case measure => have := HK1.out; have := HK2.out; omega
           case rel => exact ⟨(wrap64 (x5_2 + 1)), (wrap64 (x29_2 + 1)), ar, ar, H', ⟨by have := HK1.out; have := HK2.out; omega⟩, ⟨by exact BK296.out⟩, ⟨by exact HB.out⟩⟩
          ·
           replace c17 := Bool.eq_false_iff.mpr c17; subst c17; have H1 : (threshold_Satisfied.l1 k2 a1 x5_2 l0_2 (l0_2.length : Int) (wrap64 (x29_2 + 1)) a0_0 l0_1 l0_2) = some r := by rw [if_neg (show ¬ (false = true) by decide)] at H; exact H
           clear H; have H := H1; clear H1; have H' := am H; clear H; have p300 : 0 ≤ (x29_2 : Int) := od; have q300 : x29_2 < (l0_2.length : Int) := od; obtain ⟨ad300, A300_1, c300_1, A300_2, c300_2, e300, hx300_0, hx300_1, hx300_2, hl300_1, hi300_1, hl300_2, hi300_2⟩ := at_T48 HR0_2.out x29_2 p300 q300
           cases e300
           replace hx300_0 := (HB.out.cell (World.block_lt_of_cell? w _ hx300_0)).trans hx300_0; replace hx300_1 := (HB.out.cell (World.block_lt_of_cell? w _ hx300_1)).trans hx300_1; replace hx300_2 := (HB.out.cell (World.block_lt_of_cell? w _ hx300_2)).trans hx300_2; have HR300_1 := am hi300_1; have HC300_1 := am hl300_1; clear hi300_1 hl300_1; have HR300_2 := am hi300_2; have HC300_2 := am hl300_2; clear hi300_2 hl300_2; replace p300 := eq_true p300; replace q300 := eq_true q300
           go_wp2_with (first | (refine bx 9 #[.int .i64 0, .slice none 0 0, .slice none 0 0] 48 HB.out ?_; intro gb301 hg w22 BK301 GE301 hb; replace HB := bs HB hb; have NB296_301 := nl hg BK296; have NB301_296 := ng hg BK296; replace BK296 := bb BK296 hb; clear hb hg; have hnb23 := NB301_296.out; have hnc23 := NB296_301.out; obtain ⟨hcz24_0, hcz24_1, hcz24_2, hfz24_0, hfz24_1, hfz24_2⟩ := blkC3 BK301.out) | (refine gA (some 35) Try.func83 #[.agg #[.int .i64 ((rd_T48 l0_2 x29_2).f0), .slice A300_1 ((rd_T48 l0_2 x29_2).f1).length c300_1, .slice A300_2 ((rd_T48 l0_2 x29_2).f2).length c300_2], .int .i64 a1] ?_; (with_reducible refine (ih k2 (by have := HK1.out; have := HK2.out; omega) ((rd_T48 l0_2 x29_2).f0) _ _ ((rd_T48 l0_2 x29_2).f1) _ _ ((rd_T48 l0_2 x29_2).f2) a1 false _ (Kd.C_below HR300_1.out cl0) HC300_1.out (Kd.C_below HR300_2.out cl0) HC300_2.out A16.out).mono ?_); rintro e w25 ⟨rfl, hb⟩; refine ⟨_, rfl, ?_⟩; replace BK296 := am (blk_below (g := gb296) (o := .cells #[.int .i64 a0_0, .slice A0_1 l0_1.length c0_1, .slice (some ad300) l0_2.length c0_2] 48 (0, 0)) bo hb); replace BK301 := am (blk_below (g := gb301) (o := .cells #[.int .i64 ((rd_T48 l0_2 x29_2).f0), .slice A300_1 ((rd_T48 l0_2 x29_2).f1).length c300_1, .slice A300_2 ((rd_T48 l0_2 x29_2).f2).length c300_2] 48 (0, 0)) bo hb); replace HB := am (below_step (kw HB cl0) hb); (try clear hb); (try clear hi)))
           go_roundg k2
           case measure => have := HK1.out; have := HK2.out; omega
           case rel => exact ⟨(x5_2), (wrap64 (x29_2 + 1)), ar, ar, H', ⟨by have := HK1.out; have := HK2.out; omega⟩, ⟨by exact BK296.out⟩, ⟨by exact HB.out⟩⟩
         ·
          rw [if_neg c15] at H; exact absurd H (by simp)
        ·
         rw [if_neg c14] at H; exact absurd H (by simp)
       ·
        rw [if_neg c13] at H; have c13b0 : decide (x29_2 < (l0_2.length : Int)) = false := decide_eq_false c13; clear c13; obtain rfl := Option.some.inj H; obtain ⟨hcz26_0, hcz26_1, hcz26_2, hfz26_0, hfz26_1, hfz26_2⟩ := blkC3 BK296.out
        go_wp2
        go_ret
        exact ⟨er, by exact HB.out⟩
 ·
  replace c4 := Bool.eq_false_iff.mpr c4; subst c4; have H1 : (some false) = some r := by rw [if_neg (show ¬ (false = true) by decide)] at H; exact H
  clear H; have H := H1; clear H1; obtain rfl := Option.some.inj H
  go_enter Try.func83, Try.ntmps83
  go_wp2_with (first | (refine bx 2 #[.int .i64 a0_0, .slice A0_1 l0_1.length c0_1, .slice A0_2 l0_2.length c0_2] 48 HB.out ?_; intro gb296 hg w27 BK296 GE296 hb; replace HB := bs HB hb; clear hb hg) | (refine gA (some 11) Try.func47 #[.int .i64 a1] ?_; (with_reducible refine (nodeset_Valid.calls a1 false _ A3.out).mono ?_); rintro e w' ⟨rfl, ⟨nd, rfl⟩⟩; refine ⟨_, rfl, ?_⟩))
  go_ret
  exact ⟨er, cl0⟩
/-! ### closure_content: function 126 -/
def closure_content.f (k : Nat) (l0_0 : List (S54)) (a1 : Int) (a2 : Int) : Option (Bool) := if 0 ≤ a1 then (if a1 < (l0_0.length : Int) then ((threshold_Satisfied.f k ((rd_T54 l0_0 a1).f1.f0) ((rd_T54 l0_0 a1).f1.f1) ((rd_T54 l0_0 a1).f1.f2) a2).bind fun t305 => (some t305)) else (none)) else (none)
set_option maxHeartbeats 8000000 in
set_option maxRecDepth 100000 in
theorem closure_content.calls (k : Nat) (A0_0 : Option Addr) (c0_0 : Nat) (l0_0 : List (S54)) (a1 : Int) (a2 : Int) (r : Bool) (w : World) (hr0_0 : Kd.C k54 w A0_0 l0_0.length l0_0) (hc0_0 : l0_0.length ≤ c0_0) (h : closure_content.f k l0_0 a1 a2 = some r) :
    Calls Try.prog 126 #[.agg #[.slice A0_0 l0_0.length c0_0], .int .i64 a1, .int .i64 a2] w fun e w' => e = .returned (.bool r) ∧ Below w.heap.size w w' := by
 have hu27 := Try.underlying27; have hu48 := Try.underlying48; have HR0_0 := am hr0_0; have HC0_0 := am hc0_0; clear hr0_0 hc0_0; have HB := am (Below.refl w.heap.size w); have H : (if 0 ≤ a1 then (if a1 < (l0_0.length : Int) then ((threshold_Satisfied.f k ((rd_T54 l0_0 a1).f1.f0) ((rd_T54 l0_0 a1).f1.f1) ((rd_T54 l0_0 a1).f1.f2) a2).bind fun t305 => (some t305)) else (none)) else (none)) = some r := h; clear h
 by_cases c4 : 0 ≤ a1
 ·
  rw [if_pos c4] at H; have c4b0 : decide (0 ≤ a1) = true := decide_eq_true c4; clear c4
  by_cases c5 : a1 < (l0_0.length : Int)
  ·
   rw [if_pos c5] at H; have c5b0 : decide (a1 < (l0_0.length : Int)) = true := decide_eq_true c5; clear c5; replace H := Option.bind_eq_some_iff.mp H; obtain ⟨t305, A60, H⟩ := H; replace H : (some t305) = some r := H; have A6 := am A60; clear A60; obtain rfl := Option.some.inj H
   go_enter Try.func126, Try.ntmps126
   go_wp2_with (first | (refine bx 3 #[.slice A0_0 l0_0.length c0_0] 27 HB.out ?_; intro gb303 hg w7 BK303 GE303 hb; replace HB := bs HB hb; clear hb hg; obtain ⟨hcz8_0, hfz8_0⟩ := blkC1 BK303.out; have p304 : 0 ≤ (a1 : Int) := od; have q304 : a1 < (l0_0.length : Int) := od; obtain ⟨ad304, A304_2, c304_2, A304_3, c304_3, e304, hx304_0, hx304_1, hx304_2, hx304_3, hl304_2, hi304_2, hl304_3, hi304_3⟩ := at_T54 HR0_0.out a1 p304 q304; cases e304; replace hx304_0 := (HB.out.cell (World.block_lt_of_cell? w _ hx304_0)).trans hx304_0; replace hx304_1 := (HB.out.cell (World.block_lt_of_cell? w _ hx304_1)).trans hx304_1; replace hx304_2 := (HB.out.cell (World.block_lt_of_cell? w _ hx304_2)).trans hx304_2; replace hx304_3 := (HB.out.cell (World.block_lt_of_cell? w _ hx304_3)).trans hx304_3; have HR304_2 := am hi304_2; have HC304_2 := am hl304_2; clear hi304_2 hl304_2; have HR304_3 := am hi304_3; have HC304_3 := am hl304_3; clear hi304_3 hl304_3; replace p304 := eq_true p304; replace q304 := eq_true q304) | (refine gA (some 14) Try.func83 #[.agg #[.int .i64 ((rd_T54 l0_0 a1).f1.f0), .slice A304_2 ((rd_T54 l0_0 a1).f1.f1).length c304_2, .slice A304_3 ((rd_T54 l0_0 a1).f1.f2).length c304_3], .int .i64 a2] ?_; (with_reducible refine (threshold_Satisfied.calls k ((rd_T54 l0_0 a1).f1.f0) _ _ ((rd_T54 l0_0 a1).f1.f1) _ _ ((rd_T54 l0_0 a1).f1.f2) a2 t305 _ (Kd.C_below HR304_2.out HB.out) HC304_2.out (Kd.C_below HR304_3.out HB.out) HC304_3.out A6.out).mono ?_); rintro e w9 ⟨rfl, hb⟩; refine ⟨_, rfl, ?_⟩; replace BK303 := bb BK303 hb; replace HB := bs HB hb; (try clear hb); (try clear hi)))
   go_ret
   exact ⟨er, by exact HB.out⟩
  ·
   rw [if_neg c5] at H; exact absurd H (by simp)
 ·
  rw [if_neg c4] at H; exact absurd H (by simp)
/-! ### closure_unhappy: function 108 -/
def closure_unhappy.l0 : Nat → Int → List Int → Int → Int → List (S54) → Option (Int × Bool)
  | 0, _, _, _, _, _ => none
  | k + 1, x1, x9, x10, x11, x307000 => if x11 < x10 then (if 0 ≤ x11 then (if x11 < (x9.length : Int) then ((closure_content.f k x307000 (rd x9 x11) x1).bind fun t311 => (if t311 = true then (closure_unhappy.l0 k x1 x9 x10 (wrap64 (x11 + 1)) x307000) else (some (rd x9 x11, true)))) else (none)) else (none)) else (some (0, false))
def closure_unhappy.f (k : Nat) (l0_0 : List (S54)) (a1 : Int) : Option (Int × Bool) := (nodeset_Nodes.f k a1).bind fun t307 => (closure_unhappy.l0 k a1 t307 (t307.length : Int) 0 l0_0)
set_option maxHeartbeats 8000000 in
set_option maxRecDepth 100000 in
theorem closure_unhappy.calls (k : Nat) (A0_0 : Option Addr) (c0_0 : Nat) (l0_0 : List (S54)) (a1 : Int) (r1 : Int) (r2 : Bool) (w : World) (hr0_0 : Kd.C k54 w A0_0 l0_0.length l0_0) (hc0_0 : l0_0.length ≤ c0_0) (h : closure_unhappy.f k l0_0 a1 = some (r1, r2)) :
    Calls Try.prog 108 #[.agg #[.slice A0_0 l0_0.length c0_0], .int .i64 a1] w fun e w' => e = .returned (.tuple #[.int .i64 r1, .bool r2]) ∧ Below w.heap.size w w' := by
 have hu27 := Try.underlying27; have HR0_0 := am hr0_0; have HC0_0 := am hc0_0; clear hr0_0 hc0_0; have HB := am (Below.refl w.heap.size w); have H : ((nodeset_Nodes.f k a1).bind fun t307 => (closure_unhappy.l0 k a1 t307 (t307.length : Int) 0 l0_0)) = some (r1, r2) := h; clear h; replace H := Option.bind_eq_some_iff.mp H; obtain ⟨t307, A30, H⟩ := H; replace H : (closure_unhappy.l0 k a1 t307 (t307.length : Int) 0 l0_0) = some (r1, r2) := H; have A3 := am A30; clear A30; have H' := am H; clear H
 go_enter Try.func108, Try.ntmps108
 go_wp2_with (first | (refine bx 2 #[.slice A0_0 l0_0.length c0_0] 27 HB.out ?_; intro gb306 hg w4 BK306 GE306 hb; replace HB := bs HB hb; clear hb hg) | (refine gA (some 9) Try.func125 #[.int .i64 a1] ?_; (with_reducible refine (nodeset_Nodes.calls k a1 t307 _ A3.out).mono ?_); rintro e w5 ⟨v308, rfl, ho0, hb⟩; refine ⟨_, rfl, ?_⟩; have HO309 := am (Kd.R_lower ho0 (below_size HB.out)); replace BK306 := bb BK306 hb; replace HB := bs HB hb; (try clear hb); (try clear ho0); obtain ⟨Ao6, co6, eo6⟩ := Kd.R_slice HO309.out; subst eo6))
 go_loopg [11] k (fun kq v11 w' => ∃ (x11_1 : Int), v11 = .int .i64 x11_1 ∧ Aside0 (closure_unhappy.l0 kq a1 t307 (t307.length : Int) x11_1 l0_0 = some (r1, r2)) ∧ Aside0 (kq ≤ k) ∧ Aside0 (Kd.R (Kd.int .i64) 3 w' w.heap.size (fun _ => True) (.slice Ao6 t307.length co6) t307) ∧ Aside0 (w'.heap[gb306]? = some (.cells #[(.slice A0_0 l0_0.length c0_0)] 27 (0, 0))) ∧ Aside0 (Below w.heap.size w w'))
 case atStart => exact ⟨(0), ar, H', ⟨Nat.le_refl _⟩, ⟨by exact HO309.out⟩, ⟨by exact BK306.out⟩, ⟨by exact HB.out⟩⟩
 case round =>
  clear H'; (try clear c1); (try clear p2); (try clear p6); obtain ⟨x11_1, rfl, HA, HK1, HO_9, BK306, HB⟩ := hrel
  cases gk with
  | zero => exact absurd HA.out (by simp [closure_unhappy.l0])
  | succ k1 =>
   have H := HA.out; clear HA; simp only [closure_unhappy.l0] at H
   by_cases c7 : x11_1 < (t307.length : Int)
   ·
    rw [if_pos c7] at H; have c7b0 : decide (x11_1 < (t307.length : Int)) = true := decide_eq_true c7; clear c7
    by_cases c8 : 0 ≤ x11_1
    ·
     rw [if_pos c8] at H; have c8b0 : decide (0 ≤ x11_1) = true := decide_eq_true c8; clear c8
     by_cases c9 : x11_1 < (t307.length : Int)
     ·
      rw [if_pos c9] at H; have c9b0 : decide (x11_1 < (t307.length : Int)) = true := decide_eq_true c9; clear c9; replace H := Option.bind_eq_some_iff.mp H; obtain ⟨t311, A100, H⟩ := H; replace H : (if t311 = true then (closure_unhappy.l0 k1 a1 t307 (t307.length : Int) (wrap64 (x11_1 + 1)) l0_0) else (some (rd t307 x11_1, true))) = some (r1, r2) := H; have A10 := am A100; clear A100
      by_cases c11 : t311 = true
      ·
       subst c11; have H1 : (closure_unhappy.l0 k1 a1 t307 (t307.length : Int) (wrap64 (x11_1 + 1)) l0_0) = some (r1, r2) := by rw [if_pos rfl] at H; exact H
       clear H; have H := H1; clear H1; have H' := am H; clear H; have p310 : 0 ≤ (x11_1 : Int) := od; have q310 : x11_1 < (t307.length : Int) := od; obtain ⟨ad310, e310, hx310_0⟩ := Kd.at_int (Kd.R_reads' HO_9.out).2.2 x11_1 p310 q310
       cases e310
       replace p310 := eq_true p310; replace q310 := eq_true q310; obtain ⟨hcz12_0, hfz12_0⟩ := blkC1 BK306.out
       go_wp2_with (first | (refine gA (some 18) Try.func126 #[.agg #[.slice A0_0 l0_0.length c0_0], .int .i64 (rd t307 x11_1), .int .i64 a1] ?_; (with_reducible refine (closure_content.calls k1 _ _ l0_0 (rd t307 x11_1) a1 true _ (Kd.C_below HR0_0.out HB.out) HC0_0.out A10.out).mono ?_); rintro e w13 ⟨rfl, hb⟩; refine ⟨_, rfl, ?_⟩; replace HO_9 := am (Kd.R_below HO_9.out hb); replace BK306 := bb BK306 hb; replace HB := bs HB hb; (try clear hb); (try clear hi)))
       go_roundg k1
       case measure => have := HK1.out; omega
       case rel => exact ⟨(wrap64 (x11_1 + 1)), ar, H', ⟨by have := HK1.out; omega⟩, ⟨by exact HO_9.out⟩, ⟨by exact BK306.out⟩, ⟨by exact HB.out⟩⟩
      ·
       replace c11 := Bool.eq_false_iff.mpr c11; subst c11; have H1 : (some (rd t307 x11_1, true)) = some (r1, r2) := by rw [if_neg (show ¬ (false = true) by decide)] at H; exact H
       clear H; have H := H1; clear H1; simp only [Option.some.injEq, Prod.mk.injEq] at H; obtain ⟨rfl, rfl⟩ := H; have p310 : 0 ≤ (x11_1 : Int) := od; have q310 : x11_1 < (t307.length : Int) := od; obtain ⟨ad310, e310, hx310_0⟩ := Kd.at_int (Kd.R_reads' HO_9.out).2.2 x11_1 p310 q310
       cases e310
       replace p310 := eq_true p310; replace q310 := eq_true q310; obtain ⟨hcz14_0, hfz14_0⟩ := blkC1 BK306.out
       go_wp2_with (first | (refine gA (some 18) Try.func126 #[.agg #[.slice A0_0 l0_0.length c0_0], .int .i64 (rd t307 x11_1), .int .i64 a1] ?_; (with_reducible refine (closure_content.calls k1 _ _ l0_0 (rd t307 x11_1) a1 false _ (Kd.C_below HR0_0.out HB.out) HC0_0.out A10.out).mono ?_); rintro e w15 ⟨rfl, hb⟩; refine ⟨_, rfl, ?_⟩; replace HO_9 := am (Kd.R_below HO_9.out hb); replace BK306 := bb BK306 hb; replace HB := bs HB hb; (try clear hb); (try clear hi)))
       go_ret2
       exact ⟨er, by exact HB.out⟩
     ·
      rw [if_neg c9] at H; exact absurd H (by simp)
    ·
     rw [if_neg c8] at H; exact absurd H (by simp)
   ·
    rw [if_neg c7] at H; have c7b0 : decide (x11_1 < (t307.length : Int)) = false := decide_eq_false c7; clear c7; simp only [Option.some.injEq, Prod.mk.injEq] at H; obtain ⟨rfl, rfl⟩ := H
    go_wp2
    go_ret2
    exact ⟨er, by exact HB.out⟩
/-! ### closure_eliminate: function 84 -/
def closure_eliminate.l0 : Nat → Int → List Int → List (S54) → Option (Int × List Int)
  | 0, _, _, _ => none
  | k + 1, x1, x6, x313000 => (closure_unhappy.f k x313000 x1).bind fun bt315 => (if bt315.2 = true then (if x6.length < 17592186044416 then (if 0 ≤ bt315.1 then (closure_eliminate.l0 k (Go.bits .andNot .i64 x1 (shl .i64 1 bt315.1)) (x6 ++ [bt315.1]) x313000) else (none)) else (none)) else (some (x1, x6)))
def closure_eliminate.f (k : Nat) (l0_0 : List (S54)) (a1 : Int) : Option (Int × List Int) := (nodeset_Valid.f a1).bind fun t313 => (if t313 = true then ((configuration_Declared.f k l0_0).bind fun t314 => (closure_eliminate.l0 k (Go.bits .and .i64 a1 t314) ([] : List Int) l0_0)) else (some (0, ([] : List Int))))
set_option maxHeartbeats 8000000 in
set_option maxRecDepth 100000 in
theorem closure_eliminate.calls (k : Nat) (A0_0 : Option Addr) (c0_0 : Nat) (l0_0 : List (S54)) (a1 : Int) (r1 : Int) (r2 : List Int) (w : World) (hr0_0 : Kd.C k54 w A0_0 l0_0.length l0_0) (hc0_0 : l0_0.length ≤ c0_0) (h : closure_eliminate.f k l0_0 a1 = some (r1, r2)) :
    Calls Try.prog 84 #[.agg #[.slice A0_0 l0_0.length c0_0], .int .i64 a1] w fun e w' => ∃ v1_ : Value, e = .returned (.tuple #[.int .i64 r1, v1_]) ∧ Kd.R (Kd.int .i64) 3 w' w.heap.size (fun _ => True) v1_ r2 ∧ Below w.heap.size w w' := by
 have hu27 := Try.underlying27; have HR0_0 := am hr0_0; have HC0_0 := am hc0_0; clear hr0_0 hc0_0; have HB := am (Below.refl w.heap.size w); have H : ((nodeset_Valid.f a1).bind fun t313 => (if t313 = true then ((configuration_Declared.f k l0_0).bind fun t314 => (closure_eliminate.l0 k (Go.bits .and .i64 a1 t314) ([] : List Int) l0_0)) else (some (0, ([] : List Int))))) = some (r1, r2) := h; clear h; replace H := Option.bind_eq_some_iff.mp H; obtain ⟨t313, A30, H⟩ := H; replace H : (if t313 = true then ((configuration_Declared.f k l0_0).bind fun t314 => (closure_eliminate.l0 k (Go.bits .and .i64 a1 t314) ([] : List Int) l0_0)) else (some (0, ([] : List Int)))) = some (r1, r2) := H; have A3 := am A30; clear A30
 by_cases c4 : t313 = true
 ·
  subst c4; have H1 : ((configuration_Declared.f k l0_0).bind fun t314 => (closure_eliminate.l0 k (Go.bits .and .i64 a1 t314) ([] : List Int) l0_0)) = some (r1, r2) := by rw [if_pos rfl] at H; exact H
  clear H; have H := H1; clear H1; replace H := Option.bind_eq_some_iff.mp H; obtain ⟨t314, A50, H⟩ := H; replace H : (closure_eliminate.l0 k (Go.bits .and .i64 a1 t314) ([] : List Int) l0_0) = some (r1, r2) := H; have A5 := am A50; clear A50; have H' := am H; clear H
  go_enter Try.func84, Try.ntmps84
  go_wp2_with (first | (refine bx 2 #[.slice A0_0 l0_0.length c0_0] 27 HB.out ?_; intro gb312 hg w6 BK312 GE312 hb; replace HB := bs HB hb; clear hb hg) | (refine gA (some 10) Try.func47 #[.int .i64 a1] ?_; (with_reducible refine (nodeset_Valid.calls a1 true _ A3.out).mono ?_); rintro e w' ⟨rfl, ⟨nd, rfl⟩⟩; refine ⟨_, rfl, ?_⟩; have hcz7_0 : w6.cell? ⟨gb312, 0, none⟩ = some (.slice A0_0 l0_0.length c0_0) := (blk_cell BK312.out 0).trans rfl; have hfz7_0 := blk_frozen BK312.out 0) | (refine gA (some 14) Try.func82 #[.agg #[.slice A0_0 l0_0.length c0_0]] ?_; (with_reducible refine (configuration_Declared.calls k _ _ l0_0 t314 _ ?side1 ?side2 A5.out).mono ?_); (case side1 => repeat (first | exact (Kd.C_below HR0_0.out cl0) | (with_reducible refine Kd.C_alloc ?_ _) | (with_reducible refine Kd.C_drewN ?_ _) | (with_reducible refine Kd.C_drew ?_))); (case side2 => exact HC0_0.out); rintro e w8 ⟨rfl, hb⟩; refine ⟨_, rfl, ?_⟩; replace BK312 := bw BK312 hb; replace HB := am (below_step (kw HB cl0) hb); (try clear hb); (try clear hi)))
  go_loopg [1, 6] k (fun kq v1 v6 w' => ∃ (x1_1 : Int) (x6_1 : List Int), v1 = .int .i64 x1_1 ∧ Aside0 (closure_eliminate.l0 kq x1_1 x6_1 l0_0 = some (r1, r2)) ∧ Aside0 (kq ≤ k) ∧ Aside0 (Kd.R (Kd.int .i64) 3 w' w.heap.size (fun _ => True) v6 x6_1) ∧ Aside0 (w'.heap[gb312]? = some (.cells #[(.slice A0_0 l0_0.length c0_0)] 27 (0, 0))) ∧ Aside0 (Below w.heap.size w w'))
  case atStart => exact ⟨(Go.bits .and .i64 a1 t314), (([] : List Int)), ar, H', ⟨Nat.le_refl _⟩, ⟨by first | exact Kd.R_nil _ _ _ _ _ | exact Kd.N_nil _ _ _ _ _ | exact Kd.V_nil _ _ _ _ _ | exact Kd.Q_nil _ _ _ _ _ | exact Kd.S_nil _ _ _ _ _⟩, ⟨by exact BK312.out⟩, ⟨by exact HB.out⟩⟩
  case round =>
   clear H'; (try clear p2); (try clear c4); (try clear p6); (try clear c8); (try clear hcz7_0 hfz7_0); obtain ⟨x1_1, x6_1, rfl, HA, HK1, HO_6, BK312, HB⟩ := hrel
   cases gk with
   | zero => exact absurd HA.out (by simp [closure_eliminate.l0])
   | succ k1 =>
    have H := HA.out; clear HA; simp only [closure_eliminate.l0] at H; replace H := Option.bind_eq_some_iff.mp H; obtain ⟨⟨t315, t316⟩, A90, H⟩ := H; replace H : (if t316 = true then (if x6_1.length < 17592186044416 then (if 0 ≤ t315 then (closure_eliminate.l0 k1 (Go.bits .andNot .i64 x1_1 (shl .i64 1 t315)) (x6_1 ++ [t315]) l0_0) else (none)) else (none)) else (some (x1_1, x6_1))) = some (r1, r2) := H; have A9 := am A90; clear A90
    by_cases c10 : t316 = true
    ·
     subst c10; have H1 : (if x6_1.length < 17592186044416 then (if 0 ≤ t315 then (closure_eliminate.l0 k1 (Go.bits .andNot .i64 x1_1 (shl .i64 1 t315)) (x6_1 ++ [t315]) l0_0) else (none)) else (none)) = some (r1, r2) := by rw [if_pos rfl] at H; exact H
     clear H; have H := H1; clear H1
     by_cases c11 : x6_1.length < 17592186044416
     ·
      rw [if_pos c11] at H; have LMc11 := am c11; clear c11; obtain ⟨y317, hy317⟩ : ∃ y_ : List Int, y_ = (x6_1 ++ [t315]) := ⟨_, rfl⟩; replace H : (if 0 ≤ t315 then (closure_eliminate.l0 k1 (Go.bits .andNot .i64 x1_1 (shl .i64 1 t315)) y317 l0_0) else (none)) = some (r1, r2) := by first | (rw [hy317]; with_reducible exact H) | (have H2_ := (Option.bind_some _ _).symm.trans H; rw [hy317]; with_reducible exact H2_) | (have H2_ := (Option.bind_some _ _).symm.trans H; with_reducible exact H2_) | with_reducible exact H | (rw [hy317]; exact H) | exact H
      have Ny317 := am hy317; clear hy317
      by_cases c12 : 0 ≤ t315
      ·
       rw [if_pos c12] at H; have c12b0 := eq_true c12; have c12b1 : decide (0 ≤ t315) = true := decide_eq_true c12; clear c12; obtain ⟨ji13, hji13⟩ : ∃ j_ : Int, (shl .i64 1 t315) = j_ := ⟨_, rfl⟩; replace H : (closure_eliminate.l0 k1 (Go.bits .andNot .i64 x1_1 (ji13)) y317 l0_0) = some (r1, r2) := by first | (rw [hji13] at H; exact H) | (simp only [hji13] at H ⊢; exact H)
       (try rw [hji13] at A9); have hji13_ : (IntKind.i64.wrap (1 * 2 ^ min t315.toNat 64)) = ji13 := hji13; have hji13z : t315 ≤ 64 → (IntKind.i64.wrap (1 * 2 ^ t315.toNat)) = ji13 := shl_small hji13; have hji13u : (IntKind.i64.wrap (2 ^ min t315.toNat 64)) = ji13 := by have h_ := hji13_; rw [Int.one_mul] at h_; exact h_
       have hji13v : t315 ≤ 64 → (IntKind.i64.wrap (2 ^ t315.toNat)) = ji13 := fun hle_ => by have h_ := hji13z hle_; rw [Int.one_mul] at h_; exact h_
       have hji13y : (wrap64 (1 * 2 ^ min t315.toNat 64)) = ji13 := (i64_w _).symm.trans hji13_; have hji13x : t315 ≤ 64 → (wrap64 (1 * 2 ^ t315.toNat)) = ji13 := fun h_ => (i64_w _).symm.trans (hji13z h_); have H' := am H; clear H; obtain ⟨hcz14_0, hfz14_0⟩ := blkC1 BK312.out
       go_wp2_with (first | (refine gA (some 19) Try.func108 #[.agg #[.slice A0_0 l0_0.length c0_0], .int .i64 x1_1] ?_; (with_reducible refine (closure_unhappy.calls k1 _ _ l0_0 x1_1 t315 true _ (Kd.C_below HR0_0.out HB.out) HC0_0.out A9.out).mono ?_); rintro e w15 ⟨rfl, hb⟩; refine ⟨_, rfl, ?_⟩; replace HO_6 := am (Kd.R_below HO_6.out hb); replace BK312 := bb BK312 hb; replace HB := bs HB hb; (try clear hb); (try clear hi)) | ((with_reducible refine gate_builtin (b := .append) (xs := #[.tmp 26, .tmp 28]) rfl ?_); at_builtin; refine Kd.R_append (Kd.int .i64) (w0 := w) w.heap.size rfl (.tmp 26) (.tmp 28) 22 3 (.int .i64 0) 8 rfl Try.underlying22 info3 rfl (by decide) (by omega) u6 x6_1 t315 [.int .i64 t315] (fun _ => True) (fun _ => False) rfl rfl ?aP (fun _ hk => hk.elim) ?aF ?aO ?aB ?aS ?aL ?_; (case aP => exact rfl); (case aB => exact HB.out); (case aF => exact (fun _ _ => trivial)); (case aO => exact HO_6.out); (case aS => exact (below_size HB.out)); (case aL => have := LMc11.out; omega); intro v318 w16 ho hb hg hat; rw [← Ny317.out] at ho; replace BK312 := am (blk_grown BK312.out hg (Kd.R_ne HO_6.out BK312.out (by decide))); replace HB := am (hb); have HO319 := am (ho); clear HO_6; clear ho hb hg hat))
       go_roundg k1
       case measure => have := HK1.out; omega
       case rel => exact ⟨(Go.bits .andNot .i64 x1_1 (ji13)), (y317), (by first | rfl | (simp; done) | (simp only [← hji13] <;> (first | rfl | simp)) | (simp [*]; done)), H', ⟨by have := HK1.out; omega⟩, ⟨by exact HO319.out⟩, ⟨by exact BK312.out⟩, ⟨by exact HB.out⟩⟩
      ·
       rw [if_neg c12] at H; exact absurd H (by simp)
     ·
      rw [if_neg c11] at H; exact absurd H (by simp)
    ·
     replace c10 := Bool.eq_false_iff.mpr c10; subst c10; have H1 : (some (x1_1, x6_1)) = some (r1, r2) := by rw [if_neg (show ¬ (false = true) by decide)] at H; exact H
     clear H; have H := H1; clear H1; simp only [Option.some.injEq, Prod.mk.injEq] at H; obtain ⟨rfl, rfl⟩ := H; obtain ⟨hcz17_0, hfz17_0⟩ := blkC1 BK312.out
     go_wp2_with (first | (refine gA (some 19) Try.func108 #[.agg #[.slice A0_0 l0_0.length c0_0], .int .i64 x1_1] ?_; (with_reducible refine (closure_unhappy.calls k1 _ _ l0_0 x1_1 t315 false _ (Kd.C_below HR0_0.out HB.out) HC0_0.out A9.out).mono ?_); rintro e w18 ⟨rfl, hb⟩; refine ⟨_, rfl, ?_⟩; replace HO_6 := am (Kd.R_below HO_6.out hb); replace BK312 := bb BK312 hb; replace HB := bs HB hb; (try clear hb); (try clear hi)))
     go_ret2
     exact ⟨_, by first | rfl | (simp [errW_none, errW_some] <;> rfl) | (simp [*, errW_none, errW_some] <;> rfl), by exact HO_6.out, by exact HB.out⟩
 ·
  replace c4 := Bool.eq_false_iff.mpr c4; subst c4; have H1 : (some (0, ([] : List Int))) = some (r1, r2) := by rw [if_neg (show ¬ (false = true) by decide)] at H; exact H
  clear H; have H := H1; clear H1; simp only [Option.some.injEq, Prod.mk.injEq] at H; obtain ⟨rfl, rfl⟩ := H
  go_enter Try.func84, Try.ntmps84
  go_wp2_with (first | (refine bx 2 #[.slice A0_0 l0_0.length c0_0] 27 HB.out ?_; intro gb312 hg w19 BK312 GE312 hb; replace HB := bs HB hb; clear hb hg) | (refine gA (some 10) Try.func47 #[.int .i64 a1] ?_; (with_reducible refine (nodeset_Valid.calls a1 false _ A3.out).mono ?_); rintro e w' ⟨rfl, ⟨nd, rfl⟩⟩; refine ⟨_, rfl, ?_⟩))
  go_ret2
  exact ⟨_, by first | rfl | (simp [errW_none, errW_some] <;> rfl) | (simp [*, errW_none, errW_some] <;> rfl), by first | exact Kd.R_nil _ _ _ _ _ | exact Kd.N_nil _ _ _ _ _ | exact Kd.V_nil _ _ _ _ _ | exact Kd.Q_nil _ _ _ _ _ | exact Kd.S_nil _ _ _ _ _, cl0⟩
/-! ### closure_Greatest: function 50 -/
def closure_Greatest.f (k : Nat) (l0_0 : List (S54)) (a1 : Int) : Option (Int) := (closure_eliminate.f k l0_0 a1).bind fun bt321 => (some bt321.1)
set_option maxHeartbeats 8000000 in
set_option maxRecDepth 100000 in
theorem closure_Greatest.calls (k : Nat) (A0_0 : Option Addr) (c0_0 : Nat) (l0_0 : List (S54)) (a1 : Int) (r : Int) (w : World) (hr0_0 : Kd.C k54 w A0_0 l0_0.length l0_0) (hc0_0 : l0_0.length ≤ c0_0) (h : closure_Greatest.f k l0_0 a1 = some r) :
    Calls Try.prog 50 #[.agg #[.slice A0_0 l0_0.length c0_0], .int .i64 a1] w fun e w' => e = .returned (.int .i64 r) ∧ Below w.heap.size w w' := by
 have hu27 := Try.underlying27; have HR0_0 := am hr0_0; have HC0_0 := am hc0_0; clear hr0_0 hc0_0; have HB := am (Below.refl w.heap.size w); have H : ((closure_eliminate.f k l0_0 a1).bind fun bt321 => (some bt321.1)) = some r := h; clear h; replace H := Option.bind_eq_some_iff.mp H; obtain ⟨⟨t321, t322⟩, A30, H⟩ := H; replace H : (some t321) = some r := H; have A3 := am A30; clear A30; obtain rfl := Option.some.inj H
 go_enter Try.func50, Try.ntmps50
 go_wp2_with (first | (refine bx 2 #[.slice A0_0 l0_0.length c0_0] 27 HB.out ?_; intro gb320 hg w4 BK320 GE320 hb; replace HB := bs HB hb; clear hb hg; obtain ⟨hcz5_0, hfz5_0⟩ := blkC1 BK320.out) | (refine gA (some 10) Try.func84 #[.agg #[.slice A0_0 l0_0.length c0_0], .int .i64 a1] ?_; (with_reducible refine (closure_eliminate.calls k _ _ l0_0 a1 t321 t322 _ (Kd.C_below HR0_0.out HB.out) HC0_0.out A3.out).mono ?_); rintro e w6 ⟨v323, rfl, ho0, hb⟩; refine ⟨_, rfl, ?_⟩; have HO324 := am (Kd.R_lower ho0 (below_size HB.out)); replace BK320 := bb BK320 hb; replace HB := bs HB hb; (try clear hb); (try clear ho0)))
 go_ret
 exact ⟨er, by exact HB.out⟩
/-! ### federated_Confirms: function 12 -/
def federated_Confirms.f (k : Nat) (l0_0 : List (S54)) (a1 : Int) (a2 : Int) : Option (Bool) := (closure_Greatest.f k l0_0 a2).bind fun t326 => ((nodeset_Has.f t326 a1).bind fun t327 => (some t327))
set_option maxHeartbeats 8000000 in
set_option maxRecDepth 100000 in
theorem federated_Confirms.calls (k : Nat) (A0_0 : Option Addr) (c0_0 : Nat) (l0_0 : List (S54)) (a1 : Int) (a2 : Int) (r : Bool) (w : World) (hr0_0 : Kd.C k54 w A0_0 l0_0.length l0_0) (hc0_0 : l0_0.length ≤ c0_0) (h : federated_Confirms.f k l0_0 a1 a2 = some r) :
    Calls Try.prog 12 #[.agg #[.slice A0_0 l0_0.length c0_0], .int .i64 a1, .int .i64 a2] w fun e w' => e = .returned (.bool r) ∧ Below w.heap.size w w' := by
 have hu27 := Try.underlying27; have HR0_0 := am hr0_0; have HC0_0 := am hc0_0; clear hr0_0 hc0_0; have HB := am (Below.refl w.heap.size w); have H : ((closure_Greatest.f k l0_0 a2).bind fun t326 => ((nodeset_Has.f t326 a1).bind fun t327 => (some t327))) = some r := h; clear h; replace H := Option.bind_eq_some_iff.mp H; obtain ⟨t326, A40, H⟩ := H; replace H : ((nodeset_Has.f t326 a1).bind fun t327 => (some t327)) = some r := H; have A4 := am A40; clear A40; replace H := Option.bind_eq_some_iff.mp H; obtain ⟨t327, A50, H⟩ := H; replace H : (some t327) = some r := H; have A5 := am A50; clear A50; obtain rfl := Option.some.inj H
 go_enter Try.func12, Try.ntmps12
 go_wp2_with (first | (refine bx 3 #[.slice A0_0 l0_0.length c0_0] 27 HB.out ?_; intro gb325 hg w6 BK325 GE325 hb; replace HB := bs HB hb; clear hb hg; obtain ⟨hcz7_0, hfz7_0⟩ := blkC1 BK325.out) | (refine gA (some 9) Try.func50 #[.agg #[.slice A0_0 l0_0.length c0_0], .int .i64 a2] ?_; (with_reducible refine (closure_Greatest.calls k _ _ l0_0 a2 t326 _ (Kd.C_below HR0_0.out HB.out) HC0_0.out A4.out).mono ?_); rintro e w8 ⟨rfl, hb⟩; refine ⟨_, rfl, ?_⟩; replace BK325 := bb BK325 hb; replace HB := bs HB hb; (try clear hb); (try clear hi)) | (refine gA (some 11) Try.func49 #[.int .i64 t326, .int .i64 a1] ?_; (with_reducible refine (nodeset_Has.calls t326 a1 t327 _ A5.out).mono ?_); rintro e w' ⟨rfl, ⟨nd, rfl⟩⟩; refine ⟨_, rfl, ?_⟩))
 go_ret
 exact ⟨er, cl0⟩
end Go.Proofs.Ytmeamdklonmahaa.QFederatedSafe
