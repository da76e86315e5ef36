/- Lean functions that answer as the Go functions do which the law reaches, and proofs that the Go code comes to exactly these answers. Conditions: those that each theorem names. -/
import Derived.Test.YtphndccgadblnaaQLeadersAnswersx0
import Derived.Test.YtphndccgadblnaaQLeadersAnswersx5
namespace Go.Proofs.Ytphndccgadblnaa.QLeadersAnswers
open Go.RowKit Go.Proofs.YtphndccgadblnaaW.PrintWords Go.Proofs.YtphndccgadblnaaW.PrintLast Go.Proofs.YtphndccgadblnaaW.PrintMore
attribute [local go_sem] max2_int min2_int max_two min_two max_three min_three max_four min_four   -- for this text's walks alone
set_option linter.unusedVariables false
set_option linter.unusedSimpArgs false

/-! ### slices_ContainsFunc_int_int__on_56: function 80 -/
def slices_ContainsFunc_int_int__on_56.f (k : Nat) (l0 : List Int)  : Option (Bool) := (slices_IndexFunc_int_int__on_56.f k l0).bind fun t212 => (some (decide (t212 ≥ 0)))
set_option maxHeartbeats 8000000 in
set_option maxRecDepth 100000 in
theorem slices_ContainsFunc_int_int__on_56.calls (k : Nat) (A0 : Option Addr) (c0 : Nat) (l0 : List Int)  (r : Bool) (w : World) (hr0 : Kd.C (Kd.int .i64) w A0 l0.length l0) (hc0 : l0.length ≤ c0) (h : slices_ContainsFunc_int_int__on_56.f k l0 = some r) :
    Calls Try.prog 55 #[.slice A0 l0.length c0, .func (.func 56) #[] #[]] w fun e w' => e = .returned (.bool r) ∧ Below w.heap.size w w' := by
 have HR0 := am hr0; have HC0 := am hc0; clear hr0 hc0; have HB := am (Below.refl w.heap.size w); have H : ((slices_IndexFunc_int_int__on_56.f k l0).bind fun t212 => (some (decide (t212 ≥ 0)))) = some r := h; clear h; replace H := Option.bind_eq_some_iff.mp H; obtain ⟨t212, A30, H⟩ := H; replace H : (some (decide (t212 ≥ 0))) = some r := H; have A3 := am A30; clear A30; obtain rfl := Option.some.inj H
 go_enter Try.func55, Try.ntmps55
 go_wp2_with (first | (refine gA (some 7) Try.func60 #[.slice A0 l0.length c0, .func (.func 56) #[] #[]] ?_; (with_reducible refine (slices_IndexFunc_int_int__on_56.calls k _ _ l0  t212 _ HR0.out HC0.out A3.out).mono ?_); rintro e w4 ⟨rfl, hb⟩; refine ⟨_, rfl, ?_⟩; replace HB := bs HB hb; (try clear hb); (try clear hi)))
 go_ret
 exact ⟨er, by exact HB.out⟩
/-! ### threshold_level: function 52 -/
mutual
def threshold_level.j0 : Nat → Bool → Int → List Int → List (S27) → Option (Int)
  | 0, _, _, _, _ => none
  | k + 1, x22, x214000, x214001, x214002 => if x22 = true then (some 4) else ((slices_ContainsFunc_int_int__on_56.f k x214001).bind fun t214 => (if t214 = true then (some 5) else ((nodeset_Of.f k x214001).bind fun bt215 => (if bt215.2 = 0 then (threshold_level.l0 k x214002 (x214002.length : Int) 0) else (some bt215.2)))))
def threshold_level.l0 : Nat → List (S27) → Int → Int → Option (Int)
  | 0, _, _, _ => none
  | k + 1, x36, x37, x38 => if x38 < x37 then (if 0 ≤ x38 then (if x38 < (x36.length : Int) then ((threshold_level.f k ((rd_T27 x36 x38).f0) ((rd_T27 x36 x38).f1) ((rd_T27 x36 x38).f2)).bind fun t219 => (if t219 = 0 then (threshold_level.l0 k x36 x37 (wrap64 (x38 + 1))) else (some t219))) else (none)) else (none)) else (some 0)
def threshold_level.f : Nat → Int → List Int → List (S27) → Option (Int)
  | 0, _, _, _ => none
  | k + 1, a0_0, l0_1, l0_2 => if a0_0 < 1 then (threshold_level.j0 k true a0_0 l0_1 l0_2) else (threshold_level.j0 k (decide (a0_0 > (wrap64 ((l0_1.length : Int) + (l0_2.length : Int))))) a0_0 l0_1 l0_2)
end
set_option maxHeartbeats 8000000 in
set_option maxRecDepth 100000 in
theorem threshold_level.calls (k : Nat) : ∀ (a0_0 : Int) (A0_1 : Option Addr) (c0_1 : Nat) (l0_1 : List Int) (A0_2 : Option Addr) (c0_2 : Nat) (l0_2 : List (S27)) (r : Int) (w : World) (hr0_1 : Kd.C (Kd.int .i64) w A0_1 l0_1.length l0_1) (hc0_1 : l0_1.length ≤ c0_1) (hr0_2 : Kd.C k27 w A0_2 l0_2.length l0_2) (hc0_2 : l0_2.length ≤ c0_2) (h : threshold_level.f k a0_0 l0_1 l0_2 = some r),
    Calls Try.prog 52 #[.agg #[.int .i64 a0_0, .slice A0_1 l0_1.length c0_1, .slice A0_2 l0_2.length c0_2]] w fun e w' => e = .returned (.int .i64 r) ∧ Below w.heap.size w w' := by
 induction k using Nat.strongRecOn with
 | _ k ih =>
 intro a0_0 A0_1 c0_1 l0_1 A0_2 c0_2 l0_2 r w hr0_1 hc0_1 hr0_2 hc0_2 h
 cases k with
 | zero => exact absurd h (by simp [threshold_level.f])
 | succ k =>
 simp only [threshold_level.f] at h; have hu27 := Try.underlying27; have HR0_1 := am hr0_1; have HC0_1 := am hc0_1; clear hr0_1 hc0_1; have HR0_2 := am hr0_2; have HC0_2 := am hc0_2; clear hr0_2 hc0_2; have HB := am (Below.refl w.heap.size w); have H : (if a0_0 < 1 then (threshold_level.j0 k true a0_0 l0_1 l0_2) else (threshold_level.j0 k (decide (a0_0 > (wrap64 ((l0_1.length : Int) + (l0_2.length : Int))))) a0_0 l0_1 l0_2)) = some r := h; clear h; have HC2 := am H; clear H
 go_enter Try.func52, Try.ntmps52
 go_upto_region 1 with (first | ((with_reducible refine gate_dst (N := 1) rfl ?_); (try (refine gate_guard (by rfl) ?_; dsimp only)); refine box_event ?hg (N := 1) ?hd (cs := #[.int .i64 a0_0, .slice A0_1 l0_1.length c0_1, .slice A0_2 l0_2.length c0_2]) (t := 27) ?hr ?_; (case hd => rfl); (case hg => rfl); (case hr => first | (go_simp; done) | (go_simp; rfl)); intro gb213 hg w3 hbox hb; have BK213 := am (hbox); have GW213 := am ((by rw [hg]; exact (below_size HB.out) : w.heap.size ≤ gb213)); have GE213 := am ((by rw [hg]; exact (below_size HB.out) : w.heap.size ≤ gb213)); replace HB := bs HB hb; clear hb hg))
 (try simp only [Act.put, List.setIfInBounds_toArray, List.set_cons_zero, List.set_cons_succ])
 go_cut [22] (fun v22 wc => ∃ (kq : Nat) (x22_1 : Bool), v22 = .bool x22_1 ∧ Aside0 (threshold_level.j0 kq x22_1 a0_0 l0_1 l0_2 = some r) ∧ Aside0 (kq ≤ k) ∧ Aside0 (wc.heap[gb213]? = some (.cells #[.int .i64 a0_0, (.slice A0_1 l0_1.length c0_1), (.slice A0_2 l0_2.length c0_2)] 27 (0, 0))) ∧ Aside0 (Below w.heap.size w wc))
 case first =>
  have H := HC2.out; clear HC2
  by_cases c4 : a0_0 < 1
  ·
   rw [if_pos c4] at H; have c4b0 : decide (a0_0 < 1) = true := decide_eq_true c4; clear c4; (first | rw [c4b0] | (simp only [i64_w, i32_w]; rw [c4b0]) | skip); have H' := am H; clear H; obtain ⟨hcz5_0, hcz5_1, hcz5_2, hfz5_0, hfz5_1, hfz5_2⟩ := blkC3 BK213.out
   go_wp2
   go_meet
   case rel => exact ⟨_, (true), ar, H', ⟨by first | omega | exact Nat.le_refl _⟩, ⟨by exact BK213.out⟩, ⟨by exact HB.out⟩⟩
  ·
   rw [if_neg c4] at H; have c4b0 : decide (a0_0 < 1) = false := decide_eq_false c4; clear c4; (first | rw [c4b0] | (simp only [i64_w, i32_w]; rw [c4b0]) | skip); have H' := am H; clear H; obtain ⟨hcz6_0, hcz6_1, hcz6_2, hfz6_0, hfz6_1, hfz6_2⟩ := blkC3 BK213.out
   go_wp2
   go_meet
   case rel => exact ⟨_, (decide (a0_0 > (wrap64 ((l0_1.length : Int) + (l0_2.length : Int))))), ar, H', ⟨by first | omega | exact Nat.le_refl _⟩, ⟨by exact BK213.out⟩, ⟨by exact HB.out⟩⟩
 case rest =>
  clear HC2; (try clear p2); (try clear c4); (try clear c4b0); (try clear c5); (try clear p6); (try clear hcz5_0 hcz5_1 hcz5_2); (try clear hcz6_0 hcz6_1 hcz6_2); (try clear hfz5_0 hfz5_1 hfz5_2); (try clear hfz6_0 hfz6_1 hfz6_2); obtain ⟨kq, x22_1, rfl, HA, HJ1, BK213, HB⟩ := hcut
  cases kq with
  | zero => exact absurd HA.out (by simp [threshold_level.j0])
  | succ kj1 =>
   have H := HA.out; clear HA; simp only [threshold_level.j0] at H
   by_cases c7 : x22_1 = true
   ·
    subst c7; have H1 : (some 4) = some r := by rw [if_pos rfl] at H; exact H
    clear H; have H := H1; clear H1; obtain rfl := Option.some.inj H
    go_wp2
    go_ret
    exact ⟨er, by exact HB.out⟩
   ·
    replace c7 := Bool.eq_false_iff.mpr c7; subst c7; have H1 : ((slices_ContainsFunc_int_int__on_56.f kj1 l0_1).bind fun t214 => (if t214 = true then (some 5) else ((nodeset_Of.f kj1 l0_1).bind fun bt215 => (if bt215.2 = 0 then (threshold_level.l0 kj1 l0_2 (l0_2.length : Int) 0) else (some bt215.2))))) = some r := by rw [if_neg (show ¬ (false = true) by decide)] at H; exact H
    clear H; have H := H1; clear H1; replace H := Option.bind_eq_some_iff.mp H; obtain ⟨t214, A80, H⟩ := H; replace H : (if t214 = true then (some 5) else ((nodeset_Of.f kj1 l0_1).bind fun bt215 => (if bt215.2 = 0 then (threshold_level.l0 kj1 l0_2 (l0_2.length : Int) 0) else (some bt215.2)))) = some r := H; have A8 := am A80; clear A80
    by_cases c9 : t214 = true
    ·
     subst c9; have H1 : (some 5) = some r := by rw [if_pos rfl] at H; exact H
     clear H; have H := H1; clear H1; obtain rfl := Option.some.inj H; obtain ⟨hcz10_0, hcz10_1, hcz10_2, hfz10_0, hfz10_1, hfz10_2⟩ := blkC3 BK213.out
     go_wp2_with (first | (refine gA (some 25) Try.func55 #[.slice A0_1 l0_1.length c0_1, .func (.func 56) #[] #[]] ?_; (with_reducible refine (slices_ContainsFunc_int_int__on_56.calls kj1 _ _ l0_1  true _ (Kd.C_below HR0_1.out HB.out) HC0_1.out A8.out).mono ?_); rintro e w11 ⟨rfl, hb⟩; refine ⟨_, rfl, ?_⟩; replace BK213 := bb BK213 hb; replace HB := bs HB hb; (try clear hb); (try clear hi)))
     go_ret
     exact ⟨er, by exact HB.out⟩
    ·
     replace c9 := Bool.eq_false_iff.mpr c9; subst c9; have H1 : ((nodeset_Of.f kj1 l0_1).bind fun bt215 => (if bt215.2 = 0 then (threshold_level.l0 kj1 l0_2 (l0_2.length : Int) 0) else (some bt215.2))) = some r := by rw [if_neg (show ¬ (false = true) by decide)] at H; exact H
     clear H; have H := H1; clear H1; replace H := Option.bind_eq_some_iff.mp H; obtain ⟨⟨t215, t216⟩, A120, H⟩ := H; replace H : (if t216 = 0 then (threshold_level.l0 kj1 l0_2 (l0_2.length : Int) 0) else (some t216)) = some r := H; have A12 := am A120; clear A120
     by_cases c13 : t216 = 0
     ·
      rw [if_pos c13] at H; have c13b0 : (t216 == 0) = true := beq_iff_eq.mpr c13; have c13b1 : (t216 != 0) = false := bne_eq_false_iff_eq.mpr c13; clear c13; have H' := am H; clear H; obtain ⟨hcz14_0, hcz14_1, hcz14_2, hfz14_0, hfz14_1, hfz14_2⟩ := blkC3 BK213.out
      go_wp2_with (first | (refine gA (some 25) Try.func55 #[.slice A0_1 l0_1.length c0_1, .func (.func 56) #[] #[]] ?_; (with_reducible refine (slices_ContainsFunc_int_int__on_56.calls kj1 _ _ l0_1  false _ (Kd.C_below HR0_1.out HB.out) HC0_1.out A8.out).mono ?_); rintro e w15 ⟨rfl, hb⟩; refine ⟨_, rfl, ?_⟩; replace BK213 := bb BK213 hb; replace HB := bs HB hb; (try clear hb); obtain ⟨hcz16_0, hcz16_1, hcz16_2, hfz16_0, hfz16_1, hfz16_2⟩ := blkC3 BK213.out) | (refine gA (some 29) Try.func58 #[.slice A0_1 l0_1.length c0_1] ?_; (with_reducible refine (nodeset_Of.calls kj1 _ _ l0_1 t215 t216 _ (Kd.C_below HR0_1.out HB.out) HC0_1.out A12.out).mono ?_); rintro e w' ⟨rfl, ⟨nd, rfl⟩⟩; refine ⟨_, rfl, ?_⟩))
      go_loopg [38] kj1 (fun kq v38 w' => ∃ (x38_2 : Int), v38 = .int .i64 x38_2 ∧ Aside0 (threshold_level.l0 kq l0_2 (l0_2.length : Int) x38_2 = some r) ∧ Aside0 (kq ≤ kj1) ∧ Aside0 (Below w.heap.size w w'))
      case atStart => exact ⟨(0), ar, H', ⟨Nat.le_refl _⟩, ⟨cl0⟩⟩
      case round =>
       clear H'; (try clear c1); (try clear p2); (try clear c4); (try clear c4b0); (try clear c5); (try clear p6); (try clear c7); (try clear c9); (try clear c13); (try clear c13b0); (try clear c13b1); (try clear hcz10_0 hcz10_1 hcz10_2); (try clear hcz14_0 hcz14_1 hcz14_2); (try clear hcz16_0 hcz16_1 hcz16_2); (try clear hcz5_0 hcz5_1 hcz5_2); (try clear hcz6_0 hcz6_1 hcz6_2); (try clear hfz10_0 hfz10_1 hfz10_2); (try clear hfz14_0 hfz14_1 hfz14_2); (try clear hfz16_0 hfz16_1 hfz16_2); (try clear hfz5_0 hfz5_1 hfz5_2); (try clear hfz6_0 hfz6_1 hfz6_2); (try clear p2); (try clear p6); obtain ⟨x38_2, rfl, HA, HK2, HB⟩ := hrel
       cases gk with
       | zero => exact absurd HA.out (by simp [threshold_level.l0])
       | succ k2 =>
        have H := HA.out; clear HA; simp only [threshold_level.l0] at H
        by_cases c17 : x38_2 < (l0_2.length : Int)
        ·
         rw [if_pos c17] at H; have c17b0 : decide (x38_2 < (l0_2.length : Int)) = true := decide_eq_true c17; clear c17
         by_cases c18 : 0 ≤ x38_2
         ·
          rw [if_pos c18] at H; have c18b0 : decide (0 ≤ x38_2) = true := decide_eq_true c18; clear c18
          by_cases c19 : x38_2 < (l0_2.length : Int)
          ·
           rw [if_pos c19] at H; have c19b0 : decide (x38_2 < (l0_2.length : Int)) = true := decide_eq_true c19; clear c19; replace H := Option.bind_eq_some_iff.mp H; obtain ⟨t219, A200, H⟩ := H; replace H : (if t219 = 0 then (threshold_level.l0 k2 l0_2 (l0_2.length : Int) (wrap64 (x38_2 + 1))) else (some t219)) = some r := H; have A20 := am A200; clear A200
           by_cases c21 : t219 = 0
           ·
            rw [if_pos c21] at H; have c21b0 : (t219 == 0) = true := beq_iff_eq.mpr c21; have c21b1 : (t219 != 0) = false := bne_eq_false_iff_eq.mpr c21; clear c21; have H' := am H; clear H; have p217 : 0 ≤ (x38_2 : Int) := od; have q217 : x38_2 < (l0_2.length : Int) := od; obtain ⟨ad217, A217_1, c217_1, A217_2, c217_2, e217, hx217_0, hx217_1, hx217_2, hl217_1, hi217_1, hl217_2, hi217_2⟩ := at_T27 HR0_2.out x38_2 p217 q217
            cases e217
            replace hx217_0 := (HB.out.cell (World.block_lt_of_cell? w _ hx217_0)).trans hx217_0; replace hx217_1 := (HB.out.cell (World.block_lt_of_cell? w _ hx217_1)).trans hx217_1; replace hx217_2 := (HB.out.cell (World.block_lt_of_cell? w _ hx217_2)).trans hx217_2; have HR217_1 := am hi217_1; have HC217_1 := am hl217_1; clear hi217_1 hl217_1; have HR217_2 := am hi217_2; have HC217_2 := am hl217_2; clear hi217_2 hl217_2; replace p217 := eq_true p217; replace q217 := eq_true q217
            go_wp2_with (first | ((with_reducible refine gate_dst (N := 6) rfl ?_); (try (refine gate_guard (by rfl) ?_; dsimp only)); refine box_event ?hg (N := 6) ?hd (cs := #[.int .i64 0, .slice none 0 0, .slice none 0 0]) (t := 27) ?hr ?_; (case hd => rfl); (case hg => rfl); (case hr => first | (go_simp; done) | (go_simp; rfl)); intro gb218 hg w22 hbox hb; have BK218 := am (hbox); have GW218 := am ((by rw [hg]; exact (below_size HB.out) : w.heap.size ≤ gb218)); have GE218 := am ((by rw [hg]; exact (below_size HB.out) : w.heap.size ≤ gb218)); replace HB := bs HB hb; clear hb hg; obtain ⟨hcz23_0, hcz23_1, hcz23_2, hfz23_0, hfz23_1, hfz23_2⟩ := blkC3 BK218.out) | (refine gA (some 43) Try.func52 #[.agg #[.int .i64 ((rd_T27 l0_2 x38_2).f0), .slice A217_1 ((rd_T27 l0_2 x38_2).f1).length c217_1, .slice A217_2 ((rd_T27 l0_2 x38_2).f2).length c217_2]] ?_; (with_reducible refine (ih k2 (by have := HJ1.out; have := HK2.out; omega) ((rd_T27 l0_2 x38_2).f0) _ _ ((rd_T27 l0_2 x38_2).f1) _ _ ((rd_T27 l0_2 x38_2).f2) t219 _ (Kd.C_below HR217_1.out cl0) HC217_1.out (Kd.C_below HR217_2.out cl0) HC217_2.out A20.out).mono ?_); rintro e w24 ⟨rfl, hb⟩; refine ⟨_, rfl, ?_⟩; replace BK218 := am (blk_below (g := gb218) (o := .cells #[.int .i64 ((rd_T27 l0_2 x38_2).f0), .slice A217_1 ((rd_T27 l0_2 x38_2).f1).length c217_1, .slice A217_2 ((rd_T27 l0_2 x38_2).f2).length c217_2] 27 (0, 0)) bo hb); replace HB := am (below_step (kw HB cl0) hb); (try clear hb); (try clear hi)))
            go_roundg k2
            case measure => have := HJ1.out; have := HK2.out; omega
            case rel => exact ⟨(wrap64 (x38_2 + 1)), ar, H', ⟨by have := HJ1.out; have := HK2.out; omega⟩, ⟨by exact HB.out⟩⟩
           ·
            rw [if_neg c21] at H; have c21b0 : (t219 == 0) = false := beq_eq_false_iff_ne.mpr c21; have c21b1 : (t219 != 0) = true := bne_iff_ne.mpr c21; obtain rfl := Option.some.inj H; have p217 : 0 ≤ (x38_2 : Int) := od; have q217 : x38_2 < (l0_2.length : Int) := od; obtain ⟨ad217, A217_1, c217_1, A217_2, c217_2, e217, hx217_0, hx217_1, hx217_2, hl217_1, hi217_1, hl217_2, hi217_2⟩ := at_T27 HR0_2.out x38_2 p217 q217
            cases e217
            replace hx217_0 := (HB.out.cell (World.block_lt_of_cell? w _ hx217_0)).trans hx217_0; replace hx217_1 := (HB.out.cell (World.block_lt_of_cell? w _ hx217_1)).trans hx217_1; replace hx217_2 := (HB.out.cell (World.block_lt_of_cell? w _ hx217_2)).trans hx217_2; have HR217_1 := am hi217_1; have HC217_1 := am hl217_1; clear hi217_1 hl217_1; have HR217_2 := am hi217_2; have HC217_2 := am hl217_2; clear hi217_2 hl217_2; replace p217 := eq_true p217; replace q217 := eq_true q217
            go_wp2_with (first | ((with_reducible refine gate_dst (N := 6) rfl ?_); (try (refine gate_guard (by rfl) ?_; dsimp only)); refine box_event ?hg (N := 6) ?hd (cs := #[.int .i64 0, .slice none 0 0, .slice none 0 0]) (t := 27) ?hr ?_; (case hd => rfl); (case hg => rfl); (case hr => first | (go_simp; done) | (go_simp; rfl)); intro gb218 hg w25 hbox hb; have BK218 := am (hbox); have GW218 := am ((by rw [hg]; exact (below_size HB.out) : w.heap.size ≤ gb218)); have GE218 := am ((by rw [hg]; exact (below_size HB.out) : w.heap.size ≤ gb218)); replace HB := bs HB hb; clear hb hg; obtain ⟨hcz26_0, hcz26_1, hcz26_2, hfz26_0, hfz26_1, hfz26_2⟩ := blkC3 BK218.out) | (refine gA (some 43) Try.func52 #[.agg #[.int .i64 ((rd_T27 l0_2 x38_2).f0), .slice A217_1 ((rd_T27 l0_2 x38_2).f1).length c217_1, .slice A217_2 ((rd_T27 l0_2 x38_2).f2).length c217_2]] ?_; (with_reducible refine (ih k2 (by have := HJ1.out; have := HK2.out; omega) ((rd_T27 l0_2 x38_2).f0) _ _ ((rd_T27 l0_2 x38_2).f1) _ _ ((rd_T27 l0_2 x38_2).f2) t219 _ (Kd.C_below HR217_1.out cl0) HC217_1.out (Kd.C_below HR217_2.out cl0) HC217_2.out A20.out).mono ?_); rintro e w27 ⟨rfl, hb⟩; refine ⟨_, rfl, ?_⟩; replace BK218 := am (blk_below (g := gb218) (o := .cells #[.int .i64 ((rd_T27 l0_2 x38_2).f0), .slice A217_1 ((rd_T27 l0_2 x38_2).f1).length c217_1, .slice A217_2 ((rd_T27 l0_2 x38_2).f2).length c217_2] 27 (0, 0)) bo hb); replace HB := am (below_step (kw HB cl0) hb); (try clear hb); (try clear hi)))
            go_ret
            exact ⟨er, by exact HB.out⟩
          ·
           rw [if_neg c19] at H; exact absurd H (by simp)
         ·
          rw [if_neg c18] at H; exact absurd H (by simp)
        ·
         rw [if_neg c17] at H; have c17b0 : decide (x38_2 < (l0_2.length : Int)) = false := decide_eq_false c17; clear c17; obtain rfl := Option.some.inj H
         go_wp2
         go_ret
         exact ⟨er, by exact HB.out⟩
     ·
      rw [if_neg c13] at H; have c13b0 : (t216 == 0) = false := beq_eq_false_iff_ne.mpr c13; have c13b1 : (t216 != 0) = true := bne_iff_ne.mpr c13; obtain rfl := Option.some.inj H; obtain ⟨hcz28_0, hcz28_1, hcz28_2, hfz28_0, hfz28_1, hfz28_2⟩ := blkC3 BK213.out
      go_wp2_with (first | (refine gA (some 25) Try.func55 #[.slice A0_1 l0_1.length c0_1, .func (.func 56) #[] #[]] ?_; (with_reducible refine (slices_ContainsFunc_int_int__on_56.calls kj1 _ _ l0_1  false _ (Kd.C_below HR0_1.out HB.out) HC0_1.out A8.out).mono ?_); rintro e w29 ⟨rfl, hb⟩; refine ⟨_, rfl, ?_⟩; replace BK213 := bb BK213 hb; replace HB := bs HB hb; (try clear hb); obtain ⟨hcz30_0, hcz30_1, hcz30_2, hfz30_0, hfz30_1, hfz30_2⟩ := blkC3 BK213.out) | (refine gA (some 29) Try.func58 #[.slice A0_1 l0_1.length c0_1] ?_; (with_reducible refine (nodeset_Of.calls kj1 _ _ l0_1 t215 t216 _ (Kd.C_below HR0_1.out HB.out) HC0_1.out A12.out).mono ?_); rintro e w' ⟨rfl, ⟨nd, rfl⟩⟩; refine ⟨_, rfl, ?_⟩))
      go_ret
      exact ⟨er, cl0⟩
/-! ### threshold_Valid: function 35 -/
def threshold_Valid.f (k : Nat) (a0_0 : Int) (l0_1 : List Int) (l0_2 : List (S27)) : Option (Int) := (threshold_Depth.f k a0_0 l0_1 l0_2).bind fun t221 => (if t221 > 4 then (some 3) else ((threshold_Size.f k a0_0 l0_1 l0_2).bind fun t222 => (if t222 > 200 then (some 3) else ((threshold_level.f k a0_0 l0_1 l0_2).bind fun t223 => (some t223)))))
set_option maxHeartbeats 8000000 in
set_option maxRecDepth 100000 in
theorem threshold_Valid.calls (k : Nat) (a0_0 : Int) (A0_1 : Option Addr) (c0_1 : Nat) (l0_1 : List Int) (A0_2 : Option Addr) (c0_2 : Nat) (l0_2 : List (S27)) (r : Int) (w : World) (hr0_1 : Kd.C (Kd.int .i64) w A0_1 l0_1.length l0_1) (hc0_1 : l0_1.length ≤ c0_1) (hr0_2 : Kd.C k27 w A0_2 l0_2.length l0_2) (hc0_2 : l0_2.length ≤ c0_2) (h : threshold_Valid.f k a0_0 l0_1 l0_2 = some r) :
    Calls Try.prog 35 #[.agg #[.int .i64 a0_0, .slice A0_1 l0_1.length c0_1, .slice A0_2 l0_2.length c0_2]] w fun e w' => e = .returned (.int .i64 r) ∧ Below w.heap.size w w' := by
 have hu27 := Try.underlying27; have HR0_1 := am hr0_1; have HC0_1 := am hc0_1; clear hr0_1 hc0_1; have HR0_2 := am hr0_2; have HC0_2 := am hc0_2; clear hr0_2 hc0_2; have HB := am (Below.refl w.heap.size w); have H : ((threshold_Depth.f k a0_0 l0_1 l0_2).bind fun t221 => (if t221 > 4 then (some 3) else ((threshold_Size.f k a0_0 l0_1 l0_2).bind fun t222 => (if t222 > 200 then (some 3) else ((threshold_level.f k a0_0 l0_1 l0_2).bind fun t223 => (some t223)))))) = some r := h; clear h; replace H := Option.bind_eq_some_iff.mp H; obtain ⟨t221, A20, H⟩ := H; replace H : (if t221 > 4 then (some 3) else ((threshold_Size.f k a0_0 l0_1 l0_2).bind fun t222 => (if t222 > 200 then (some 3) else ((threshold_level.f k a0_0 l0_1 l0_2).bind fun t223 => (some t223))))) = some r := H; have A2 := am A20; clear A20
 by_cases c3 : t221 > 4
 ·
  rw [if_pos c3] at H; have c3b0 : decide (4 < t221) = true := decide_eq_true c3; clear c3; obtain rfl := Option.some.inj H
  go_enter Try.func35, Try.ntmps35
  go_wp2_with (first | (refine bx 1 #[.int .i64 a0_0, .slice A0_1 l0_1.length c0_1, .slice A0_2 l0_2.length c0_2] 27 HB.out ?_; intro gb220 hg w4 BK220 GE220 hb; replace HB := bs HB hb; clear hb hg; obtain ⟨hcz5_0, hcz5_1, hcz5_2, hfz5_0, hfz5_1, hfz5_2⟩ := blkC3 BK220.out) | (refine gA (some 4) Try.func50 #[.agg #[.int .i64 a0_0, .slice A0_1 l0_1.length c0_1, .slice A0_2 l0_2.length c0_2]] ?_; (with_reducible refine (threshold_Depth.calls k a0_0 _ _ l0_1 _ _ l0_2 t221 _ (Kd.C_below HR0_1.out HB.out) HC0_1.out (Kd.C_below HR0_2.out HB.out) HC0_2.out A2.out).mono ?_); rintro e w6 ⟨rfl, hb⟩; refine ⟨_, rfl, ?_⟩; replace BK220 := bb BK220 hb; replace HB := bs HB hb; (try clear hb); (try clear hi)))
  go_ret
  exact ⟨er, by exact HB.out⟩
 ·
  rw [if_neg c3] at H; have c3b0 : decide (4 < t221) = false := decide_eq_false c3; clear c3; replace H := Option.bind_eq_some_iff.mp H; obtain ⟨t222, A70, H⟩ := H; replace H : (if t222 > 200 then (some 3) else ((threshold_level.f k a0_0 l0_1 l0_2).bind fun t223 => (some t223))) = some r := H; have A7 := am A70; clear A70
  by_cases c8 : t222 > 200
  ·
   rw [if_pos c8] at H; have c8b0 : decide (200 < t222) = true := decide_eq_true c8; clear c8; obtain rfl := Option.some.inj H
   go_enter Try.func35, Try.ntmps35
   go_wp2_with (first | (refine bx 1 #[.int .i64 a0_0, .slice A0_1 l0_1.length c0_1, .slice A0_2 l0_2.length c0_2] 27 HB.out ?_; intro gb220 hg w9 BK220 GE220 hb; replace HB := bs HB hb; clear hb hg; obtain ⟨hcz10_0, hcz10_1, hcz10_2, hfz10_0, hfz10_1, hfz10_2⟩ := blkC3 BK220.out) | (refine gA (some 4) Try.func50 #[.agg #[.int .i64 a0_0, .slice A0_1 l0_1.length c0_1, .slice A0_2 l0_2.length c0_2]] ?_; (with_reducible refine (threshold_Depth.calls k a0_0 _ _ l0_1 _ _ l0_2 t221 _ (Kd.C_below HR0_1.out HB.out) HC0_1.out (Kd.C_below HR0_2.out HB.out) HC0_2.out A2.out).mono ?_); rintro e w11 ⟨rfl, hb⟩; refine ⟨_, rfl, ?_⟩; replace BK220 := bb BK220 hb; replace HB := bs HB hb; (try clear hb); obtain ⟨hcz12_0, hcz12_1, hcz12_2, hfz12_0, hfz12_1, hfz12_2⟩ := blkC3 BK220.out) | (go_at_call 51; (with_reducible refine (threshold_Size.calls k a0_0 _ _ l0_1 _ _ l0_2 t222 _ (Kd.C_below HR0_1.out HB.out) HC0_1.out (Kd.C_below HR0_2.out HB.out) HC0_2.out A7.out).mono ?_); rintro e w13 ⟨rfl, hb⟩; replace BK220 := bb BK220 hb; replace HB := bs HB hb; (try clear hb); (try clear hb2); (try clear hk); (try clear hi)))
   go_ret
   exact ⟨er, by exact HB.out⟩
  ·
   rw [if_neg c8] at H; have c8b0 : decide (200 < t222) = false := decide_eq_false c8; clear c8; replace H := Option.bind_eq_some_iff.mp H; obtain ⟨t223, A140, H⟩ := H; replace H : (some t223) = some r := H; have A14 := am A140; clear A140; obtain rfl := Option.some.inj H
   go_enter Try.func35, Try.ntmps35
   go_wp2_with (first | (refine bx 1 #[.int .i64 a0_0, .slice A0_1 l0_1.length c0_1, .slice A0_2 l0_2.length c0_2] 27 HB.out ?_; intro gb220 hg w15 BK220 GE220 hb; replace HB := bs HB hb; clear hb hg; obtain ⟨hcz16_0, hcz16_1, hcz16_2, hfz16_0, hfz16_1, hfz16_2⟩ := blkC3 BK220.out) | (refine gA (some 4) Try.func50 #[.agg #[.int .i64 a0_0, .slice A0_1 l0_1.length c0_1, .slice A0_2 l0_2.length c0_2]] ?_; (with_reducible refine (threshold_Depth.calls k a0_0 _ _ l0_1 _ _ l0_2 t221 _ (Kd.C_below HR0_1.out HB.out) HC0_1.out (Kd.C_below HR0_2.out HB.out) HC0_2.out A2.out).mono ?_); rintro e w17 ⟨rfl, hb⟩; refine ⟨_, rfl, ?_⟩; replace BK220 := bb BK220 hb; replace HB := bs HB hb; (try clear hb); obtain ⟨hcz18_0, hcz18_1, hcz18_2, hfz18_0, hfz18_1, hfz18_2⟩ := blkC3 BK220.out) | (go_at_call 51; (with_reducible refine (threshold_Size.calls k a0_0 _ _ l0_1 _ _ l0_2 t222 _ (Kd.C_below HR0_1.out HB.out) HC0_1.out (Kd.C_below HR0_2.out HB.out) HC0_2.out A7.out).mono ?_); rintro e w19 ⟨rfl, hb⟩; replace BK220 := bb BK220 hb; replace HB := bs HB hb; (try clear hb); (try clear hb2); (try clear hk); (try clear hi); obtain ⟨hcz20_0, hcz20_1, hcz20_2, hfz20_0, hfz20_1, hfz20_2⟩ := blkC3 BK220.out) | (refine gA (some 12) Try.func52 #[.agg #[.int .i64 a0_0, .slice A0_1 l0_1.length c0_1, .slice A0_2 l0_2.length c0_2]] ?_; (with_reducible refine (threshold_level.calls k a0_0 _ _ l0_1 _ _ l0_2 t223 _ (Kd.C_below HR0_1.out HB.out) HC0_1.out (Kd.C_below HR0_2.out HB.out) HC0_2.out A14.out).mono ?_); rintro e w21 ⟨rfl, hb⟩; refine ⟨_, rfl, ?_⟩; replace BK220 := bb BK220 hb; replace HB := bs HB hb; (try clear hb); (try clear hi)))
   go_ret
   exact ⟨er, by exact HB.out⟩
/-! ### slices_Index_int_int: function 59 -/
def slices_Index_int_int.l0 : Nat → List Int → Int → Int → Int → Option (Int)
  | 0, _, _, _, _ => none
  | k + 1, x0, x1, x7, x8 => if x8 < x7 then (if 0 ≤ x8 then (if x8 < (x0.length : Int) then (if x1 = (rd x0 x8) then (some x8) else (slices_Index_int_int.l0 k x0 x1 x7 (wrap64 (x8 + 1)))) else (none)) else (none)) else (some (-1))
def slices_Index_int_int.f (k : Nat) (l0 : List Int) (a1 : Int) : Option (Int) := slices_Index_int_int.l0 k l0 a1 (l0.length : Int) 0
set_option maxHeartbeats 8000000 in
set_option maxRecDepth 100000 in
theorem slices_Index_int_int.calls (k : Nat) (A0 : Option Addr) (c0 : Nat) (l0 : List Int) (a1 : Int) (r : Int) (w : World) (hr0 : Kd.C (Kd.int .i64) w A0 l0.length l0) (hc0 : l0.length ≤ c0) (h : slices_Index_int_int.f k l0 a1 = some r) :
    Calls Try.prog 59 #[.slice A0 l0.length c0, .int .i64 a1] w fun e w' => e = .returned (.int .i64 r) ∧ Drawn0 w w' := by
 have HR0 := am hr0; have HC0 := am hc0; clear hr0 hc0; have H : (slices_Index_int_int.l0 k l0 a1 (l0.length : Int) 0) = some r := h; clear h; have H' := am H; clear H
 go_enter Try.func59, Try.ntmps59
 go_wp2
 go_loopg [8] k (fun kq v8 w' => ∃ (x8_1 : Int), v8 = .int .i64 x8_1 ∧ Aside0 (slices_Index_int_int.l0 kq l0 a1 (l0.length : Int) x8_1 = some r) ∧ Aside0 (kq ≤ k) ∧ Drawn0 w w')
 case atStart => exact ⟨(0), ar, H', ⟨Nat.le_refl _⟩, by repeat (first | exact Drawn0.refl _ | apply Drawn0.step)⟩
 case round =>
  clear H'; (try clear p2); obtain ⟨x8_1, rfl, HA, HK1, ⟨m1, rfl⟩⟩ := hrel
  cases gk with
  | zero => exact absurd HA.out (by simp [slices_Index_int_int.l0])
  | succ k1 =>
   have H := HA.out; clear HA; simp only [slices_Index_int_int.l0] at H
   by_cases c3 : x8_1 < (l0.length : Int)
   ·
    rw [if_pos c3] at H; have c3b0 : decide (x8_1 < (l0.length : Int)) = true := decide_eq_true c3; clear c3
    by_cases c4 : 0 ≤ x8_1
    ·
     rw [if_pos c4] at H; have c4b0 : decide (0 ≤ x8_1) = true := decide_eq_true c4; clear c4
     by_cases c5 : x8_1 < (l0.length : Int)
     ·
      rw [if_pos c5] at H; have c5b0 : decide (x8_1 < (l0.length : Int)) = true := decide_eq_true c5; clear c5
      by_cases c6 : a1 = (rd l0 x8_1)
      ·
       rw [if_pos c6] at H; have c6b0 : (a1 == (rd l0 x8_1)) = true := beq_iff_eq.mpr c6; have c6b1 : (a1 != (rd l0 x8_1)) = false := bne_eq_false_iff_eq.mpr c6; clear c6; obtain rfl := Option.some.inj H; have p224 : 0 ≤ (x8_1 : Int) := od; have q224 : x8_1 < (l0.length : Int) := od; obtain ⟨ad224, e224, hx224_0⟩ := Kd.at_int HR0.out x8_1 p224 q224
       cases e224
       replace p224 := eq_true p224; replace q224 := eq_true q224
       go_wp2
       go_ret
       exact ⟨by first | rfl | (simp; done) | (simp [*]; done) | (refine congrArg (Value.int .i64) ?_; unfold wrap64; omega), by repeat (first | exact Drawn0.refl _ | apply Drawn0.step)⟩
      ·
       rw [if_neg c6] at H; have c6b0 : (a1 == (rd l0 x8_1)) = false := beq_eq_false_iff_ne.mpr c6; have c6b1 : (a1 != (rd l0 x8_1)) = true := bne_iff_ne.mpr c6; have H' := am H; clear H; have p224 : 0 ≤ (x8_1 : Int) := od; have q224 : x8_1 < (l0.length : Int) := od; obtain ⟨ad224, e224, hx224_0⟩ := Kd.at_int HR0.out x8_1 p224 q224
       cases e224
       replace p224 := eq_true p224; replace q224 := eq_true q224
       go_wp2
       go_roundg k1
       case measure => have := HK1.out; omega
       case rel => exact ⟨(wrap64 (x8_1 + 1)), ar, H', ⟨by have := HK1.out; omega⟩, by repeat (first | exact Drawn0.refl _ | apply Drawn0.step)⟩
     ·
      rw [if_neg c5] at H; exact absurd H (by simp)
    ·
     rw [if_neg c4] at H; exact absurd H (by simp)
   ·
    rw [if_neg c3] at H; have c3b0 : decide (x8_1 < (l0.length : Int)) = false := decide_eq_false c3; clear c3; obtain rfl := Option.some.inj H
    go_wp2
    go_ret
    exact ⟨by first | rfl | (simp; done) | (simp [*]; done) | (refine congrArg (Value.int .i64) ?_; unfold wrap64; omega), by repeat (first | exact Drawn0.refl _ | apply Drawn0.step)⟩
/-! ### slices_Contains_int_int: function 53 -/
def slices_Contains_int_int.f (k : Nat) (l0 : List Int) (a1 : Int) : Option (Bool) := (slices_Index_int_int.f k l0 a1).bind fun t225 => (some (decide (t225 ≥ 0)))
set_option maxHeartbeats 8000000 in
set_option maxRecDepth 100000 in
theorem slices_Contains_int_int.calls (k : Nat) (A0 : Option Addr) (c0 : Nat) (l0 : List Int) (a1 : Int) (r : Bool) (w : World) (hr0 : Kd.C (Kd.int .i64) w A0 l0.length l0) (hc0 : l0.length ≤ c0) (h : slices_Contains_int_int.f k l0 a1 = some r) :
    Calls Try.prog 53 #[.slice A0 l0.length c0, .int .i64 a1] w fun e w' => e = .returned (.bool r) ∧ Below w.heap.size w w' := by
 have HR0 := am hr0; have HC0 := am hc0; clear hr0 hc0; have HB := am (Below.refl w.heap.size w); have H : ((slices_Index_int_int.f k l0 a1).bind fun t225 => (some (decide (t225 ≥ 0)))) = some r := h; clear h; replace H := Option.bind_eq_some_iff.mp H; obtain ⟨t225, A30, H⟩ := H; replace H : (some (decide (t225 ≥ 0))) = some r := H; have A3 := am A30; clear A30; obtain rfl := Option.some.inj H
 go_enter Try.func53, Try.ntmps53
 go_wp2_with (first | (refine gA (some 7) Try.func59 #[.slice A0 l0.length c0, .int .i64 a1] ?_; (with_reducible refine (slices_Index_int_int.calls k _ _ l0 a1 t225 _ HR0.out HC0.out A3.out).mono ?_); rintro e w' ⟨rfl, ⟨nd, rfl⟩⟩; refine ⟨_, rfl, ?_⟩))
 go_ret
 exact ⟨er, cl4⟩
/-! ### leaders_weight: function 36 -/
mutual
def leaders_weight.l0 : Nat → Int → List (S27) → Int → Int → Int → Int → Option (Int × Int × Bool)
  | 0, _, _, _, _, _, _ => none
  | k + 1, x1, x27, x28, x29, x229000, x229001 => if x29 < x28 then (if 0 ≤ x29 then (if x29 < (x27.length : Int) then ((leaders_weight.f k ((rd_T27 x27 x29).f0) ((rd_T27 x27 x29).f1) ((rd_T27 x27 x29).f2) x1).bind fun bt232 => (if bt232.2.2 = true then (some (wrap64 (x229000 * bt232.1), wrap64 (x229001 * bt232.2.1), true)) else (leaders_weight.l0 k x1 x27 x28 (wrap64 (x29 + 1)) x229000 x229001))) else (none)) else (none)) else (some (0, 0, false))
def leaders_weight.f : Nat → Int → List Int → List (S27) → Int → Option (Int × Int × Bool)
  | 0, _, _, _, _ => none
  | k + 1, a0_0, l0_1, l0_2, a1 => (slices_Contains_int_int.f k l0_1 a1).bind fun t229 => (if t229 = true then (some (a0_0, wrap64 ((l0_1.length : Int) + (l0_2.length : Int)), true)) else (leaders_weight.l0 k a1 l0_2 (l0_2.length : Int) 0 a0_0 (wrap64 ((l0_1.length : Int) + (l0_2.length : Int)))))
end
set_option maxHeartbeats 8000000 in
set_option maxRecDepth 100000 in
theorem leaders_weight.calls (k : Nat) : ∀ (a0_0 : Int) (A0_1 : Option Addr) (c0_1 : Nat) (l0_1 : List Int) (A0_2 : Option Addr) (c0_2 : Nat) (l0_2 : List (S27)) (a1 : Int) (r1 : Int) (r2 : Int) (r3 : Bool) (w : World) (hr0_1 : Kd.C (Kd.int .i64) w A0_1 l0_1.length l0_1) (hc0_1 : l0_1.length ≤ c0_1) (hr0_2 : Kd.C k27 w A0_2 l0_2.length l0_2) (hc0_2 : l0_2.length ≤ c0_2) (h : leaders_weight.f k a0_0 l0_1 l0_2 a1 = some (r1, r2, r3)),
    Calls Try.prog 36 #[.agg #[.int .i64 a0_0, .slice A0_1 l0_1.length c0_1, .slice A0_2 l0_2.length c0_2], .int .i64 a1] w fun e w' => e = .returned (.tuple #[.agg #[.int .i64 r1, .int .i64 r2], .bool r3]) ∧ Below w.heap.size w w' := by
 induction k using Nat.strongRecOn with
 | _ k ih =>
 intro a0_0 A0_1 c0_1 l0_1 A0_2 c0_2 l0_2 a1 r1 r2 r3 w hr0_1 hc0_1 hr0_2 hc0_2 h
 cases k with
 | zero => exact absurd h (by simp [leaders_weight.f])
 | succ k =>
 simp only [leaders_weight.f] at h; have hu27 := Try.underlying27; have hu31 := Try.underlying31; have HR0_1 := am hr0_1; have HC0_1 := am hc0_1; clear hr0_1 hc0_1; have HR0_2 := am hr0_2; have HC0_2 := am hc0_2; clear hr0_2 hc0_2; have HB := am (Below.refl w.heap.size w); have H : ((slices_Contains_int_int.f k l0_1 a1).bind fun t229 => (if t229 = true then (some (a0_0, wrap64 ((l0_1.length : Int) + (l0_2.length : Int)), true)) else (leaders_weight.l0 k a1 l0_2 (l0_2.length : Int) 0 a0_0 (wrap64 ((l0_1.length : Int) + (l0_2.length : Int)))))) = some (r1, r2, r3) := h; clear h; replace H := Option.bind_eq_some_iff.mp H; obtain ⟨t229, A30, H⟩ := H; replace H : (if t229 = true then (some (a0_0, wrap64 ((l0_1.length : Int) + (l0_2.length : Int)), true)) else (leaders_weight.l0 k a1 l0_2 (l0_2.length : Int) 0 a0_0 (wrap64 ((l0_1.length : Int) + (l0_2.length : Int))))) = some (r1, r2, r3) := H; have A3 := am A30; clear A30
 by_cases c4 : t229 = true
 ·
  subst c4; have H1 : (some (a0_0, wrap64 ((l0_1.length : Int) + (l0_2.length : Int)), true)) = some (r1, r2, r3) := by rw [if_pos rfl] at H; exact H
  clear H; have H := H1; clear H1; simp only [Option.some.injEq, Prod.mk.injEq] at H; obtain ⟨rfl, rfl, rfl⟩ := H
  go_enter Try.func36, Try.ntmps36
  go_wp2_with (first | (refine bx 2 #[.int .i64 a0_0, .slice A0_1 l0_1.length c0_1, .slice A0_2 l0_2.length c0_2] 27 HB.out ?_; intro gb226 hg w5 BK226 GE226 hb; replace HB := bs HB hb; clear hb hg) | (refine bx 4 #[.int .i64 0, .int .i64 0] 31 HB.out ?_; intro gb227 hg w6 BK227 GE227 hb; replace HB := bs HB hb; have NB226_227 := nl hg BK226; have NB227_226 := ng hg BK226; replace BK226 := bb BK226 hb; clear hb hg; have hnb7 := NB226_227.out; have hnc7 := NB227_226.out; obtain ⟨hcz8_0, hcz8_1, hcz8_2, hfz8_0, hfz8_1, hfz8_2⟩ := blkC3 BK226.out) | (refine bx 6 #[.int .i64 0, .int .i64 0] 31 HB.out ?_; intro gb228 hg w9 BK228 GE228 hb; replace HB := bs HB hb; have NB226_228 := nl hg BK226; have NB228_226 := ng hg BK226; replace BK226 := bb BK226 hb; have NB227_228 := nl hg BK227; have NB228_227 := ng hg BK227; replace BK227 := bb BK227 hb; clear hb hg; have hnb10 := NB228_226.out; have hnc10 := NB226_228.out; have hnb11 := NB228_227.out; have hnc11 := NB227_228.out; obtain ⟨hcz12_0, hcz12_1, hfz12_0, hfz12_1⟩ := blkC2 BK228.out; have hcz13_0 : w9.cell? ⟨gb226, 0, none⟩ = some (.int .i64 a0_0) := (blk_cell BK226.out 0).trans rfl; have hcz13_1 : w9.cell? ⟨gb226, 1, none⟩ = some (.slice A0_1 l0_1.length c0_1) := (blk_cell BK226.out 1).trans rfl; have hcz13_2 : w9.cell? ⟨gb226, 2, none⟩ = some (.slice A0_2 l0_2.length c0_2) := (blk_cell BK226.out 2).trans rfl; have hfz13_0 := blk_frozen BK226.out 0; have hfz13_1 := blk_frozen BK226.out 1; have hfz13_2 := blk_frozen BK226.out 2) | (refine gA (some 24) Try.func53 #[.slice A0_1 l0_1.length c0_1, .int .i64 a1] ?_; (with_reducible refine (slices_Contains_int_int.calls k _ _ l0_1 a1 true _ (Kd.C_below HR0_1.out cl0) HC0_1.out A3.out).mono ?_); rintro e w14 ⟨rfl, hb⟩; refine ⟨_, rfl, ?_⟩; replace BK226 := am (blk_below (g := gb226) (o := .cells #[.int .i64 a0_0, .slice A0_1 l0_1.length c0_1, .slice A0_2 l0_2.length c0_2] 27 (0, 0)) bo hb); replace BK227 := am (blk_below (g := gb227) (o := .cells #[.int .i64 0, .int .i64 0] 31 (0, 0)) bo hb); replace BK228 := am (blk_below (g := gb228) (o := .cells #[.int .i64 a0_0, .int .i64 (wrap64 ((l0_1.length : Int) + (l0_2.length : Int)))] 31 (0, 0)) bo hb); replace HB := am (below_step (kw HB cl0) hb); (try clear hb); obtain ⟨hcz15_0, hcz15_1, hfz15_0, hfz15_1⟩ := blkC2 BK228.out; obtain ⟨hcz16_0, hcz16_1, hfz16_0, hfz16_1⟩ := blkC2 BK227.out))
  refine bodyPost_ret (results_ct rfl _ _ gb227 31 #[.int .i64 a0_0, .int .i64 (wrap64 ((l0_1.length : Int) + (l0_2.length : Int)))] (0, 0) _ rfl bo Try.underlying31 rfl (by kernel_rfl)) rfl ?_
  exact ⟨er, cl0⟩
 ·
  replace c4 := Bool.eq_false_iff.mpr c4; subst c4; have H1 : (leaders_weight.l0 k a1 l0_2 (l0_2.length : Int) 0 a0_0 (wrap64 ((l0_1.length : Int) + (l0_2.length : Int)))) = some (r1, r2, r3) := by rw [if_neg (show ¬ (false = true) by decide)] at H; exact H
  clear H; have H := H1; clear H1; have H' := am H; clear H
  go_enter Try.func36, Try.ntmps36
  go_wp2_with (first | (refine bx 2 #[.int .i64 a0_0, .slice A0_1 l0_1.length c0_1, .slice A0_2 l0_2.length c0_2] 27 HB.out ?_; intro gb226 hg w17 BK226 GE226 hb; replace HB := bs HB hb; clear hb hg) | (refine bx 4 #[.int .i64 0, .int .i64 0] 31 HB.out ?_; intro gb227 hg w18 BK227 GE227 hb; replace HB := bs HB hb; have NB226_227 := nl hg BK226; have NB227_226 := ng hg BK226; replace BK226 := bb BK226 hb; clear hb hg; have hnb19 := NB226_227.out; have hnc19 := NB227_226.out; obtain ⟨hcz20_0, hcz20_1, hcz20_2, hfz20_0, hfz20_1, hfz20_2⟩ := blkC3 BK226.out) | (refine bx 6 #[.int .i64 0, .int .i64 0] 31 HB.out ?_; intro gb228 hg w21 BK228 GE228 hb; replace HB := bs HB hb; have NB226_228 := nl hg BK226; have NB228_226 := ng hg BK226; replace BK226 := bb BK226 hb; have NB227_228 := nl hg BK227; have NB228_227 := ng hg BK227; replace BK227 := bb BK227 hb; clear hb hg; have hnb22 := NB228_226.out; have hnc22 := NB226_228.out; have hnb23 := NB228_227.out; have hnc23 := NB227_228.out; obtain ⟨hcz24_0, hcz24_1, hfz24_0, hfz24_1⟩ := blkC2 BK228.out; have hcz25_0 : w21.cell? ⟨gb226, 0, none⟩ = some (.int .i64 a0_0) := (blk_cell BK226.out 0).trans rfl; have hcz25_1 : w21.cell? ⟨gb226, 1, none⟩ = some (.slice A0_1 l0_1.length c0_1) := (blk_cell BK226.out 1).trans rfl; have hcz25_2 : w21.cell? ⟨gb226, 2, none⟩ = some (.slice A0_2 l0_2.length c0_2) := (blk_cell BK226.out 2).trans rfl; have hfz25_0 := blk_frozen BK226.out 0; have hfz25_1 := blk_frozen BK226.out 1; have hfz25_2 := blk_frozen BK226.out 2) | (refine gA (some 24) Try.func53 #[.slice A0_1 l0_1.length c0_1, .int .i64 a1] ?_; (with_reducible refine (slices_Contains_int_int.calls k _ _ l0_1 a1 false _ (Kd.C_below HR0_1.out cl0) HC0_1.out A3.out).mono ?_); rintro e w26 ⟨rfl, hb⟩; refine ⟨_, rfl, ?_⟩; replace BK226 := am (blk_below (g := gb226) (o := .cells #[.int .i64 a0_0, .slice A0_1 l0_1.length c0_1, .slice A0_2 l0_2.length c0_2] 27 (0, 0)) bo hb); replace BK227 := am (blk_below (g := gb227) (o := .cells #[.int .i64 0, .int .i64 0] 31 (0, 0)) bo hb); replace BK228 := am (blk_below (g := gb228) (o := .cells #[.int .i64 a0_0, .int .i64 (wrap64 ((l0_1.length : Int) + (l0_2.length : Int)))] 31 (0, 0)) bo hb); replace HB := am (below_step (kw HB cl0) hb); (try clear hb); obtain ⟨hcz27_0, hcz27_1, hcz27_2, hfz27_0, hfz27_1, hfz27_2⟩ := blkC3 BK226.out))
  go_loopg [29] k (fun kq v29 w' => ∃ (x29_1 : Int) (x228000_1 : Int) (x228001_1 : Int), v29 = .int .i64 x29_1 ∧ Aside0 (leaders_weight.l0 kq a1 l0_2 (l0_2.length : Int) x29_1 a0_0 (wrap64 ((l0_1.length : Int) + (l0_2.length : Int))) = some (r1, r2, r3)) ∧ Aside0 (kq ≤ k) ∧ Aside0 (w'.heap[gb227]? = some (.cells #[.int .i64 x228000_1, .int .i64 x228001_1] 31 (0, 0))) ∧ Aside0 (w'.heap[gb228]? = some (.cells #[.int .i64 a0_0, .int .i64 (wrap64 ((l0_1.length : Int) + (l0_2.length : Int)))] 31 (0, 0))) ∧ Aside0 (Below w.heap.size w w'))
  case atStart => exact ⟨(0), (0), (0), ar, H', ⟨Nat.le_refl _⟩, ⟨by exact BK227.out⟩, ⟨by exact BK228.out⟩, ⟨by exact HB.out⟩⟩
  case round =>
   clear H'; (try clear c1); (try clear c2); (try clear p2); (try clear c3); (try clear c4); (try clear c5); (try clear p6); (try clear c7); (try clear c10); (try clear c11); (try clear c19); (try clear c22); (try clear c23); (try clear hcz12_0 hcz12_1); (try clear hcz13_0 hcz13_1 hcz13_2); (try clear hcz15_0 hcz15_1); (try clear hcz16_0 hcz16_1); (try clear hcz20_0 hcz20_1 hcz20_2); (try clear hcz24_0 hcz24_1); (try clear hcz25_0 hcz25_1 hcz25_2); (try clear hcz27_0 hcz27_1 hcz27_2); (try clear hcz8_0 hcz8_1 hcz8_2); (try clear hfz12_0 hfz12_1); (try clear hfz13_0 hfz13_1 hfz13_2); (try clear hfz15_0 hfz15_1); (try clear hfz16_0 hfz16_1); (try clear hfz20_0 hfz20_1 hfz20_2); (try clear hfz24_0 hfz24_1); (try clear hfz25_0 hfz25_1 hfz25_2); (try clear hfz27_0 hfz27_1 hfz27_2); (try clear hfz8_0 hfz8_1 hfz8_2); obtain ⟨x29_1, x228000_1, x228001_1, rfl, HA, HK1, BK227, BK228, HB⟩ := hrel
   cases gk with
   | zero => exact absurd HA.out (by simp [leaders_weight.l0])
   | succ k1 =>
    have H := HA.out; clear HA; simp only [leaders_weight.l0] at H
    by_cases c28 : x29_1 < (l0_2.length : Int)
    ·
     rw [if_pos c28] at H; have c28b0 : decide (x29_1 < (l0_2.length : Int)) = true := decide_eq_true c28; clear c28
     by_cases c29 : 0 ≤ x29_1
     ·
      rw [if_pos c29] at H; have c29b0 : decide (0 ≤ x29_1) = true := decide_eq_true c29; clear c29
      by_cases c30 : x29_1 < (l0_2.length : Int)
      ·
       rw [if_pos c30] at H; have c30b0 : decide (x29_1 < (l0_2.length : Int)) = true := decide_eq_true c30; clear c30; replace H := Option.bind_eq_some_iff.mp H; obtain ⟨⟨t232, t233, t234⟩, A310, H⟩ := H; replace H : (if t234 = true then (some (wrap64 (a0_0 * t232), wrap64 ((wrap64 ((l0_1.length : Int) + (l0_2.length : Int))) * t233), true)) else (leaders_weight.l0 k1 a1 l0_2 (l0_2.length : Int) (wrap64 (x29_1 + 1)) a0_0 (wrap64 ((l0_1.length : Int) + (l0_2.length : Int))))) = some (r1, r2, r3) := H; have A31 := am A310; clear A310
       by_cases c32 : t234 = true
       ·
        subst c32; have H1 : (some (wrap64 (a0_0 * t232), wrap64 ((wrap64 ((l0_1.length : Int) + (l0_2.length : Int))) * t233), true)) = some (r1, r2, r3) := by rw [if_pos rfl] at H; exact H
        clear H; have H := H1; clear H1; simp only [Option.some.injEq, Prod.mk.injEq] at H; obtain ⟨rfl, rfl, rfl⟩ := H; have p230 : 0 ≤ (x29_1 : Int) := od; have q230 : x29_1 < (l0_2.length : Int) := od; obtain ⟨ad230, A230_1, c230_1, A230_2, c230_2, e230, hx230_0, hx230_1, hx230_2, hl230_1, hi230_1, hl230_2, hi230_2⟩ := at_T27 HR0_2.out x29_1 p230 q230
        cases e230
        replace hx230_0 := (HB.out.cell (World.block_lt_of_cell? w _ hx230_0)).trans hx230_0; replace hx230_1 := (HB.out.cell (World.block_lt_of_cell? w _ hx230_1)).trans hx230_1; replace hx230_2 := (HB.out.cell (World.block_lt_of_cell? w _ hx230_2)).trans hx230_2; have HR230_1 := am hi230_1; have HC230_1 := am hl230_1; clear hi230_1 hl230_1; have HR230_2 := am hi230_2; have HC230_2 := am hl230_2; clear hi230_2 hl230_2; replace p230 := eq_true p230; replace q230 := eq_true q230
        go_wp2_with (first | (refine bx 8 #[.int .i64 0, .slice none 0 0, .slice none 0 0] 27 HB.out ?_; intro gb231 hg w33 BK231 GE231 hb; replace HB := bs HB hb; have NB227_231 := nl hg BK227; have NB231_227 := ng hg BK227; replace BK227 := bb BK227 hb; have NB228_231 := nl hg BK228; have NB231_228 := ng hg BK228; replace BK228 := bb BK228 hb; clear hb hg; have hnb34 := NB231_227.out; have hnc34 := NB227_231.out; have hnb35 := NB231_228.out; have hnc35 := NB228_231.out; obtain ⟨hcz36_0, hcz36_1, hcz36_2, hfz36_0, hfz36_1, hfz36_2⟩ := blkC3 BK231.out) | (refine gA (some 36) Try.func36 #[.agg #[.int .i64 ((rd_T27 l0_2 x29_1).f0), .slice A230_1 ((rd_T27 l0_2 x29_1).f1).length c230_1, .slice A230_2 ((rd_T27 l0_2 x29_1).f2).length c230_2], .int .i64 a1] ?_; (with_reducible refine (ih k1 (by have := HK1.out; omega) ((rd_T27 l0_2 x29_1).f0) _ _ ((rd_T27 l0_2 x29_1).f1) _ _ ((rd_T27 l0_2 x29_1).f2) a1 t232 t233 true _ (Kd.C_below HR230_1.out cl0) HC230_1.out (Kd.C_below HR230_2.out cl0) HC230_2.out A31.out).mono ?_); rintro e w37 ⟨rfl, hb⟩; refine ⟨_, rfl, ?_⟩; replace BK227 := am (blk_below (g := gb227) (o := .cells #[.int .i64 x228000_1, .int .i64 x228001_1] 31 (0, 0)) bo hb); replace BK228 := am (blk_below (g := gb228) (o := .cells #[.int .i64 a0_0, .int .i64 (wrap64 ((l0_1.length : Int) + (l0_2.length : Int)))] 31 (0, 0)) bo hb); replace BK231 := am (blk_below (g := gb231) (o := .cells #[.int .i64 ((rd_T27 l0_2 x29_1).f0), .slice A230_1 ((rd_T27 l0_2 x29_1).f1).length c230_1, .slice A230_2 ((rd_T27 l0_2 x29_1).f2).length c230_2] 27 (0, 0)) bo hb); replace HB := am (below_step (kw HB cl0) hb); (try clear hb); (try clear hi)) | (refine bx 9 #[.int .i64 0, .int .i64 0] 31 HB.out ?_; intro gb235 hg w38 BK235 GE235 hb; replace HB := bs HB hb; have NB227_235 := nl hg BK227; have NB235_227 := ng hg BK227; replace BK227 := bb BK227 hb; have NB228_235 := nl hg BK228; have NB235_228 := ng hg BK228; replace BK228 := bb BK228 hb; have NB231_235 := nl hg BK231; have NB235_231 := ng hg BK231; replace BK231 := bb BK231 hb; clear hb hg; have hnb39 := NB235_227.out; have hnc39 := NB227_235.out; have hnb40 := NB235_228.out; have hnc40 := NB228_235.out; have hnb41 := NB235_231.out; have hnc41 := NB231_235.out; obtain ⟨hcz42_0, hcz42_1, hfz42_0, hfz42_1⟩ := blkC2 BK235.out; have hnb43 := NB228_227.out; have hnc43 := NB227_228.out; have hcz44_0 : w38.cell? ⟨gb228, 0, none⟩ = some (.int .i64 a0_0) := (blk_cell BK228.out 0).trans rfl; have hcz44_1 : w38.cell? ⟨gb228, 1, none⟩ = some (.int .i64 (wrap64 ((l0_1.length : Int) + (l0_2.length : Int)))) := (blk_cell BK228.out 1).trans rfl; have hfz44_0 := blk_frozen BK228.out 0; have hfz44_1 := blk_frozen BK228.out 1; have hcz45_0 : w38.cell? ⟨gb227, 0, none⟩ = some (.int .i64 x228000_1) := (blk_cell BK227.out 0).trans rfl; have hcz45_1 : w38.cell? ⟨gb227, 1, none⟩ = some (.int .i64 x228001_1) := (blk_cell BK227.out 1).trans rfl; have hfz45_0 := blk_frozen BK227.out 0; have hfz45_1 := blk_frozen BK227.out 1))
        refine bodyPost_ret (results_ct rfl _ _ gb227 31 #[.int .i64 (wrap64 (a0_0 * t232)), .int .i64 (wrap64 ((wrap64 ((l0_1.length : Int) + (l0_2.length : Int))) * t233))] (0, 0) _ rfl bo Try.underlying31 rfl (by kernel_rfl)) rfl ?_
        exact ⟨er, cl0⟩
       ·
        replace c32 := Bool.eq_false_iff.mpr c32; subst c32; have H1 : (leaders_weight.l0 k1 a1 l0_2 (l0_2.length : Int) (wrap64 (x29_1 + 1)) a0_0 (wrap64 ((l0_1.length : Int) + (l0_2.length : Int)))) = some (r1, r2, r3) := by rw [if_neg (show ¬ (false = true) by decide)] at H; exact H
        clear H; have H := H1; clear H1; have H' := am H; clear H; have p230 : 0 ≤ (x29_1 : Int) := od; have q230 : x29_1 < (l0_2.length : Int) := od; obtain ⟨ad230, A230_1, c230_1, A230_2, c230_2, e230, hx230_0, hx230_1, hx230_2, hl230_1, hi230_1, hl230_2, hi230_2⟩ := at_T27 HR0_2.out x29_1 p230 q230
        cases e230
        replace hx230_0 := (HB.out.cell (World.block_lt_of_cell? w _ hx230_0)).trans hx230_0; replace hx230_1 := (HB.out.cell (World.block_lt_of_cell? w _ hx230_1)).trans hx230_1; replace hx230_2 := (HB.out.cell (World.block_lt_of_cell? w _ hx230_2)).trans hx230_2; have HR230_1 := am hi230_1; have HC230_1 := am hl230_1; clear hi230_1 hl230_1; have HR230_2 := am hi230_2; have HC230_2 := am hl230_2; clear hi230_2 hl230_2; replace p230 := eq_true p230; replace q230 := eq_true q230
        go_wp2_with (first | (refine bx 8 #[.int .i64 0, .slice none 0 0, .slice none 0 0] 27 HB.out ?_; intro gb231 hg w46 BK231 GE231 hb; replace HB := bs HB hb; have NB227_231 := nl hg BK227; have NB231_227 := ng hg BK227; replace BK227 := bb BK227 hb; have NB228_231 := nl hg BK228; have NB231_228 := ng hg BK228; replace BK228 := bb BK228 hb; clear hb hg; have hnb47 := NB231_227.out; have hnc47 := NB227_231.out; have hnb48 := NB231_228.out; have hnc48 := NB228_231.out; obtain ⟨hcz49_0, hcz49_1, hcz49_2, hfz49_0, hfz49_1, hfz49_2⟩ := blkC3 BK231.out) | (refine gA (some 36) Try.func36 #[.agg #[.int .i64 ((rd_T27 l0_2 x29_1).f0), .slice A230_1 ((rd_T27 l0_2 x29_1).f1).length c230_1, .slice A230_2 ((rd_T27 l0_2 x29_1).f2).length c230_2], .int .i64 a1] ?_; (with_reducible refine (ih k1 (by have := HK1.out; omega) ((rd_T27 l0_2 x29_1).f0) _ _ ((rd_T27 l0_2 x29_1).f1) _ _ ((rd_T27 l0_2 x29_1).f2) a1 t232 t233 false _ (Kd.C_below HR230_1.out cl0) HC230_1.out (Kd.C_below HR230_2.out cl0) HC230_2.out A31.out).mono ?_); rintro e w50 ⟨rfl, hb⟩; refine ⟨_, rfl, ?_⟩; replace BK227 := am (blk_below (g := gb227) (o := .cells #[.int .i64 x228000_1, .int .i64 x228001_1] 31 (0, 0)) bo hb); replace BK228 := am (blk_below (g := gb228) (o := .cells #[.int .i64 a0_0, .int .i64 (wrap64 ((l0_1.length : Int) + (l0_2.length : Int)))] 31 (0, 0)) bo hb); replace BK231 := am (blk_below (g := gb231) (o := .cells #[.int .i64 ((rd_T27 l0_2 x29_1).f0), .slice A230_1 ((rd_T27 l0_2 x29_1).f1).length c230_1, .slice A230_2 ((rd_T27 l0_2 x29_1).f2).length c230_2] 27 (0, 0)) bo hb); replace HB := am (below_step (kw HB cl0) hb); (try clear hb); (try clear hi)) | (refine bx 9 #[.int .i64 0, .int .i64 0] 31 HB.out ?_; intro gb235 hg w51 BK235 GE235 hb; replace HB := bs HB hb; have NB227_235 := nl hg BK227; have NB235_227 := ng hg BK227; replace BK227 := bb BK227 hb; have NB228_235 := nl hg BK228; have NB235_228 := ng hg BK228; replace BK228 := bb BK228 hb; have NB231_235 := nl hg BK231; have NB235_231 := ng hg BK231; replace BK231 := bb BK231 hb; clear hb hg; have hnb52 := NB235_227.out; have hnc52 := NB227_235.out; have hnb53 := NB235_228.out; have hnc53 := NB228_235.out; have hnb54 := NB235_231.out; have hnc54 := NB231_235.out; obtain ⟨hcz55_0, hcz55_1, hfz55_0, hfz55_1⟩ := blkC2 BK235.out))
        go_roundg k1
        case measure => have := HK1.out; omega
        case rel => exact ⟨(wrap64 (x29_1 + 1)), (x228000_1), (x228001_1), ar, H', ⟨by have := HK1.out; omega⟩, ⟨bo⟩, ⟨bo⟩, ⟨cl0⟩⟩
      ·
       rw [if_neg c30] at H; exact absurd H (by simp)
     ·
      rw [if_neg c29] at H; exact absurd H (by simp)
    ·
     rw [if_neg c28] at H; have c28b0 : decide (x29_1 < (l0_2.length : Int)) = false := decide_eq_false c28; clear c28; simp only [Option.some.injEq, Prod.mk.injEq] at H; obtain ⟨rfl, rfl, rfl⟩ := H; have hnb56 := NB227_228.out; have hnc56 := NB228_227.out; obtain ⟨hcz57_0, hcz57_1, hfz57_0, hfz57_1⟩ := blkC2 BK227.out
     go_wp2
     refine bodyPost_ret (results_ct rfl _ _ gb227 31 #[.int .i64 0, .int .i64 0] (0, 0) _ rfl bo Try.underlying31 rfl (by kernel_rfl)) rfl ?_
     exact ⟨er, cl0⟩
end Go.Proofs.Ytphndccgadblnaa.QLeadersAnswers
