/- Lean functions that answer as the Go functions do which the law reaches, and proofs that the Go code comes to exactly these answers. Conditions: those that each theorem names. -/
import Derived.Test.YteljoemeogeidaaQThresholdAnswersx0
import Derived.Test.YteljoemeogeidaaQThresholdAnswersx1
namespace Go.Proofs.Yteljoemeogeidaa.QThresholdAnswers
open Go.RowKit Go.Proofs.YteljoemeogeidaaW.PrintWords Go.Proofs.YteljoemeogeidaaW.PrintLast Go.Proofs.YteljoemeogeidaaW.PrintMore
attribute [local go_sem] max2_int min2_int max_two min_two max_three min_three max_four min_four   -- for this text's walks alone
set_option linter.unusedVariables false
set_option linter.unusedSimpArgs false

/-! ### trustquorummake_Tape_Order: function 36 -/
mutual
def trustquorummake_Tape_Order.l0 : Nat → Int → List Int → Int → List Int → Int → Option (List Int × Int)
  | 0, _, _, _, _, _ => none
  | k + 1, x1, x5, x6, x1000, x1001 => if x6 < x1 then (if x5.length < 17592186044416 then (trustquorummake_Tape_Order.l0 k x1 (x5 ++ [x6]) (wrap64 (x6 + 1)) x1000 x1001) else (none)) else (trustquorummake_Tape_Order.l1 k x5 (wrap64 (x1 - 1)) x1000 x1001)
def trustquorummake_Tape_Order.l1 : Nat → List Int → Int → List Int → Int → Option (List Int × Int)
  | 0, _, _, _, _ => none
  | k + 1, x5, x7, x1000, x1001 => if x7 > 0 then ((trustquorummake_Tape_N.f x1000 x1001 (wrap64 (x7 + 1))).bind fun bt131 => (if 0 ≤ bt131.1 then (if bt131.1 < (x5.length : Int) then (if 0 ≤ x7 then (if x7 < (x5.length : Int) then (trustquorummake_Tape_Order.l1 k ((x5.set (x7 : Int).toNat (rd x5 bt131.1)).set (bt131.1 : Int).toNat (rd x5 x7)) (wrap64 (x7 - 1)) x1000 bt131.2) else (none)) else (none)) else (none)) else (none))) else (some (x5, x1001))
end
def trustquorummake_Tape_Order.f (k : Nat) (s0_0 : List Int) (s0_1 : Int) (a1 : Int) : Option (List Int × Int) := trustquorummake_Tape_Order.l0 k a1 ([] : List Int) 0 s0_0 s0_1
theorem trustquorummake_Tape_Order.mono_l : ∀ k, (∀ y0 y1 y2 y3 y4, LeO (trustquorummake_Tape_Order.l0 k y0 y1 y2 y3 y4) (trustquorummake_Tape_Order.l0 (k + 1) y0 y1 y2 y3 y4)) ∧ (∀ y0 y1 y2 y3, LeO (trustquorummake_Tape_Order.l1 k y0 y1 y2 y3) (trustquorummake_Tape_Order.l1 (k + 1) y0 y1 y2 y3))
  | 0 => ⟨fun _ _ _ _ _ r h => by simp [trustquorummake_Tape_Order.l0] at h, fun _ _ _ _ r h => by simp [trustquorummake_Tape_Order.l1] at h⟩
  | k + 1 => by
    obtain ⟨ih0, ih1⟩ := trustquorummake_Tape_Order.mono_l k
    refine ⟨?_, ?_⟩
    · intro y0 y1 y2 y3 y4
      unfold trustquorummake_Tape_Order.l0
      repeat' first
      | (with_reducible exact ih0 _ _ _ _ _)
      | (with_reducible exact ih1 _ _ _ _)
      | (with_reducible exact LeO.refl _)
      | (with_reducible exact LeO.none _)
      | (with_reducible refine LeO.ite ?_ ?_)
      | (with_reducible refine LeO.bind ?_ (fun _ => ?_))
      | exact ih0 _ _ _ _ _
      | exact ih1 _ _ _ _
      | exact LeO.none _
      | refine LeO.ite ?_ ?_
      | refine LeO.bind ?_ (fun _ => ?_)
    · intro y0 y1 y2 y3
      unfold trustquorummake_Tape_Order.l1
      repeat' first
      | (with_reducible exact ih0 _ _ _ _ _)
      | (with_reducible exact ih1 _ _ _ _)
      | (with_reducible exact LeO.refl _)
      | (with_reducible exact LeO.none _)
      | (with_reducible refine LeO.ite ?_ ?_)
      | (with_reducible refine LeO.bind ?_ (fun _ => ?_))
      | exact ih0 _ _ _ _ _
      | exact ih1 _ _ _ _
      | exact LeO.none _
      | refine LeO.ite ?_ ?_
      | refine LeO.bind ?_ (fun _ => ?_)
theorem trustquorummake_Tape_Order.mono : ∀ a0 a1 a2 k, LeO (trustquorummake_Tape_Order.f k a0 a1 a2) (trustquorummake_Tape_Order.f (k + 1) a0 a1 a2) := by
  intro a0 a1 a2 k
  obtain ⟨ih0, ih1⟩ := trustquorummake_Tape_Order.mono_l k
  unfold trustquorummake_Tape_Order.f
  repeat' first
      | (with_reducible exact ih0 _ _ _ _ _)
      | (with_reducible exact ih1 _ _ _ _)
      | (with_reducible exact LeO.refl _)
      | (with_reducible exact LeO.none _)
      | (with_reducible refine LeO.ite ?_ ?_)
      | (with_reducible refine LeO.bind ?_ (fun _ => ?_))
      | exact ih0 _ _ _ _ _
      | exact ih1 _ _ _ _
      | exact LeO.none _
      | refine LeO.ite ?_ ?_
      | refine LeO.bind ?_ (fun _ => ?_)
def trustquorummake_Tape_Order.T10 : Bool × List (List Nat × List Nat) := (true, [([], []), ([], []), ([], []), ([], []), ([], []), ([], []), ([4, 5], [4, 5]), ([6], [6]), ([], []), ([], []), ([8, 9], [8, 9]), ([10], [10]), ([0, 1, 0, 1, 4, 5, 6, 7, 11], [0, 1]), ([12, 7, 0, 1, 4, 5, 6, 7, 11], [7, 12]), ([2, 3, 0, 1, 2, 3, 4, 5, 6, 7, 8, 9, 10, 11, 12, 13], [2, 3]), ([14, 11, 13, 0, 1, 2, 3, 4, 5, 6, 7, 8, 9, 10, 11, 12, 13], [11, 14])])
def trustquorummake_Tape_Order.B10 : List Nat := [0, 0, 0, 0, 0, 0, 48, 112, 0, 0, 768, 1792, 4083, 8179, 16383, 32767]
theorem trustquorummake_Tape_Order.tab10 : rtab .any (opsOf Try.f36 10) = trustquorummake_Tape_Order.T10 := by kernel_rfl
theorem trustquorummake_Tape_Order.bits10 : waitsOk trustquorummake_Tape_Order.T10.2 trustquorummake_Tape_Order.B10 = true := by kernel_rfl
set_option maxHeartbeats 8000000 in
set_option maxRecDepth 100000 in
theorem trustquorummake_Tape_Order.calls (k : Nat) (g : Nat) (s0_0 : List Int) (s0_1 : Int) (a1 : Int) (r1 : List Int) (r2 : Int) (w0 w : World) (hI : IsS43 w0 w g s0_0 s0_1) (hB : Below w0.heap.size w0 w) (h : trustquorummake_Tape_Order.f k s0_0 s0_1 a1 = some (r1, r2)) :
    Calls Try.prog 36 #[.pointer (some ⟨g, 0, none⟩), .int .i64 a1] w fun e w' => ∃ v0_ : Value, e = .returned (v0_) ∧ Kd.R (Kd.int .i64) 3 w' w.heap.size (fun _ => True) v0_ r1 ∧ IsS43 w0 w' g s0_0 r2 ∧ Below w0.heap.size w0 w' ∧ KeepBut w w' g none := by
 have HI0 := am hI; have HK := am (KeepBut.refl w g none); have HL := am hB.size; clear hI; have HW0 := am hB.size; have HB := am hB; clear hB; have H : (trustquorummake_Tape_Order.l0 k a1 ([] : List Int) 0 s0_0 s0_1) = some (r1, r2) := h; clear h; have H' := am H; clear H
 go_enter Try.func36, Try.ntmps36
 go_wp2
 go_loopg [5, 6] k (fun kq v5 v6 w' => ∃ (x5_1 : List Int) (x6_1 : Int), v6 = .int .i64 x6_1 ∧ Aside0 (trustquorummake_Tape_Order.l0 kq a1 x5_1 x6_1 s0_0 s0_1 = some (r1, r2)) ∧ Aside0 (kq ≤ k) ∧ Aside0 (Kd.R (Kd.int .i64) 3 w' w.heap.size (fun _ => True) v5 x5_1) ∧ Aside0 (IsS43 w0 w' g s0_0 s0_1) ∧ Aside0 (KeepBut w w' g none) ∧ Aside0 (Below w0.heap.size w0 w'))
 case atStart => exact ⟨(([] : List Int)), (0), ar, H', ⟨Nat.le_refl _⟩, ⟨by first | exact Kd.R_nil _ _ _ _ _ | exact Kd.N_nil _ _ _ _ _ | exact Kd.V_nil _ _ _ _ _ | exact Kd.Q_nil _ _ _ _ _ | exact Kd.S_nil _ _ _ _ _⟩, ⟨by exact HI0.out⟩, ⟨by exact HK.out⟩, ⟨by exact HB.out⟩⟩
 case round =>
  clear H'; (try clear p2); obtain ⟨x5_1, x6_1, rfl, HA, HK1, HO_5, HI0, HK, HB⟩ := hrel
  cases gk with
  | zero => exact absurd HA.out (by simp [trustquorummake_Tape_Order.l0])
  | succ k1 =>
   have H := HA.out; clear HA; simp only [trustquorummake_Tape_Order.l0] at H
   by_cases c3 : x6_1 < a1
   ·
    rw [if_pos c3] at H; have c3b0 : decide (x6_1 < a1) = true := decide_eq_true c3; clear c3
    by_cases c4 : x5_1.length < 17592186044416
    ·
     rw [if_pos c4] at H; have LMc4 := am c4; clear c4; obtain ⟨y128, hy128⟩ : ∃ y_ : List Int, y_ = (x5_1 ++ [x6_1]) := ⟨_, rfl⟩; replace H : (trustquorummake_Tape_Order.l0 k1 a1 y128 (wrap64 (x6_1 + 1)) s0_0 s0_1) = some (r1, r2) := by first | (rw [hy128]; with_reducible exact H) | (have H2_ := (Option.bind_some _ _).symm.trans H; rw [hy128]; with_reducible exact H2_) | (have H2_ := (Option.bind_some _ _).symm.trans H; with_reducible exact H2_) | with_reducible exact H | (rw [hy128]; exact H) | exact H
     have Ny128 := am hy128; clear hy128; have H' := am H; clear H
     go_wp2_with (first | ((with_reducible refine gate_builtin (b := .append) (xs := #[.tmp 14, .tmp 16]) rfl ?_); at_builtin; refine Kd.R_append (Kd.int .i64) w.heap.size rfl (.tmp 14) (.tmp 16) 22 3 (.int .i64 0) 8 rfl Try.underlying22 info3 rfl (by decide) (by omega) u5 x5_1 x6_1 [.int .i64 x6_1] (fun _ => True) (fun _ => False) rfl rfl ?aP (fun _ hk => hk.elim) ?aF ?aO (Below.refl _ _) ?aS ?aL ?_; (case aP => exact rfl); (case aF => exact (fun _ _ => trivial)); (case aO => exact HO_5.out); (case aS => exact (keep_size (w := w) (g := g) (row := none) HK.out)); (case aL => have := LMc4.out; omega); intro v129 w5 ho hb hg hat; rw [← Ny128.out] at ho; replace HI0 := am (IsS43.grown HI0.out hg (IsS43.own_ne HI0.out HO_5.out (by decide))); replace HB := am (below_weaken HB.out HL.out hb); replace HK := am (KeepBut.trans HK.out (KeepBut.of_grown hg g) (Kd.R_base2 HO_5.out)); have HO130 := am (ho); clear HO_5; clear ho hb hg hat))
     go_roundg k1
     case measure => have := HK1.out; omega
     case rel => exact ⟨(y128), (wrap64 (x6_1 + 1)), ar, H', ⟨by have := HK1.out; omega⟩, ⟨by exact HO130.out⟩, ⟨by exact HI0.out⟩, ⟨by exact HK.out⟩, ⟨by exact HB.out⟩⟩
    ·
     rw [if_neg c4] at H; exact absurd H (by simp)
   ·
    rw [if_neg c3] at H; have c3b0 : decide (x6_1 < a1) = false := decide_eq_false c3; clear c3; have H' := am H; clear H
    go_wp2
    go_loopg [7] k1 (fun kq v7 w' => ∃ (x5_2 : List Int) (x7_2 : Int) (x1001_2 : Int), v7 = .int .i64 x7_2 ∧ Aside0 (trustquorummake_Tape_Order.l1 kq x5_2 x7_2 s0_0 x1001_2 = some (r1, r2)) ∧ Aside0 (kq ≤ k1) ∧ Aside0 (Kd.R (Kd.int .i64) 3 w' w.heap.size (fun _ => True) u5 x5_2) ∧ Aside0 (IsS43 w0 w' g s0_0 x1001_2) ∧ Aside0 (KeepBut w w' g none) ∧ Aside0 (Below w0.heap.size w0 w'))
    case atStart => exact ⟨(x5_1), (wrap64 (a1 - 1)), (s0_1), ar, H', ⟨Nat.le_refl _⟩, ⟨by exact HO_5.out⟩, ⟨by exact HI0.out⟩, ⟨by exact HK.out⟩, ⟨by exact HB.out⟩⟩
    case round =>
     clear H'; (try clear p2); (try clear c3); (try clear c3b0); (try clear c4); (try clear p2); obtain ⟨x5_2, x7_2, x1001_2, rfl, HA, HK2, HO_5, HI0, HK, HB⟩ := hrel
     cases gk with
     | zero => exact absurd HA.out (by simp [trustquorummake_Tape_Order.l1])
     | succ k2 =>
      have H := HA.out; clear HA; simp only [trustquorummake_Tape_Order.l1] at H
      by_cases c6 : x7_2 > 0
      ·
       rw [if_pos c6] at H; have c6b0 : decide (0 < x7_2) = true := decide_eq_true c6; clear c6; replace H := Option.bind_eq_some_iff.mp H; obtain ⟨⟨t131, t132⟩, A70, H⟩ := H; replace H : (if 0 ≤ t131 then (if t131 < (x5_2.length : Int) then (if 0 ≤ x7_2 then (if x7_2 < (x5_2.length : Int) then (trustquorummake_Tape_Order.l1 k2 ((x5_2.set (x7_2 : Int).toNat (rd x5_2 t131)).set (t131 : Int).toNat (rd x5_2 x7_2)) (wrap64 (x7_2 - 1)) s0_0 t132) else (none)) else (none)) else (none)) else (none)) = some (r1, r2) := H; have A7 := am A70; clear A70
       by_cases c8 : 0 ≤ t131
       ·
        rw [if_pos c8] at H; have c8b0 : decide (0 ≤ t131) = true := decide_eq_true c8; clear c8
        by_cases c9 : t131 < (x5_2.length : Int)
        ·
         rw [if_pos c9] at H; have c9b0 : decide (t131 < (x5_2.length : Int)) = true := decide_eq_true c9; clear c9
         by_cases c10 : 0 ≤ x7_2
         ·
          rw [if_pos c10] at H; have c10b0 : decide (0 ≤ x7_2) = true := decide_eq_true c10; clear c10
          by_cases c11 : x7_2 < (x5_2.length : Int)
          ·
           rw [if_pos c11] at H; have c11b0 : decide (x7_2 < (x5_2.length : Int)) = true := decide_eq_true c11; clear c11; obtain ⟨y135, hy135⟩ : ∃ y_ : List Int, y_ = (x5_2.set (x7_2 : Int).toNat (rd x5_2 t131)) := ⟨_, rfl⟩; replace H : (trustquorummake_Tape_Order.l1 k2 (y135.set (t131 : Int).toNat (rd x5_2 x7_2)) (wrap64 (x7_2 - 1)) s0_0 t132) = some (r1, r2) := by first | (rw [hy135]; with_reducible exact H) | (have H2_ := (Option.bind_some _ _).symm.trans H; rw [hy135]; with_reducible exact H2_) | (have H2_ := (Option.bind_some _ _).symm.trans H; with_reducible exact H2_) | with_reducible exact H | (rw [hy135]; exact H) | exact H
           have Ny135 := am hy135; clear hy135; obtain ⟨y136, hy136⟩ : ∃ y_ : List Int, y_ = (y135.set (t131 : Int).toNat (rd x5_2 x7_2)) := ⟨_, rfl⟩; replace H : (trustquorummake_Tape_Order.l1 k2 y136 (wrap64 (x7_2 - 1)) s0_0 t132) = some (r1, r2) := by first | (rw [hy136]; with_reducible exact H) | (have H2_ := (Option.bind_some _ _).symm.trans H; rw [hy136]; with_reducible exact H2_) | (have H2_ := (Option.bind_some _ _).symm.trans H; with_reducible exact H2_) | with_reducible exact H | (rw [hy136]; exact H) | exact H
           have Ny136 := am hy136; clear hy136; have H' := am H; clear H
           try go_wp2_with (first | ((with_reducible refine gate_callee (f := 13) rfl ?_); refine goesL_ (some 27) rfl rfl Try.func13 (by kernel_rfl) rfl #[.pointer (some ⟨g, 0, none⟩), .int .i64 (wrap64 (x7_2 + 1))] rfl ax ?_; (with_reducible refine (trustquorummake_Tape_N.calls g s0_0 x1001_2 (wrap64 (x7_2 + 1)) t131 t132 w0 _ ?side1 ?side2 A7.out).mono ?_); (case side1 => exact HI0.out); (case side2 => exact HB.out); rintro e w14 ⟨rfl, hi, hb, hk⟩; refine ⟨_, rfl, ?_⟩; replace HO_5 := am (Kd.R_mono (Kd.R_keep (IsS43.apart (show IsS43 w0 _ g s0_0 x1001_2 from by exact HI0.out) HO_5.out (by decide)) hk (fun _ h => h.2)) (fun _ h => h.1)); replace HK := am (KeepBut.trans HK.out hk (.inl rfl)); replace HB := am (hb); replace HI0 := am (hi); (try clear hb); (try clear hb2); (try clear hk); (try clear hi)))
           replace HO_5 := am (Kd.R_drew HO_5.out); replace HI0 := am (IsS43.drew HI0.out); replace HK := am (keep_drew HK.out); replace HB := am (below_drew1 HB.out); obtain ⟨Ao16, co16, eo16⟩ := Kd.R_slice HO_5.out; (first | subst eo16 | (injection eo16 with f1_ f2_ f3_; have f4_ := f1_.symm; have f5_ := f3_.symm; clear f1_ f2_ f3_; subst f4_; subst f5_)); have p133 : 0 ≤ (t131 : Int) := od; have q133 : t131 < (x5_2.length : Int) := od; obtain ⟨ad133, e133, hx133_0⟩ := Kd.at_int (Kd.R_reads' HO_5.out).2.2 t131 p133 q133
           cases e133
           replace p133 := eq_true p133; replace q133 := eq_true q133; have p134 : 0 ≤ (x7_2 : Int) := od; have q134 : x7_2 < (x5_2.length : Int) := od; obtain ⟨ad134, e134, hx134_0⟩ := Kd.at_int (Kd.R_reads' HO_5.out).2.2 x7_2 p134 q134; obtain rfl : ad133 = ad134 := (by injection e134); replace p134 := eq_true p134; replace q134 := eq_true q134; have p12 : 0 ≤ (x7_2 : Int) := od; have q12 : (x7_2 : Int) < ((x5_2.length : Int) : Int) := od; obtain ⟨go12, co12, eo12, gb12, gl12, cl12, HG12⟩ := Kd.R_form HO_5.out (by omega); (first | cases eo12 | (injection eo12 with ea_ en_ ec_; (first | subst ea_ | (injection ea_ with ea_; subst ea_)); subst ec_; clear en_)); have GB12 := am gb12; have GG12 := am HG12; clear gb12 gl12 HG12; (first | simp only [add_plain] at hx133_0 | skip); (first | simp only [add_plain] at hx134_0 | skip); obtain ⟨hx12_0, hf12_0⟩ := Kd.R_celln 0 HO_5.out (x7_2 : Int) p12 q12; replace p12 := eq_true p12; replace q12 := eq_true q12; have HN0_go12 := am (show g ≠ go12 from by have h_ := IsS43.own_ne HI0.out HO_5.out (by decide); intro e_; exact h_ (by rw [e_]; rfl)); have HP17 := Kd.R_putn HO_5.out (x7_2 : Int) (rd x5_2 t131); rw [← Ny135.out] at HP17; have HQ17 := am HP17
           clear HP17; have p13 : 0 ≤ (t131 : Int) := od; have q13 : (t131 : Int) < ((x5_2.length : Int) : Int) := od; obtain ⟨hx13_0, hf13_0⟩ := Kd.R_celln 0 HQ17.out (t131 : Int) p13 q13; replace p13 := eq_true p13; replace q13 := eq_true q13; have HN0_go12 := am (show g ≠ go12 from by have h_ := IsS43.own_ne HI0.out HO_5.out (by decide); intro e_; exact h_ (by rw [e_]; rfl)); have HP18 := Kd.R_putn HQ17.out (t131 : Int) (rd x5_2 x7_2); rw [← Ny136.out] at HP18; have HQ18 := am HP18; clear HP18; refine start_ (n := 16) (S := fun w' => w'.cell? ⟨go12, (t131).toNat, none⟩ = some (.int .i64 (rd x5_2 t131)) ∧ w'.cell? ⟨go12, (x7_2).toNat, none⟩ = some (.int .i64 (rd x5_2 x7_2))) (ds := [13, 15]) #[false, false, false, false, false, false, false, false, false, false, false, false, false, false, false, false] (by kernel_rfl) rfl rfl ⟨hx133_0, hx134_0⟩ (fun hHeld => ?_); refine with_tabW trustquorummake_Tape_Order.tab10 trustquorummake_Tape_Order.bits10 (fun HT_ HW_ => ?_); generalize w14.drew = w15 at HO_5 HI0 HK HB GG12 HQ17 HQ18 hf12_0 hf13_0 hx12_0 hx133_0 hx134_0 hx13_0 hHeld ⊢; refine pq (i := 0) (N := some 28) #[true, false, false, false, false, false, false, false, false, false, false, false, false, false, false, false] HT_ ?_
           refine pq (i := 1) (N := some 29) #[true, true, false, false, false, false, false, false, false, false, false, false, false, false, false, false] HT_ ?_
           refine pq (i := 2) (N := some 30) #[true, true, true, false, false, false, false, false, false, false, false, false, false, false, false, false] HT_ ?_
           refine pq (i := 3) (N := some 31) #[true, true, true, true, false, false, false, false, false, false, false, false, false, false, false, false] HT_ ?_
           refine pq (i := 4) (N := some 32) #[true, true, true, true, true, false, false, false, false, false, false, false, false, false, false, false] HT_ ?_
           refine pq (i := 5) (N := some 33) #[true, true, true, true, true, true, false, false, false, false, false, false, false, false, false, false] HT_ ?_
           refine pq (i := 6) (N := some 34) #[true, true, true, true, true, true, true, false, false, false, false, false, false, false, false, false] HT_ ?_
           refine pq (i := 8) (N := some 36) #[true, true, true, true, true, true, true, false, true, false, false, false, false, false, false, false] HT_ ?_
           refine pq (i := 9) (N := some 37) #[true, true, true, true, true, true, true, false, true, true, false, false, false, false, false, false] HT_ ?_
           refine pq (i := 10) (N := some 38) #[true, true, true, true, true, true, true, false, true, true, true, false, false, false, false, false] HT_ ?_
           refine tq (i := 7) (N := some 35) #[true, true, true, true, true, true, true, true, true, true, true, false, false, false, false, false] HT_ HW_ hHeld ?_
           refine tq (i := 11) (N := some 39) #[true, true, true, true, true, true, true, true, true, true, true, true, false, false, false, false] HT_ HW_ hHeld ?_
           refine pq (i := 12) (N := some 40) #[true, true, true, true, true, true, true, true, true, true, true, true, true, false, false, false] HT_ ?_
           refine last_ (i := 13) (N := none) #[true, true, true, true, true, true, true, true, true, true, true, true, true, true, false, false] rfl rfl (one_of HT_.out (by kernel_rfl)) (by decide) (fun K hK => ?_); refine skip_ (w1 := ?_) (by rfl) rfl ?_ ?_; rotate_left
           ·
            go_simp; rfl
           refine hK.out _ _ ?_; clear hK K; refine pq (i := 14) (N := some 41) #[true, true, true, true, true, true, true, true, true, true, true, true, true, true, true, false] HT_ ?_
           refine last_ (i := 15) (N := none) #[true, true, true, true, true, true, true, true, true, true, true, true, true, true, true, true] rfl rfl (one_of HT_.out (by kernel_rfl)) (by decide) (fun K hK => ?_); refine skip_ (w1 := ?_) (by rfl) rfl ?_ ?_; rotate_left
           ·
            go_simp; rfl
           refine hK.out _ _ ?_; clear hK K; refine done_ (done_of HT_.out (by kernel_rfl)) ?_
           try go_wp2
           go_roundg k2
           case measure => have := HK1.out; have := HK2.out; omega
           case rel => exact ⟨(y136), (wrap64 (x7_2 - 1)), (t132), ar, H', ⟨by have := HK1.out; have := HK2.out; omega⟩, ⟨by (with_reducible repeat (first | apply Kd.R_alloc | apply Kd.R_drewN | apply Kd.R_drew)); exact HQ18.out⟩, ⟨by repeat (first | (with_reducible first | exact HI0.out | apply IsS43.alloc | apply IsS43.drewN | apply IsS43.drew | apply IsS43.set_1 | refine IsS43.far ?_ HN0_go12.out _ | refine IsS43.far ?_ HN0_go12.out _) | exact HI0.out)⟩, ⟨by repeat (first | (with_reducible first | exact HK.out | apply KeepBut.set_ | apply keep_drewN | apply keep_drew | apply keep_alloc | refine keep_far ?_ GB12.out _ | refine keep_far ?_ GB12.out _) | exact HK.out)⟩, ⟨by repeat (first | (with_reducible first | exact HB.out | apply below_alloc | apply pw_below_drewN | apply below_drew1 | refine below_set ?_ (Nat.le_trans HL.out GB12.out) | refine below_set ?_ (Nat.le_trans HL.out GB12.out) | refine below_set ?_ (IsS43.ge HI0.out)) | exact HB.out)⟩⟩
          ·
           rw [if_neg c11] at H; exact absurd H (by simp)
         ·
          rw [if_neg c10] at H; exact absurd H (by simp)
        ·
         rw [if_neg c9] at H; exact absurd H (by simp)
       ·
        rw [if_neg c8] at H; exact absurd H (by simp)
      ·
       rw [if_neg c6] at H; have c6b0 : decide (0 < x7_2) = false := decide_eq_false c6; clear c6; simp only [Option.some.injEq, Prod.mk.injEq] at H; obtain ⟨rfl, rfl⟩ := H
       go_wp2
       go_ret
       exact ⟨_, by first | rfl | (simp [errW_none, errW_some] <;> rfl) | (simp [*, errW_none, errW_some] <;> rfl), by exact HO_5.out, by exact HI0.out, by exact HB.out, by exact HK.out⟩
/-! ### trustquorummake_Tape_Pick: function 42 -/
def trustquorummake_Tape_Pick.f (s0_0 : List Int) (s0_1 : Int) (l1 : List Int) : Option (Int × Int) := (trustquorummake_Tape_N.f s0_0 s0_1 (l1.length : Int)).bind fun bt137 => (if 0 ≤ bt137.1 then (if bt137.1 < (l1.length : Int) then (some (rd l1 bt137.1, bt137.2)) else (none)) else (none))
set_option maxHeartbeats 8000000 in
set_option maxRecDepth 100000 in
theorem trustquorummake_Tape_Pick.calls (g : Nat) (s0_0 : List Int) (s0_1 : Int) (A1 : Option Addr) (c1 : Nat) (l1 : List Int) (r1 : Int) (r2 : Int) (w0 w : World) (hI : IsS43 w0 w g s0_0 s0_1) (hB : Below w0.heap.size w0 w) (hr1 : Kd.C (Kd.int .i64) w A1 l1.length l1) (hc1 : l1.length ≤ c1) (hf1 : ∀ ad, A1 = some ad → 0 < l1.length → ad.block ≠ g) (h : trustquorummake_Tape_Pick.f s0_0 s0_1 l1 = some (r1, r2)) :
    Calls Try.prog 42 #[.pointer (some ⟨g, 0, none⟩), .slice A1 l1.length c1] w fun e w' => e = .returned (.int .i64 r1) ∧ IsS43 w0 w' g s0_0 r2 ∧ Below w0.heap.size w0 w' ∧ KeepBut w w' g none := by
 have HR1 := am hr1; have HC1 := am hc1; clear hr1 hc1; have HI0 := am hI; have HK := am (KeepBut.refl w g none); have HL := am hB.size; clear hI; have HW0 := am hB.size; have HB := am hB; clear hB; have H : ((trustquorummake_Tape_N.f s0_0 s0_1 (l1.length : Int)).bind fun bt137 => (if 0 ≤ bt137.1 then (if bt137.1 < (l1.length : Int) then (some (rd l1 bt137.1, bt137.2)) else (none)) else (none))) = some (r1, r2) := h; clear h; replace H := Option.bind_eq_some_iff.mp H; obtain ⟨⟨t137, t138⟩, A30, H⟩ := H; replace H : (if 0 ≤ t137 then (if t137 < (l1.length : Int) then (some (rd l1 t137, t138)) else (none)) else (none)) = some (r1, r2) := H; have A3 := am A30; clear A30
 by_cases c4 : 0 ≤ t137
 ·
  rw [if_pos c4] at H; have c4b0 : decide (0 ≤ t137) = true := decide_eq_true c4; clear c4
  by_cases c5 : t137 < (l1.length : Int)
  ·
   rw [if_pos c5] at H; have c5b0 : decide (t137 < (l1.length : Int)) = true := decide_eq_true c5; clear c5; simp only [Option.some.injEq, Prod.mk.injEq] at H; obtain ⟨rfl, rfl⟩ := H
   go_enter Try.func42, Try.ntmps42
   go_wp2_with (first | ((with_reducible refine gate_callee (f := 13) rfl ?_); refine goesL_ (some 9) rfl rfl Try.func13 (by kernel_rfl) rfl #[.pointer (some ⟨g, 0, none⟩), .int .i64 (l1.length : Int)] rfl ax ?_; (with_reducible refine (trustquorummake_Tape_N.calls g s0_0 s0_1 (l1.length : Int) t137 t138 w0 _ ?side1 ?side2 A3.out).mono ?_); (case side1 => exact HI0.out); (case side2 => exact HB.out); rintro e w6 ⟨rfl, hi, hb, hk⟩; refine ⟨_, rfl, ?_⟩; replace HK := am (KeepBut.trans HK.out hk (.inl rfl)); replace HB := am (hb); replace HI0 := am (hi); (try clear hb); (try clear hb2); (try clear hk); (try clear hi); have p139 : 0 ≤ (t137 : Int) := od; have q139 : t137 < (l1.length : Int) := od; obtain ⟨ad139, e139, hx139_0⟩ := Kd.at_int HR1.out t137 p139 q139; cases e139; replace hx139_0 := keep_cell HK.out hx139_0 (by first | (rw [add_block]; exact hf1 _ rfl (by omega)) | exact hf1 _ rfl (by omega) | exact hf1 ad139 rfl (by omega)); replace p139 := eq_true p139; replace q139 := eq_true q139))
   go_ret
   exact ⟨er, by exact HI0.out, by exact HB.out, by exact HK.out⟩
  ·
   rw [if_neg c5] at H; exact absurd H (by simp)
 ·
  rw [if_neg c4] at H; exact absurd H (by simp)
end Go.Proofs.Yteljoemeogeidaa.QThresholdAnswers
