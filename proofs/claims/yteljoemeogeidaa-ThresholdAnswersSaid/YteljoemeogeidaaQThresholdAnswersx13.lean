/- Lean functions that answer as the Go functions do which the law reaches, and proofs that the Go code comes to exactly these answers. Conditions: those that each theorem names. -/
import Derived.Test.YteljoemeogeidaaQThresholdAnswersx0
namespace Go.Proofs.Yteljoemeogeidaa.QThresholdAnswers
open Go.RowKit Go.Proofs.YteljoemeogeidaaW.PrintWords Go.Proofs.YteljoemeogeidaaW.PrintLast Go.Proofs.YteljoemeogeidaaW.PrintMore
attribute [local go_sem] max2_int min2_int max_two min_two max_three min_three max_four min_four   -- for this text's walks alone
set_option linter.unusedVariables false
set_option linter.unusedSimpArgs false

/-! ### trustquorumref02_Dual: function 29 -/
mutual
def trustquorumref02_Dual.l0 : Nat → List (S27) → Int → Int → Int → List Int → List (S27) → Option (Int × List Int × (List (S27)))
  | 0, _, _, _, _, _, _ => none
  | k + 1, x23, x24, x25, x391000, x391001, x391002 => if x25 < x24 then (if 0 ≤ x25 then (if x25 < (x23.length : Int) then ((trustquorumref02_Dual.f k ((rd_T27 x23 x25).f0) ((rd_T27 x23 x25).f1) ((rd_T27 x23 x25).f2)).bind fun bt393 => (if x391002.length < 2513169434916 then (trustquorumref02_Dual.l0 k x23 x24 (wrap64 (x25 + 1)) x391000 x391001 (x391002 ++ [(⟨bt393.1, bt393.2.1, bt393.2.2⟩ : S27)])) else (none))) else (none)) else (none)) else (some (x391000, x391001, x391002))
def trustquorumref02_Dual.f : Nat → Int → List Int → List (S27) → Option (Int × List Int × (List (S27)))
  | 0, _, _, _ => none
  | k + 1, a0_0, l0_1, l0_2 => (some (([] : List Int) : List Int)).bind fun y384 => (if y384.length + l0_1.length < 17592186044416 then (trustquorumref02_Dual.l0 k l0_2 (l0_2.length : Int) 0 (wrap64 ((wrap64 ((wrap64 ((l0_1.length : Int) + (l0_2.length : Int))) + 1)) - a0_0)) (y384 ++ l0_1) ([] : List (S27))) else (none))
end
theorem trustquorumref02_Dual.mono_l : ∀ k, (∀ y0 y1 y2, LeO (trustquorumref02_Dual.f k y0 y1 y2) (trustquorumref02_Dual.f (k + 1) y0 y1 y2)) ∧ (∀ y0 y1 y2 y3 y4 y5, LeO (trustquorumref02_Dual.l0 k y0 y1 y2 y3 y4 y5) (trustquorumref02_Dual.l0 (k + 1) y0 y1 y2 y3 y4 y5))
  | 0 => ⟨fun _ _ _ r h => by simp [trustquorumref02_Dual.f] at h, fun _ _ _ _ _ _ r h => by simp [trustquorumref02_Dual.l0] at h⟩
  | k + 1 => by
    obtain ⟨ih0, ih1⟩ := trustquorumref02_Dual.mono_l k
    refine ⟨?_, ?_⟩
    · intro y0 y1 y2
      unfold trustquorumref02_Dual.f
      repeat' first
      | (with_reducible exact ih0 _ _ _)
      | (with_reducible exact ih1 _ _ _ _ _ _)
      | (with_reducible exact LeO.refl _)
      | (with_reducible exact LeO.none _)
      | (with_reducible refine LeO.ite ?_ ?_)
      | (with_reducible refine LeO.bind ?_ (fun _ => ?_))
      | exact ih0 _ _ _
      | exact ih1 _ _ _ _ _ _
      | exact LeO.none _
      | refine LeO.ite ?_ ?_
      | refine LeO.bind ?_ (fun _ => ?_)
    · intro y0 y1 y2 y3 y4 y5
      unfold trustquorumref02_Dual.l0
      repeat' first
      | (with_reducible exact ih0 _ _ _)
      | (with_reducible exact ih1 _ _ _ _ _ _)
      | (with_reducible exact LeO.refl _)
      | (with_reducible exact LeO.none _)
      | (with_reducible refine LeO.ite ?_ ?_)
      | (with_reducible refine LeO.bind ?_ (fun _ => ?_))
      | exact ih0 _ _ _
      | exact ih1 _ _ _ _ _ _
      | exact LeO.none _
      | refine LeO.ite ?_ ?_
      | refine LeO.bind ?_ (fun _ => ?_)
theorem trustquorumref02_Dual.mono : ∀ a0 a1 a2 k, LeO (trustquorumref02_Dual.f k a0 a1 a2) (trustquorumref02_Dual.f (k + 1) a0 a1 a2) := by
  intro a0 a1 a2 k
  obtain ⟨ih0, ih1⟩ := trustquorumref02_Dual.mono_l k
  exact ih0 a0 a1 a2
def trustquorumref02_Dual.T1 : Bool × List (List Nat × List Nat) := (true, [([], []), ([0], [0]), ([1], [1]), ([], []), ([3], [3]), ([4], [4]), ([2, 5], [2, 5]), ([6], [6]), ([], []), ([8], [8]), ([7, 9], [7, 9]), ([], []), ([], []), ([12], [12]), ([11, 13], [11, 13]), ([10, 14], [10, 14]), ([], []), ([16, 15, 14, 0, 1, 2, 3, 4, 5, 6, 7, 8, 9, 10, 11, 12, 13, 14, 15, 16], [15, 16])])
def trustquorumref02_Dual.B1 : List Nat := [0, 1, 3, 0, 8, 24, 63, 127, 0, 256, 1023, 0, 0, 4096, 14336, 32767, 0, 131071]
theorem trustquorumref02_Dual.tab1 : rtab .any (opsOf Try.f29 1) = trustquorumref02_Dual.T1 := by kernel_rfl
theorem trustquorumref02_Dual.bits1 : waitsOk trustquorumref02_Dual.T1.2 trustquorumref02_Dual.B1 = true := by kernel_rfl
def trustquorumref02_Dual.T5 : Bool × List (List Nat × List Nat) := (true, [([], []), ([0], [0]), ([], []), ([2], [2]), ([3], [3]), ([1, 4, 3], [1, 4]), ([0, 1, 2, 3, 4, 5], []), ([6, 5, 5, 0, 1, 2, 3, 4, 5], [5, 6])])
def trustquorumref02_Dual.B5 : List Nat := [0, 1, 0, 4, 12, 31, 63, 127]
theorem trustquorumref02_Dual.tab5 : rtab .any (opsOf Try.f29 5) = trustquorumref02_Dual.T5 := by kernel_rfl
theorem trustquorumref02_Dual.bits5 : waitsOk trustquorumref02_Dual.T5.2 trustquorumref02_Dual.B5 = true := by kernel_rfl
set_option maxHeartbeats 8000000 in
set_option maxRecDepth 100000 in
theorem trustquorumref02_Dual.calls (k : Nat) : ∀ (a0_0 : Int) (A0_1 : Option Addr) (c0_1 : Nat) (l0_1 : List Int) (A0_2 : Option Addr) (c0_2 : Nat) (l0_2 : List (S27)) (r1 : Int) (r2 : List Int) (r3 : List (S27)) (w : World) (hr0_1 : Kd.C (Kd.int .i64) w A0_1 l0_1.length l0_1) (hc0_1 : l0_1.length ≤ c0_1) (hr0_2 : Kd.C k27 w A0_2 l0_2.length l0_2) (hc0_2 : l0_2.length ≤ c0_2) (h : trustquorumref02_Dual.f k a0_0 l0_1 l0_2 = some (r1, r2, r3)),
    Calls Try.prog 29 #[.agg #[.int .i64 a0_0, .slice A0_1 l0_1.length c0_1, .slice A0_2 l0_2.length c0_2]] w fun e w' => ∃ v1_ v2_ : Value, e = .returned (.agg #[.int .i64 r1, v1_, v2_]) ∧ Kd.R (Kd.int .i64) 3 w' w.heap.size (fun _ => True) v1_ r2 ∧ Kd.R k27 27 w' w.heap.size (fun k_ => some k_ ≠ (v1_ : Value).ownBlock) v2_ r3 ∧ Below w.heap.size w w' := by
 induction k using Nat.strongRecOn with
 | _ k ih =>
 intro a0_0 A0_1 c0_1 l0_1 A0_2 c0_2 l0_2 r1 r2 r3 w hr0_1 hc0_1 hr0_2 hc0_2 h
 cases k with
 | zero => exact absurd h (by simp [trustquorumref02_Dual.f])
 | succ k =>
 simp only [trustquorumref02_Dual.f] at h; have hu27 := Try.underlying27; have HR0_1 := am hr0_1; have HC0_1 := am hc0_1; clear hr0_1 hc0_1; have HR0_2 := am hr0_2; have HC0_2 := am hc0_2; clear hr0_2 hc0_2; have HB := am (Below.refl w.heap.size w); have H : ((some (([] : List Int) : List Int)).bind fun y384 => (if y384.length + l0_1.length < 17592186044416 then (trustquorumref02_Dual.l0 k l0_2 (l0_2.length : Int) 0 (wrap64 ((wrap64 ((wrap64 ((l0_1.length : Int) + (l0_2.length : Int))) + 1)) - a0_0)) (y384 ++ l0_1) ([] : List (S27))) else (none))) = some (r1, r2, r3) := h; clear h; obtain ⟨y384, hy384⟩ : ∃ y_ : List Int, y_ = (([] : List Int)) := ⟨_, rfl⟩; replace H : (if y384.length + l0_1.length < 17592186044416 then (trustquorumref02_Dual.l0 k l0_2 (l0_2.length : Int) 0 (wrap64 ((wrap64 ((wrap64 ((l0_1.length : Int) + (l0_2.length : Int))) + 1)) - a0_0)) (y384 ++ l0_1) ([] : List (S27))) else (none)) = some (r1, r2, r3) := by first | (rw [hy384]; with_reducible exact H) | (have H2_ := (Option.bind_some _ _).symm.trans H; rw [hy384]; with_reducible exact H2_) | (have H2_ := (Option.bind_some _ _).symm.trans H; with_reducible exact H2_) | with_reducible exact H | (rw [hy384]; exact H) | exact H
 have Ny384 := am hy384; clear hy384
 by_cases c2 : y384.length + l0_1.length < 17592186044416
 ·
  rw [if_pos c2] at H; have LMc2 := am c2; clear c2; obtain ⟨y387, hy387⟩ : ∃ y_ : List Int, y_ = (y384 ++ l0_1) := ⟨_, rfl⟩; replace H : (trustquorumref02_Dual.l0 k l0_2 (l0_2.length : Int) 0 (wrap64 ((wrap64 ((wrap64 ((l0_1.length : Int) + (l0_2.length : Int))) + 1)) - a0_0)) y387 ([] : List (S27))) = some (r1, r2, r3) := by first | (rw [hy387]; with_reducible exact H) | (have H2_ := (Option.bind_some _ _).symm.trans H; rw [hy387]; with_reducible exact H2_) | (have H2_ := (Option.bind_some _ _).symm.trans H; with_reducible exact H2_) | with_reducible exact H | (rw [hy387]; exact H) | exact H
  have Ny387 := am hy387; clear hy387; have H' := am H; clear H
  go_enter Try.func29, Try.ntmps29
  try go_wp2_with (first | ((with_reducible refine gate_dst (N := 1) rfl ?_); refine box_event ?hg (N := 1) ?hd (cs := #[.int .i64 a0_0, .slice A0_1 l0_1.length c0_1, .slice A0_2 l0_2.length c0_2]) (t := 27) ?hr ?_; (case hd => rfl); (case hg => rfl); (case hr => first | (go_simp; done) | (go_simp; rfl)); intro gb382 hg w3 hbox hb; have BK382 := am (hbox); have GW382 := am ((by rw [hg]; exact (below_size HB.out) : w.heap.size ≤ gb382)); have GE382 := am ((by rw [hg]; exact (below_size HB.out) : w.heap.size ≤ gb382)); replace HB := bs HB hb; clear hb hbox hg) | ((with_reducible refine gate_dst (N := 2) rfl ?_); refine box_event ?hg (N := 2) ?hd (cs := #[.int .i64 0, .slice none 0 0, .slice none 0 0]) (t := 27) ?hr ?_; (case hd => rfl); (case hg => rfl); (case hr => first | (go_simp; done) | (go_simp; rfl)); intro gb383 hg w4 hbox hb; have BK383 := am (hbox); have GW383 := am ((by rw [hg]; exact (below_size HB.out) : w.heap.size ≤ gb383)); have GE383 := am ((by rw [hg]; exact (below_size HB.out) : w.heap.size ≤ gb383)); replace HB := bs HB hb; have NB382_383 := am ((by rw [hg]; exact Nat.ne_of_lt (blk_lt BK382.out) : gb382 ≠ gb383)); have NB383_382 := am ((by rw [hg]; exact Nat.ne_of_gt (blk_lt BK382.out) : gb383 ≠ gb382)); replace BK382 := bb BK382 hb; clear hb hbox hg))
  replace BK382 := am (blk_drew BK382.out); replace BK383 := am (blk_drew BK383.out); replace HB := am (below_drew1 HB.out); refine start_ (n := 18) (S := fun w' => w'.cell? ⟨gb382, 0, none⟩ = some (.int .i64 a0_0) ∧ w'.cell? ⟨gb382, 1, none⟩ = some (.slice A0_1 l0_1.length c0_1) ∧ w'.cell? ⟨gb382, 2, none⟩ = some (.slice A0_2 l0_2.length c0_2)) (ds := []) #[false, false, false, false, false, false, false, false, false, false, false, false, false, false, false, false, false, false] (by kernel_rfl) rfl rfl ⟨(blk_cell BK382.out 0).trans rfl, (blk_cell BK382.out 1).trans rfl, (blk_cell BK382.out 2).trans rfl⟩ (fun hHeld => ?_); refine with_tabW trustquorumref02_Dual.tab1 trustquorumref02_Dual.bits1 (fun HT_ HW_ => ?_); generalize w4.drew = w5 at BK382 BK383 HB hHeld ⊢; refine pq (i := 0) (N := some 6) #[true, false, false, false, false, false, false, false, false, false, false, false, false, false, false, false, false, false] HT_ ?_
  refine pq (i := 3) (N := some 9) #[true, false, false, true, false, false, false, false, false, false, false, false, false, false, false, false, false, false] HT_ ?_
  refine pq (i := 8) (N := some 14) #[true, false, false, true, false, false, false, false, true, false, false, false, false, false, false, false, false, false] HT_ ?_
  refine pq (i := 12) (N := some 18) #[true, false, false, true, false, false, false, false, true, false, false, false, true, false, false, false, false, false] HT_ ?_
  refine tq (i := 1) (N := some 7) #[true, true, false, true, false, false, false, false, true, false, false, false, true, false, false, false, false, false] HT_ HW_ hHeld ?_
  refine pq (i := 2) (N := some 8) #[true, true, true, true, false, false, false, false, true, false, false, false, true, false, false, false, false, false] HT_ ?_
  refine tq (i := 4) (N := some 10) #[true, true, true, true, true, false, false, false, true, false, false, false, true, false, false, false, false, false] HT_ HW_ hHeld ?_
  refine pq (i := 5) (N := some 11) #[true, true, true, true, true, true, false, false, true, false, false, false, true, false, false, false, false, false] HT_ ?_
  refine pq (i := 6) (N := some 12) #[true, true, true, true, true, true, true, false, true, false, false, false, true, false, false, false, false, false] HT_ ?_
  refine pq (i := 7) (N := some 13) #[true, true, true, true, true, true, true, true, true, false, false, false, true, false, false, false, false, false] HT_ ?_
  refine tq (i := 9) (N := some 15) #[true, true, true, true, true, true, true, true, true, true, false, false, true, false, false, false, false, false] HT_ HW_ hHeld ?_
  refine pq (i := 10) (N := some 16) #[true, true, true, true, true, true, true, true, true, true, true, false, true, false, false, false, false, false] HT_ ?_
  refine tq (i := 13) (N := some 19) #[true, true, true, true, true, true, true, true, true, true, true, false, true, true, false, false, false, false] HT_ HW_ hHeld ?_
  refine join_ (σ := Value × Value × Nat) 1 #[true, true, true, true, true, true, true, true, true, true, true, true, true, true, true, true, true, false] (fun s_ => [(17, s_.1), (20, s_.2.1), (3, .pointer (some ⟨s_.2.2, 0, none⟩)), (21, .agg #[.int .i64 (wrap64 ((wrap64 ((wrap64 ((l0_1.length : Int) + (l0_2.length : Int))) + 1)) - a0_0)), s_.2.1, .slice none 0 0])]) (fun s_ w' => (w'.cell? ⟨gb382, 0, none⟩ = some (.int .i64 a0_0) ∧ w'.cell? ⟨gb382, 1, none⟩ = some (.slice A0_1 l0_1.length c0_1) ∧ w'.cell? ⟨gb382, 2, none⟩ = some (.slice A0_2 l0_2.length c0_2)) ∧ (Kd.R (Kd.int .i64) 3 w' w.heap.size (fun _ => True) s_.2.1 y387) ∧ (w'.heap[gb382]? = some (.cells #[.int .i64 a0_0, .slice A0_1 l0_1.length c0_1, .slice A0_2 l0_2.length c0_2] 27 (0, 0))) ∧ (w'.heap[gb383]? = some (.cells #[.int .i64 0, .slice none 0 0, .slice none 0 0] 27 (0, 0))) ∧ (w'.heap[s_.2.2]? = some (.cells #[.int .i64 0, .slice none 0 0, .slice none 0 0] 27 (0, 0))) ∧ (w.heap.size ≤ s_.2.2) ∧ (w.heap.size ≤ s_.2.2) ∧ (gb382 ≠ s_.2.2) ∧ (s_.2.2 ≠ gb382) ∧ (gb383 ≠ s_.2.2) ∧ (s_.2.2 ≠ gb383) ∧ (Below w.heap.size w w')) ?_ ?_; rotate_left
  ·
   intro hCont; refine two_ (i := 11) (j := 16) (Ni := some 17) (Nj := some 3) #[true, true, true, true, true, true, true, true, true, true, true, true, true, true, false, false, false, false] #[true, true, true, true, true, true, true, true, true, true, true, false, true, true, false, false, true, false] rfl rfl rfl rfl (two_of HT_.out (by kernel_rfl)) (by decide) (by decide) (fun K hK => ?_) (fun K hK => ?_)
   ·
    skip
    refine Kd.R_lit_step (Kd.int .i64) _ 3 ?hg (N := 17) ?hd (xs := ([] : List Int)) (inner := []) (ok := fun _ => True) (okp := fun _ => True) ?hr ?hp (fun _ hk => hk) trivial (Below.refl _ _) (Nat.le_refl _) (by simp) ?_; (case hd => rfl); (case hg => rfl); (case hr => first | (go_simp; done) | (go_simp; rfl)); (case hp => exact (Reps.none _ _)); intro v385 w6 ho7 hb hg_ hnew_; clear hg_ hnew_; (first | rw [← Ny384.out] at ho7 | (simp only [Int.reduceToNat] at ho7; rw [← Ny384.out] at ho7)); have HO386 := am (Kd.R_lower ho7 (below_size HB.out)); replace BK382 := bb BK382 hb; replace BK383 := bb BK383 hb; replace HB := bs HB hb; clear hb ho7; refine hK.out _ _ ⟨(blk_cell BK382.out 0).trans rfl, (blk_cell BK382.out 1).trans rfl, (blk_cell BK382.out 2).trans rfl⟩ (fun hHeld => ?_); clear hK K; refine norm_ (a' := ?_) ?_ ?_; rotate_left
    ·
     show Act.put _ (some 17) _ = _
     exact pu
    refine two_ (i := 14) (j := 16) (Ni := some 20) (Nj := some 3) #[true, true, true, true, true, true, true, true, true, true, true, true, true, true, true, false, false, false] #[true, true, true, true, true, true, true, true, true, true, true, true, true, true, false, false, true, false] rfl rfl rfl rfl (two_of HT_.out (by kernel_rfl)) (by decide) (by decide) (fun K hK => ?_) (fun K hK => ?_)
    ·
     skip
     refine Kd.R_append_rows_step (Kd.int .i64) (w0 := w) w.heap.size (by rfl) (.tmp 17) (.tmp 19) 22 3 (.int .i64 0) 8 rfl Try.underlying22 info3 rfl (by decide) (by omega) v385 y384 l0_1 _ _ _ (fun _ => True) (fun _ => False) rfl rfl ?aO ?aR (fun _ _ h => h) (fun _ h => h.elim) ?aF ?aB ?aS ?aL ?_
     (case aR => exact (Kd.C_below HR0_1.out HB.out))
     (case aB => exact HB.out)
     (case aF => exact (fun _ _ => trivial))
     (case aO => exact HO386.out)
     (case aS => exact (below_size HB.out))
     (case aL => have := LMc2.out; omega)
     intro v388 w8 ho hb hg hat; rw [← Ny387.out] at ho; replace BK382 := am (blk_grown BK382.out hg (Kd.R_ne HO386.out BK382.out (by decide))); replace BK383 := am (blk_grown BK383.out hg (Kd.R_ne HO386.out BK383.out (by decide))); replace HB := am (hb); have HO389 := am (ho); clear HO386; clear ho hb hg hat; obtain ⟨Ao9, co9, eo9⟩ := Kd.R_slice HO389.out; (first | subst eo9 | (injection eo9 with f1_ f2_ f3_; have f4_ := f1_.symm; have f5_ := f3_.symm; clear f1_ f2_ f3_; subst f4_; subst f5_)); refine hK.out _ _ ⟨(blk_cell BK382.out 0).trans rfl, (blk_cell BK382.out 1).trans rfl, (blk_cell BK382.out 2).trans rfl⟩ (fun hHeld => ?_); clear hK K; refine norm_ (a' := ?_) ?_ ?_; rotate_left
     ·
      show Act.put _ (some 20) _ = _
      exact pu
     refine pq (i := 15) (N := some 21) #[true, true, true, true, true, true, true, true, true, true, true, true, true, true, true, true, false, false] HT_ ?_
     refine one_ (i := 16) (N := some 3) #[true, true, true, true, true, true, true, true, true, true, true, true, true, true, true, true, true, false] rfl rfl (one_of HT_.out (by kernel_rfl)) (by decide) (fun K hK => ?_); refine box_step ?hg (N := 3) ?hd (cs := #[.int .i64 0, .slice none 0 0, .slice none 0 0]) (t := 27) ?hr ?_; (case hd => rfl); (case hg => rfl); (case hr => first | (go_simp; done) | (go_simp; rfl)); intro gb390 hg w10 hbox hb; replace HO389 := am (Kd.R_below HO389.out hb); have BK390 := am (hbox); have GW390 := am ((by rw [hg]; exact (below_size HB.out) : w.heap.size ≤ gb390))
     have GE390 := am ((by rw [hg]; exact (below_size HB.out) : w.heap.size ≤ gb390))
     replace HB := bs HB hb; have NB382_390 := am ((by rw [hg]; exact Nat.ne_of_lt (blk_lt BK382.out) : gb382 ≠ gb390))
     have NB390_382 := am ((by rw [hg]; exact Nat.ne_of_gt (blk_lt BK382.out) : gb390 ≠ gb382))
     replace BK382 := bb BK382 hb; have NB383_390 := am ((by rw [hg]; exact Nat.ne_of_lt (blk_lt BK383.out) : gb383 ≠ gb390))
     have NB390_383 := am ((by rw [hg]; exact Nat.ne_of_gt (blk_lt BK383.out) : gb390 ≠ gb383))
     replace BK383 := bb BK383 hb; clear hb hbox hg; refine hK.out _ _ ⟨(blk_cell BK382.out 0).trans rfl, (blk_cell BK382.out 1).trans rfl, (blk_cell BK382.out 2).trans rfl⟩ (fun hHeld => ?_); clear hK K; refine norm_ (a' := ?_) ?_ ?_; rotate_left
     ·
      show Act.put _ (some 3) _ = _
      exact pu
     exact norm_ (by simp only [putAll, Act.put, List.setIfInBounds_toArray, List.set_cons_zero, List.set_cons_succ]) (hCont (v385, .slice Ao9 y387.length co9, gb390) _ ⟨hHeld, HO389.out, BK382.out, BK383.out, BK390.out, GW390.out, GE390.out, NB382_390.out, NB390_382.out, NB383_390.out, NB390_383.out, HB.out⟩)
    ·
     skip
     refine box_step ?hg (N := 3) ?hd (cs := #[.int .i64 0, .slice none 0 0, .slice none 0 0]) (t := 27) ?hr ?_; (case hd => rfl); (case hg => rfl); (case hr => first | (go_simp; done) | (go_simp; rfl)); intro gb390 hg w8 hbox hb; replace HO386 := am (Kd.R_below HO386.out hb); have BK390 := am (hbox); have GW390 := am ((by rw [hg]; exact (below_size HB.out) : w.heap.size ≤ gb390))
     have GE390 := am ((by rw [hg]; exact (below_size HB.out) : w.heap.size ≤ gb390))
     replace HB := bs HB hb; have NB382_390 := am ((by rw [hg]; exact Nat.ne_of_lt (blk_lt BK382.out) : gb382 ≠ gb390))
     have NB390_382 := am ((by rw [hg]; exact Nat.ne_of_gt (blk_lt BK382.out) : gb390 ≠ gb382))
     replace BK382 := bb BK382 hb; have NB383_390 := am ((by rw [hg]; exact Nat.ne_of_lt (blk_lt BK383.out) : gb383 ≠ gb390))
     have NB390_383 := am ((by rw [hg]; exact Nat.ne_of_gt (blk_lt BK383.out) : gb390 ≠ gb383))
     replace BK383 := bb BK383 hb; clear hb hbox hg; refine hK.out _ _ ⟨(blk_cell BK382.out 0).trans rfl, (blk_cell BK382.out 1).trans rfl, (blk_cell BK382.out 2).trans rfl⟩ (fun hHeld => ?_); clear hK K; refine norm_ (a' := ?_) ?_ ?_; rotate_left
     ·
      show Act.put _ (some 3) _ = _
      exact pu
     refine one_ (i := 14) (N := some 20) #[true, true, true, true, true, true, true, true, true, true, true, true, true, true, true, false, true, false] rfl rfl (one_of HT_.out (by kernel_rfl)) (by decide) (fun K hK => ?_); refine Kd.R_append_rows_step (Kd.int .i64) (w0 := w) w.heap.size (by rfl) (.tmp 17) (.tmp 19) 22 3 (.int .i64 0) 8 rfl Try.underlying22 info3 rfl (by decide) (by omega) v385 y384 l0_1 _ _ _ (fun _ => True) (fun _ => False) rfl rfl ?aO ?aR (fun _ _ h => h) (fun _ h => h.elim) ?aF ?aB ?aS ?aL ?_
     (case aR => exact (Kd.C_below HR0_1.out HB.out))
     (case aB => exact HB.out)
     (case aF => exact (fun _ _ => trivial))
     (case aO => exact HO386.out)
     (case aS => exact (below_size HB.out))
     (case aL => have := LMc2.out; omega)
     intro v388 w9 ho hb hg hat; rw [← Ny387.out] at ho; replace BK382 := am (blk_grown BK382.out hg (Kd.R_ne HO386.out BK382.out (by decide))); replace BK383 := am (blk_grown BK383.out hg (Kd.R_ne HO386.out BK383.out (by decide))); replace BK390 := am (blk_grown BK390.out hg (Kd.R_ne HO386.out BK390.out (by decide))); replace HB := am (hb); have HO389 := am (ho); clear HO386; clear ho hb hg hat; obtain ⟨Ao10, co10, eo10⟩ := Kd.R_slice HO389.out; (first | subst eo10 | (injection eo10 with f1_ f2_ f3_; have f4_ := f1_.symm; have f5_ := f3_.symm; clear f1_ f2_ f3_; subst f4_; subst f5_)); refine hK.out _ _ ⟨(blk_cell BK382.out 0).trans rfl, (blk_cell BK382.out 1).trans rfl, (blk_cell BK382.out 2).trans rfl⟩ (fun hHeld => ?_); clear hK K; refine norm_ (a' := ?_) ?_ ?_; rotate_left
     ·
      show Act.put _ (some 20) _ = _
      exact pu
     refine pq (i := 15) (N := some 21) #[true, true, true, true, true, true, true, true, true, true, true, true, true, true, true, true, true, false] HT_ ?_
     exact norm_ (by simp only [putAll, Act.put, List.setIfInBounds_toArray, List.set_cons_zero, List.set_cons_succ]) (hCont (v385, .slice Ao10 y387.length co10, gb390) _ ⟨hHeld, HO389.out, BK382.out, BK383.out, BK390.out, GW390.out, GE390.out, NB382_390.out, NB390_382.out, NB383_390.out, NB390_383.out, HB.out⟩)
   ·
    skip
    refine box_step ?hg (N := 3) ?hd (cs := #[.int .i64 0, .slice none 0 0, .slice none 0 0]) (t := 27) ?hr ?_; (case hd => rfl); (case hg => rfl); (case hr => first | (go_simp; done) | (go_simp; rfl)); intro gb390 hg w6 hbox hb; have BK390 := am (hbox); have GW390 := am ((by rw [hg]; exact (below_size HB.out) : w.heap.size ≤ gb390))
    have GE390 := am ((by rw [hg]; exact (below_size HB.out) : w.heap.size ≤ gb390))
    replace HB := bs HB hb; have NB382_390 := am ((by rw [hg]; exact Nat.ne_of_lt (blk_lt BK382.out) : gb382 ≠ gb390))
    have NB390_382 := am ((by rw [hg]; exact Nat.ne_of_gt (blk_lt BK382.out) : gb390 ≠ gb382))
    replace BK382 := bb BK382 hb; have NB383_390 := am ((by rw [hg]; exact Nat.ne_of_lt (blk_lt BK383.out) : gb383 ≠ gb390))
    have NB390_383 := am ((by rw [hg]; exact Nat.ne_of_gt (blk_lt BK383.out) : gb390 ≠ gb383))
    replace BK383 := bb BK383 hb; clear hb hbox hg; refine hK.out _ _ ⟨(blk_cell BK382.out 0).trans rfl, (blk_cell BK382.out 1).trans rfl, (blk_cell BK382.out 2).trans rfl⟩ (fun hHeld => ?_); clear hK K; refine norm_ (a' := ?_) ?_ ?_; rotate_left
    ·
     show Act.put _ (some 3) _ = _
     exact pu
    refine one_ (i := 11) (N := some 17) #[true, true, true, true, true, true, true, true, true, true, true, true, true, true, false, false, true, false] rfl rfl (one_of HT_.out (by kernel_rfl)) (by decide) (fun K hK => ?_); refine Kd.R_lit_step (Kd.int .i64) _ 3 ?hg (N := 17) ?hd (xs := ([] : List Int)) (inner := []) (ok := fun _ => True) (okp := fun _ => True) ?hr ?hp (fun _ hk => hk) trivial (Below.refl _ _) (Nat.le_refl _) (by simp) ?_; (case hd => rfl); (case hg => rfl); (case hr => first | (go_simp; done) | (go_simp; rfl)); (case hp => exact (Reps.none _ _)); intro v385 w7 ho8 hb hg_ hnew_; clear hg_ hnew_; (first | rw [← Ny384.out] at ho8 | (simp only [Int.reduceToNat] at ho8; rw [← Ny384.out] at ho8)); have HO386 := am (Kd.R_lower ho8 (below_size HB.out)); replace BK382 := bb BK382 hb; replace BK383 := bb BK383 hb; replace BK390 := bb BK390 hb; replace HB := bs HB hb; clear hb ho8; refine hK.out _ _ ⟨(blk_cell BK382.out 0).trans rfl, (blk_cell BK382.out 1).trans rfl, (blk_cell BK382.out 2).trans rfl⟩ (fun hHeld => ?_); clear hK K; refine norm_ (a' := ?_) ?_ ?_; rotate_left
    ·
     show Act.put _ (some 17) _ = _
     exact pu
    refine one_ (i := 14) (N := some 20) #[true, true, true, true, true, true, true, true, true, true, true, true, true, true, true, false, true, false] rfl rfl (one_of HT_.out (by kernel_rfl)) (by decide) (fun K hK => ?_); refine Kd.R_append_rows_step (Kd.int .i64) (w0 := w) w.heap.size (by rfl) (.tmp 17) (.tmp 19) 22 3 (.int .i64 0) 8 rfl Try.underlying22 info3 rfl (by decide) (by omega) v385 y384 l0_1 _ _ _ (fun _ => True) (fun _ => False) rfl rfl ?aO ?aR (fun _ _ h => h) (fun _ h => h.elim) ?aF ?aB ?aS ?aL ?_
    (case aR => exact (Kd.C_below HR0_1.out HB.out))
    (case aB => exact HB.out)
    (case aF => exact (fun _ _ => trivial))
    (case aO => exact HO386.out)
    (case aS => exact (below_size HB.out))
    (case aL => have := LMc2.out; omega)
    intro v388 w9 ho hb hg hat; rw [← Ny387.out] at ho; replace BK382 := am (blk_grown BK382.out hg (Kd.R_ne HO386.out BK382.out (by decide))); replace BK383 := am (blk_grown BK383.out hg (Kd.R_ne HO386.out BK383.out (by decide))); replace BK390 := am (blk_grown BK390.out hg (Kd.R_ne HO386.out BK390.out (by decide))); replace HB := am (hb); have HO389 := am (ho); clear HO386; clear ho hb hg hat; obtain ⟨Ao10, co10, eo10⟩ := Kd.R_slice HO389.out; (first | subst eo10 | (injection eo10 with f1_ f2_ f3_; have f4_ := f1_.symm; have f5_ := f3_.symm; clear f1_ f2_ f3_; subst f4_; subst f5_)); refine hK.out _ _ ⟨(blk_cell BK382.out 0).trans rfl, (blk_cell BK382.out 1).trans rfl, (blk_cell BK382.out 2).trans rfl⟩ (fun hHeld => ?_); clear hK K; refine norm_ (a' := ?_) ?_ ?_; rotate_left
    ·
     show Act.put _ (some 20) _ = _
     exact pu
    refine pq (i := 15) (N := some 21) #[true, true, true, true, true, true, true, true, true, true, true, true, true, true, true, true, true, false] HT_ ?_
    exact norm_ (by simp only [putAll, Act.put, List.setIfInBounds_toArray, List.set_cons_zero, List.set_cons_succ]) (hCont (v385, .slice Ao10 y387.length co10, gb390) _ ⟨hHeld, HO389.out, BK382.out, BK383.out, BK390.out, GW390.out, GE390.out, NB382_390.out, NB390_382.out, NB383_390.out, NB390_383.out, HB.out⟩)
  rintro ⟨v385, v388, gb390⟩ w11 ⟨hS_, h0_, h1_, h2_, h3_, h4_, h5_, h6_, h7_, h8_, h9_, h10_⟩; have n0_ : Aside0 (Kd.R (Kd.int .i64) 3 w11 w.heap.size (fun _ => True) v388 y387) := ⟨h0_⟩; have n1_ : Aside0 (w11.heap[gb382]? = some (.cells #[.int .i64 a0_0, .slice A0_1 l0_1.length c0_1, .slice A0_2 l0_2.length c0_2] 27 (0, 0))) := ⟨h1_⟩; have n2_ : Aside0 (w11.heap[gb383]? = some (.cells #[.int .i64 0, .slice none 0 0, .slice none 0 0] 27 (0, 0))) := ⟨h2_⟩; have n3_ : Aside0 (w11.heap[gb390]? = some (.cells #[.int .i64 0, .slice none 0 0, .slice none 0 0] 27 (0, 0))) := ⟨h3_⟩; have n4_ : Aside0 (w.heap.size ≤ gb390) := ⟨h4_⟩; have n5_ : Aside0 (w.heap.size ≤ gb390) := ⟨h5_⟩; have n6_ : Aside0 (gb382 ≠ gb390) := ⟨h6_⟩; have n7_ : Aside0 (gb390 ≠ gb382) := ⟨h7_⟩; have n8_ : Aside0 (gb383 ≠ gb390) := ⟨h8_⟩; have n9_ : Aside0 (gb390 ≠ gb383) := ⟨h9_⟩; have n10_ : Aside0 (Below w.heap.size w w11) := ⟨h10_⟩; clear BK382; clear BK383; clear HB; clear h0_ h1_ h2_ h3_ h4_ h5_ h6_ h7_ h8_ h9_ h10_; have HO389 := n0_; have BK382 := n1_; have BK383 := n2_; have BK390 := n3_; have GW390 := n4_; have GE390 := n5_; have NB382_390 := n6_; have NB390_382 := n7_; have NB383_390 := n8_; have NB390_383 := n9_; have HB := n10_; clear n0_ n1_ n2_ n3_ n4_ n5_ n6_ n7_ n8_ n9_ n10_; have hHeld : w11.cell? ⟨gb382, 0, none⟩ = some (.int .i64 a0_0) ∧ w11.cell? ⟨gb382, 1, none⟩ = some (.slice A0_1 l0_1.length c0_1) ∧ w11.cell? ⟨gb382, 2, none⟩ = some (.slice A0_2 l0_2.length c0_2) := hS_; obtain ⟨Ao12, co12, eo12⟩ := Kd.R_slice HO389.out
  (first | subst eo12 | (injection eo12 with f1_ f2_ f3_; have f4_ := f1_.symm; have f5_ := f3_.symm; clear f1_ f2_ f3_; subst f4_; subst f5_)); refine norm_ (a' := ?_) ?_ ?_; rotate_left
  ·
   simp only [putAll, Act.put, List.setIfInBounds_toArray, List.set_cons_zero, List.set_cons_succ]; rfl
  refine one_ (i := 17) (N := none) #[true, true, true, true, true, true, true, true, true, true, true, true, true, true, true, true, true, true] rfl rfl (one_of HT_.out (by kernel_rfl)) (by decide) (fun K hK => ?_); have hs13 : w11.cell? ⟨gb390, 0, none⟩ = some (.int .i64 0) := (blk_cell BK390.out 0).trans rfl; have hfs13 := blk_frozen BK390.out 0; have hns13_0 := NB382_390.out; have hns13_1 := NB383_390.out; have hms13_0 := NB390_382.out; have hms13_1 := NB390_383.out; have hs14 : w11.cell? ⟨gb390, 1, none⟩ = some (.slice none 0 0) := (blk_cell BK390.out 1).trans rfl; have hfs14 := blk_frozen BK390.out 1; have hns14_0 := NB382_390.out; have hns14_1 := NB383_390.out; have hms14_0 := NB390_382.out; have hms14_1 := NB390_383.out; have hs15 : w11.cell? ⟨gb390, 2, none⟩ = some (.slice none 0 0) := (blk_cell BK390.out 2).trans rfl; have hfs15 := blk_frozen BK390.out 2; have hns15_0 := NB382_390.out; have hns15_1 := NB383_390.out; have hms15_0 := NB390_382.out; have hms15_1 := NB390_383.out; refine skip_ (w1 := ?_) (by rfl) rfl ?_ ?_; rotate_left
  ·
   go_simp; rfl
  refine hK.out _ _ ⟨((cell_far (p := ⟨gb390, _, none⟩) NB382_390.out _).trans (((cell_far (p := ⟨gb390, _, none⟩) NB382_390.out _).trans (((cell_far (p := ⟨gb390, _, none⟩) NB382_390.out _).trans (hHeld.1)))))), ((cell_far (p := ⟨gb390, _, none⟩) NB382_390.out _).trans (((cell_far (p := ⟨gb390, _, none⟩) NB382_390.out _).trans (((cell_far (p := ⟨gb390, _, none⟩) NB382_390.out _).trans (hHeld.2.1)))))), ((cell_far (p := ⟨gb390, _, none⟩) NB382_390.out _).trans (((cell_far (p := ⟨gb390, _, none⟩) NB382_390.out _).trans (((cell_far (p := ⟨gb390, _, none⟩) NB382_390.out _).trans (hHeld.2.2))))))⟩ (fun hHeld => ?_); clear hK K; refine done_ (done_of HT_.out (by kernel_rfl)) ?_; have hnb16 := NB382_383.out; have hnc16 := NB383_382.out; have hnb17 := NB382_390.out; have hnc17 := NB390_382.out; have hcz18_0 : w11.cell? ⟨gb382, 0, none⟩ = some (.int .i64 a0_0) := (blk_cell BK382.out 0).trans rfl; have hcz18_1 : w11.cell? ⟨gb382, 1, none⟩ = some (.slice A0_1 l0_1.length c0_1) := (blk_cell BK382.out 1).trans rfl; have hcz18_2 : w11.cell? ⟨gb382, 2, none⟩ = some (.slice A0_2 l0_2.length c0_2) := (blk_cell BK382.out 2).trans rfl; have hfz18_0 := blk_frozen BK382.out 0; have hfz18_1 := blk_frozen BK382.out 1; have hfz18_2 := blk_frozen BK382.out 2
  try go_wp2
  go_loopg [25] k (fun kq v25 w' => ∃ (x25_1 : Int) (x391002_1 : List (S27)) (u391002 : Value), v25 = .int .i64 x25_1 ∧ Aside0 (trustquorumref02_Dual.l0 kq l0_2 (l0_2.length : Int) x25_1 (wrap64 ((wrap64 ((wrap64 ((l0_1.length : Int) + (l0_2.length : Int))) + 1)) - a0_0)) y387 x391002_1 = some (r1, r2, r3)) ∧ Aside0 (kq ≤ k) ∧ Aside0 (Kd.R (Kd.int .i64) 3 w' w.heap.size (fun _ => True) (.slice Ao12 y387.length co12) y387) ∧ Aside0 (Kd.R k27 27 w' w.heap.size (fun k_ => some k_ ≠ ((.slice Ao12 y387.length co12) : Value).ownBlock ∧ k_ ≠ gb383 ∧ k_ ≠ gb390) u391002 x391002_1) ∧ Aside0 (w'.heap[gb383]? = some (.cells #[.int .i64 0, (.slice none 0 0), (.slice none 0 0)] 27 (0, 0))) ∧ Aside0 (w'.heap[gb390]? = some (.cells #[.int .i64 (wrap64 ((wrap64 ((wrap64 ((l0_1.length : Int) + (l0_2.length : Int))) + 1)) - a0_0)), (.slice Ao12 y387.length co12), u391002] 27 (0, 0))) ∧ Aside0 (Below w.heap.size w w'))
  case atStart => exact ⟨(0), (([] : List (S27))), (.slice none 0 0), ar, H', ⟨Nat.le_refl _⟩, ⟨by (with_reducible repeat (first | apply Kd.R_alloc | apply Kd.R_drewN | apply Kd.R_drew)); exact Kd.R_mono (Kd.R_far (p := ⟨gb390, 2, none⟩) (Kd.R_far (p := ⟨gb390, 1, none⟩) (Kd.R_far (p := ⟨gb390, 0, none⟩) (Kd.R_types HO389.out BK390.out (by decide)) (fun _ hk => hk.2) (.int .i64 (wrap64 ((wrap64 ((wrap64 ((l0_1.length : Int) + (l0_2.length : Int))) + 1)) - a0_0)))) (fun _ hk => hk.2) (.slice Ao12 y387.length co12)) (fun _ hk => hk.2) (.slice none 0 0)) (fun _ hk => trivial)⟩, ⟨by first | exact Kd.R_nil _ _ _ _ _ | exact Kd.N_nil _ _ _ _ _ | exact Kd.V_nil _ _ _ _ _ | exact Kd.Q_nil _ _ _ _ _ | exact Kd.S_nil _ _ _ _ _⟩, ⟨by (with_reducible repeat first | apply blk_drewN | apply blk_drew | apply blk_alloc); refine blk_far ?_ NB383_390.out _; (with_reducible repeat first | apply blk_drewN | apply blk_drew | apply blk_alloc); refine blk_far ?_ NB383_390.out _; (with_reducible repeat first | apply blk_drewN | apply blk_drew | apply blk_alloc); refine blk_far ?_ NB383_390.out _; (with_reducible repeat first | apply blk_drewN | apply blk_drew | apply blk_alloc); exact BK383.out⟩, ⟨by (with_reducible repeat first | apply blk_drewN | apply blk_drew | apply blk_alloc); refine blk_put (cs := #[.int .i64 (wrap64 ((wrap64 ((wrap64 ((l0_1.length : Int) + (l0_2.length : Int))) + 1)) - a0_0)), .slice Ao12 y387.length co12, .slice none 0 0]) ?_ 2 _ rfl; (with_reducible repeat first | apply blk_drewN | apply blk_drew | apply blk_alloc); refine blk_put (cs := #[.int .i64 (wrap64 ((wrap64 ((wrap64 ((l0_1.length : Int) + (l0_2.length : Int))) + 1)) - a0_0)), .slice none 0 0, .slice none 0 0]) ?_ 1 _ rfl; (with_reducible repeat first | apply blk_drewN | apply blk_drew | apply blk_alloc); refine blk_put (cs := #[.int .i64 0, .slice none 0 0, .slice none 0 0]) ?_ 0 _ rfl; (with_reducible repeat first | apply blk_drewN | apply blk_drew | apply blk_alloc); exact BK390.out⟩, ⟨by repeat (first | (with_reducible first | exact HB.out | apply below_alloc | apply pw_below_drewN | apply below_drew1 | refine below_set ?_ GE382.out | refine below_set ?_ GE383.out | refine below_set ?_ GE390.out) | exact HB.out)⟩⟩
  case round =>
   clear H'; (try clear c1); (try clear c2); (try clear p2); (try clear p6); (try clear c16); (try clear c17); (try clear hcz18_0 hcz18_1 hcz18_2 hfz18_0 hfz18_1 hfz18_2); obtain ⟨x25_1, x391002_1, u391002, rfl, HA, HK1, HO_391001, HO_391002, BK383, BK390, HB⟩ := hrel
   cases gk with
   | zero => exact absurd HA.out (by simp [trustquorumref02_Dual.l0])
   | succ k1 =>
    have H := HA.out; clear HA; simp only [trustquorumref02_Dual.l0] at H
    by_cases c19 : x25_1 < (l0_2.length : Int)
    ·
     rw [if_pos c19] at H; have c19b0 : decide (x25_1 < (l0_2.length : Int)) = true := decide_eq_true c19; clear c19
     by_cases c20 : 0 ≤ x25_1
     ·
      rw [if_pos c20] at H; have c20b0 : decide (0 ≤ x25_1) = true := decide_eq_true c20; clear c20
      by_cases c21 : x25_1 < (l0_2.length : Int)
      ·
       rw [if_pos c21] at H; have c21b0 : decide (x25_1 < (l0_2.length : Int)) = true := decide_eq_true c21; clear c21; replace H := Option.bind_eq_some_iff.mp H; obtain ⟨⟨t393, t394, t397⟩, A220, H⟩ := H; replace H : (if x391002_1.length < 2513169434916 then (trustquorumref02_Dual.l0 k1 l0_2 (l0_2.length : Int) (wrap64 (x25_1 + 1)) (wrap64 ((wrap64 ((wrap64 ((l0_1.length : Int) + (l0_2.length : Int))) + 1)) - a0_0)) y387 (x391002_1 ++ [(⟨t393, t394, t397⟩ : S27)])) else (none)) = some (r1, r2, r3) := H; have A22 := am A220; clear A220
       by_cases c23 : x391002_1.length < 2513169434916
       ·
        rw [if_pos c23] at H; have LMc23 := am c23; clear c23; obtain ⟨y400, hy400⟩ : ∃ y_ : List (S27), y_ = (x391002_1 ++ [(⟨t393, t394, t397⟩ : S27)]) := ⟨_, rfl⟩; replace H : (trustquorumref02_Dual.l0 k1 l0_2 (l0_2.length : Int) (wrap64 (x25_1 + 1)) (wrap64 ((wrap64 ((wrap64 ((l0_1.length : Int) + (l0_2.length : Int))) + 1)) - a0_0)) y387 y400) = some (r1, r2, r3) := by first | (rw [hy400]; with_reducible exact H) | (have H2_ := (Option.bind_some _ _).symm.trans H; rw [hy400]; with_reducible exact H2_) | (have H2_ := (Option.bind_some _ _).symm.trans H; with_reducible exact H2_) | with_reducible exact H | (rw [hy400]; exact H) | exact H
        have Ny400 := am hy400; clear hy400; have H' := am H; clear H; have p391 : 0 ≤ (x25_1 : Int) := od; have q391 : x25_1 < (l0_2.length : Int) := od; obtain ⟨ad391, A391_1, c391_1, A391_2, c391_2, e391, hx391_0, hx391_1, hx391_2, hl391_1, hi391_1, hl391_2, hi391_2⟩ := at_T27 HR0_2.out x25_1 p391 q391
        cases e391
        replace hx391_0 := (HB.out.cell (World.block_lt_of_cell? w _ hx391_0)).trans hx391_0; replace hx391_1 := (HB.out.cell (World.block_lt_of_cell? w _ hx391_1)).trans hx391_1; replace hx391_2 := (HB.out.cell (World.block_lt_of_cell? w _ hx391_2)).trans hx391_2; have HR391_1 := am hi391_1; have HC391_1 := am hl391_1; clear hi391_1 hl391_1; have HR391_2 := am hi391_2; have HC391_2 := am hl391_2; clear hi391_2 hl391_2; replace p391 := eq_true p391; replace q391 := eq_true q391
        try go_wp2_with (first | ((with_reducible refine gate_dst (N := 5) rfl ?_); refine box_event ?hg (N := 5) ?hd (cs := #[.int .i64 0, .slice none 0 0, .slice none 0 0]) (t := 27) ?hr ?_; (case hd => rfl); (case hg => rfl); (case hr => first | (go_simp; done) | (go_simp; rfl)); intro gb392 hg w24 hbox hb; replace HO_391001 := am (Kd.R_below HO_391001.out hb); replace HO_391002 := am (Kd.R_below (Kd.R_elderB HO_391002.out gb392 (Nat.le_of_eq hg.symm)) hb); have BK392 := am (hbox); have GW392 := am ((by rw [hg]; exact (below_size HB.out) : w.heap.size ≤ gb392)); have GE392 := am ((by rw [hg]; exact (below_size HB.out) : w.heap.size ≤ gb392)); replace HB := bs HB hb; have NB383_392 := am ((by rw [hg]; exact Nat.ne_of_lt (blk_lt BK383.out) : gb383 ≠ gb392)); have NB392_383 := am ((by rw [hg]; exact Nat.ne_of_gt (blk_lt BK383.out) : gb392 ≠ gb383)); replace BK383 := bb BK383 hb; have NB390_392 := am ((by rw [hg]; exact Nat.ne_of_lt (blk_lt BK390.out) : gb390 ≠ gb392)); have NB392_390 := am ((by rw [hg]; exact Nat.ne_of_gt (blk_lt BK390.out) : gb392 ≠ gb390)); replace BK390 := bb BK390 hb; clear hb hbox hg; have hnb25 := NB392_383.out; have hnc25 := NB383_392.out; have hnb26 := NB392_390.out; have hnc26 := NB390_392.out; obtain ⟨hcz27_0, hcz27_1, hcz27_2, hfz27_0, hfz27_1, hfz27_2⟩ := blkC3 BK392.out))
        have n0_ : Aside0 (Kd.R (Kd.int .i64) 3 (((w24.setCell ⟨gb392, 0, none⟩ (.int .i64 ((rd_T27 l0_2 x25_1).f0))).setCell ⟨gb392, 1, none⟩ (.slice A391_1 ((rd_T27 l0_2 x25_1).f1).length c391_1)).setCell ⟨gb392, 2, none⟩ (.slice A391_2 ((rd_T27 l0_2 x25_1).f2).length c391_2)) w.heap.size (fun _ => True) (.slice Ao12 y387.length co12) y387) := ⟨by (with_reducible repeat (first | apply Kd.R_alloc | apply Kd.R_drewN | apply Kd.R_drew)); exact Kd.R_mono (Kd.R_far (p := ⟨gb392, 2, none⟩) (Kd.R_far (p := ⟨gb392, 1, none⟩) (Kd.R_far (p := ⟨gb392, 0, none⟩) (Kd.R_types HO_391001.out BK392.out (by decide)) (fun _ hk => hk.2) (.int .i64 ((rd_T27 l0_2 x25_1).f0))) (fun _ hk => hk.2) (.slice A391_1 ((rd_T27 l0_2 x25_1).f1).length c391_1)) (fun _ hk => hk.2) (.slice A391_2 ((rd_T27 l0_2 x25_1).f2).length c391_2)) (fun _ hk => trivial)⟩
        have n1_ : Aside0 (Kd.R k27 27 (((w24.setCell ⟨gb392, 0, none⟩ (.int .i64 ((rd_T27 l0_2 x25_1).f0))).setCell ⟨gb392, 1, none⟩ (.slice A391_1 ((rd_T27 l0_2 x25_1).f1).length c391_1)).setCell ⟨gb392, 2, none⟩ (.slice A391_2 ((rd_T27 l0_2 x25_1).f2).length c391_2)) w.heap.size (fun k_ => some k_ ≠ (.slice Ao12 y387.length co12 : Value).ownBlock ∧ k_ ≠ gb383 ∧ k_ ≠ gb390 ∧ k_ ≠ gb392) u391002 x391002_1) := ⟨by (with_reducible repeat (first | apply Kd.R_alloc | apply Kd.R_drewN | apply Kd.R_drew)); exact Kd.R_mono (Kd.R_far (p := ⟨gb392, 2, none⟩) (Kd.R_far (p := ⟨gb392, 1, none⟩) (Kd.R_far (p := ⟨gb392, 0, none⟩) HO_391002.out (fun _ hk => hk.2) (.int .i64 ((rd_T27 l0_2 x25_1).f0))) (fun _ hk => hk.2) (.slice A391_1 ((rd_T27 l0_2 x25_1).f1).length c391_1)) (fun _ hk => hk.2) (.slice A391_2 ((rd_T27 l0_2 x25_1).f2).length c391_2)) (fun _ hk => ⟨hk.1.1, ⟨hk.1.2.1, ⟨hk.1.2.2, hk.2⟩⟩⟩)⟩
        have n2_ : Aside0 ((((w24.setCell ⟨gb392, 0, none⟩ (.int .i64 ((rd_T27 l0_2 x25_1).f0))).setCell ⟨gb392, 1, none⟩ (.slice A391_1 ((rd_T27 l0_2 x25_1).f1).length c391_1)).setCell ⟨gb392, 2, none⟩ (.slice A391_2 ((rd_T27 l0_2 x25_1).f2).length c391_2)).heap[gb383]? = some (.cells #[.int .i64 0, .slice none 0 0, .slice none 0 0] 27 (0, 0))) := ⟨by (with_reducible repeat first | apply blk_drewN | apply blk_drew | apply blk_alloc); refine blk_far ?_ NB383_392.out _; (with_reducible repeat first | apply blk_drewN | apply blk_drew | apply blk_alloc); refine blk_far ?_ NB383_392.out _; (with_reducible repeat first | apply blk_drewN | apply blk_drew | apply blk_alloc); refine blk_far ?_ NB383_392.out _; (with_reducible repeat first | apply blk_drewN | apply blk_drew | apply blk_alloc); exact BK383.out⟩
        have n3_ : Aside0 ((((w24.setCell ⟨gb392, 0, none⟩ (.int .i64 ((rd_T27 l0_2 x25_1).f0))).setCell ⟨gb392, 1, none⟩ (.slice A391_1 ((rd_T27 l0_2 x25_1).f1).length c391_1)).setCell ⟨gb392, 2, none⟩ (.slice A391_2 ((rd_T27 l0_2 x25_1).f2).length c391_2)).heap[gb390]? = some (.cells #[.int .i64 (wrap64 ((wrap64 ((wrap64 ((l0_1.length : Int) + (l0_2.length : Int))) + 1)) - a0_0)), .slice Ao12 y387.length co12, u391002] 27 (0, 0))) := ⟨by (with_reducible repeat first | apply blk_drewN | apply blk_drew | apply blk_alloc); refine blk_far ?_ NB390_392.out _; (with_reducible repeat first | apply blk_drewN | apply blk_drew | apply blk_alloc); refine blk_far ?_ NB390_392.out _; (with_reducible repeat first | apply blk_drewN | apply blk_drew | apply blk_alloc); refine blk_far ?_ NB390_392.out _; (with_reducible repeat first | apply blk_drewN | apply blk_drew | apply blk_alloc); exact BK390.out⟩
        have n4_ : Aside0 ((((w24.setCell ⟨gb392, 0, none⟩ (.int .i64 ((rd_T27 l0_2 x25_1).f0))).setCell ⟨gb392, 1, none⟩ (.slice A391_1 ((rd_T27 l0_2 x25_1).f1).length c391_1)).setCell ⟨gb392, 2, none⟩ (.slice A391_2 ((rd_T27 l0_2 x25_1).f2).length c391_2)).heap[gb392]? = some (.cells #[.int .i64 ((rd_T27 l0_2 x25_1).f0), .slice A391_1 ((rd_T27 l0_2 x25_1).f1).length c391_1, .slice A391_2 ((rd_T27 l0_2 x25_1).f2).length c391_2] 27 (0, 0))) := ⟨by (with_reducible repeat first | apply blk_drewN | apply blk_drew | apply blk_alloc); refine blk_put (cs := #[.int .i64 ((rd_T27 l0_2 x25_1).f0), .slice A391_1 ((rd_T27 l0_2 x25_1).f1).length c391_1, .slice none 0 0]) ?_ 2 _ rfl; (with_reducible repeat first | apply blk_drewN | apply blk_drew | apply blk_alloc); refine blk_put (cs := #[.int .i64 ((rd_T27 l0_2 x25_1).f0), .slice none 0 0, .slice none 0 0]) ?_ 1 _ rfl; (with_reducible repeat first | apply blk_drewN | apply blk_drew | apply blk_alloc); refine blk_put (cs := #[.int .i64 0, .slice none 0 0, .slice none 0 0]) ?_ 0 _ rfl; (with_reducible repeat first | apply blk_drewN | apply blk_drew | apply blk_alloc); exact BK392.out⟩
        have n5_ : Aside0 (Below w.heap.size w (((w24.setCell ⟨gb392, 0, none⟩ (.int .i64 ((rd_T27 l0_2 x25_1).f0))).setCell ⟨gb392, 1, none⟩ (.slice A391_1 ((rd_T27 l0_2 x25_1).f1).length c391_1)).setCell ⟨gb392, 2, none⟩ (.slice A391_2 ((rd_T27 l0_2 x25_1).f2).length c391_2))) := ⟨by repeat (first | (with_reducible first | exact HB.out | apply below_alloc | apply pw_below_drewN | apply below_drew1 | refine below_set ?_ GE383.out | refine below_set ?_ GE390.out | refine below_set ?_ GE392.out) | exact HB.out)⟩; (try clear HO_391001); (try clear HO_391002); (try clear BK383); (try clear BK390); (try clear BK392); (try clear HB); generalize (((w24.setCell ⟨gb392, 0, none⟩ (.int .i64 ((rd_T27 l0_2 x25_1).f0))).setCell ⟨gb392, 1, none⟩ (.slice A391_1 ((rd_T27 l0_2 x25_1).f1).length c391_1)).setCell ⟨gb392, 2, none⟩ (.slice A391_2 ((rd_T27 l0_2 x25_1).f2).length c391_2)) = w28 at n0_ n1_ n2_ n3_ n4_ n5_ ⊢; have HO_391001 := n0_; have HO_391002 := n1_; have BK383 := n2_; have BK390 := n3_; have BK392 := n4_; have HB := n5_; clear n0_ n1_ n2_ n3_ n4_ n5_; replace HO_391001 := am (Kd.R_drew HO_391001.out); replace HO_391002 := am (Kd.R_drew HO_391002.out); replace BK383 := am (blk_drew BK383.out); replace BK390 := am (blk_drew BK390.out); replace BK392 := am (blk_drew BK392.out); replace HB := am (below_drew1 HB.out); refine start_ (n := 8) (S := fun w' => w'.cell? ⟨gb390, 0, none⟩ = some (.int .i64 (wrap64 ((wrap64 ((wrap64 ((l0_1.length : Int) + (l0_2.length : Int))) + 1)) - a0_0))) ∧ w'.cell? ⟨gb390, 1, none⟩ = some (.slice Ao12 y387.length co12) ∧ w'.cell? ⟨gb390, 2, none⟩ = some (u391002) ∧ w'.cell? ⟨gb392, 0, none⟩ = some (.int .i64 ((rd_T27 l0_2 x25_1).f0)) ∧ w'.cell? ⟨gb392, 1, none⟩ = some (.slice A391_1 ((rd_T27 l0_2 x25_1).f1).length c391_1) ∧ w'.cell? ⟨gb392, 2, none⟩ = some (.slice A391_2 ((rd_T27 l0_2 x25_1).f2).length c391_2)) (ds := [7]) #[false, false, false, false, false, false, false, false] (by kernel_rfl) rfl rfl ⟨(blk_cell BK390.out 0).trans rfl, (blk_cell BK390.out 1).trans rfl, (blk_cell BK390.out 2).trans rfl, (blk_cell BK392.out 0).trans rfl, (blk_cell BK392.out 1).trans rfl, (blk_cell BK392.out 2).trans rfl⟩ (fun hHeld => ?_); refine with_tabW trustquorumref02_Dual.tab5 trustquorumref02_Dual.bits5 (fun HT_ HW_ => ?_)
        generalize w28.drew = w29 at HO_391001 HO_391002 BK383 BK390 BK392 HB hHeld ⊢; refine pq (i := 0) (N := some 29) #[true, false, false, false, false, false, false, false] HT_ ?_
        refine tq (i := 1) (N := some 30) #[true, true, false, false, false, false, false, false] HT_ HW_ hHeld ?_
        refine tq (i := 2) (N := some 31) #[true, true, true, false, false, false, false, false] HT_ HW_ hHeld ?_
        refine one_ (i := 3) (N := some 32) #[true, true, true, true, false, false, false, false] rfl rfl (one_of HT_.out (by kernel_rfl)) (by decide) (fun K hK => ?_); refine goes_ Try.func29 (by kernel_rfl) rfl #[.agg #[.int .i64 ((rd_T27 l0_2 x25_1).f0), .slice A391_1 ((rd_T27 l0_2 x25_1).f1).length c391_1, .slice A391_2 ((rd_T27 l0_2 x25_1).f2).length c391_2]] (by rfl) rfl rfl ax ?_
        with_reducible refine (ih k1 (by have := HK1.out; omega) ((rd_T27 l0_2 x25_1).f0) _ _ ((rd_T27 l0_2 x25_1).f1) _ _ ((rd_T27 l0_2 x25_1).f2) t393 t394 t397 _ ?side1 ?side2 ?side3 ?side4 A22.out).mono ?_
        (case side1 => exact (Kd.C_below HR391_1.out HB.out))
        (case side2 => exact HC391_1.out)
        (case side3 => exact (Kd.C_below HR391_2.out HB.out))
        (case side4 => exact HC391_2.out)
        rintro e w30 ⟨v395, v398, rfl, ho0, ho1, hb⟩; refine ⟨_, rfl, ?_⟩; have HO396 := am (Kd.R_lower (Kd.R_new' ho0 (Kd.R_lt HO_391001.out)) (below_size HB.out)); have HO399 := am (Kd.R_lower (Kd.R_newB (Kd.R_newB (Kd.R_newB (Kd.R_new' (Kd.R_new' ho1 (Kd.R_lt HO_391001.out)) (Kd.R_lt HO_391002.out)) BK383.out) BK390.out) BK392.out) (below_size HB.out)); replace HO_391001 := am (Kd.R_elder' HO_391001.out (Kd.R_base ho0) hb); replace HO_391002 := am (Kd.R_mono (Kd.R_told (Kd.R_told (Kd.R_old HO_391002.out hb) (Kd.R_base ho0)) (Kd.R_base ho1)) (fun _ h_ => h_.1)); replace BK383 := bb BK383 hb; replace BK390 := bb BK390 hb; replace BK392 := bb BK392 hb; replace HB := bs HB hb; (try clear hb); (try clear hb2); (try clear hk); (try clear hi); (try clear ho0); (try clear ho1); obtain ⟨Ao32, co32, eo32⟩ := Kd.R_slice HO396.out; (first | subst eo32 | (injection eo32 with f1_ f2_ f3_; have f4_ := f1_.symm; have f5_ := f3_.symm; clear f1_ f2_ f3_; subst f4_; subst f5_)); obtain ⟨Ao33, co33, eo33⟩ := Kd.R_slice HO399.out; (first | subst eo33 | (injection eo33 with f1_ f2_ f3_; have f4_ := f1_.symm; have f5_ := f3_.symm; clear f1_ f2_ f3_; subst f4_; subst f5_)); refine hK.out _ _ ⟨(blk_cell BK390.out 0).trans rfl, (blk_cell BK390.out 1).trans rfl, (blk_cell BK390.out 2).trans rfl, (blk_cell BK392.out 0).trans rfl, (blk_cell BK392.out 1).trans rfl, (blk_cell BK392.out 2).trans rfl⟩ (fun hHeld => ?_)
        clear hK K; refine norm_ (a' := ?_) ?_ ?_; rotate_left
        ·
         show Act.put _ (some 32) _ = _
         exact pu
        refine one_ (i := 4) (N := some 33) #[true, true, true, true, true, false, false, false] rfl rfl (one_of HT_.out (by kernel_rfl)) (by decide) (fun K hK => ?_); refine value_ (w1 := ?_) (v := ?_) (by rfl) rfl ?_ ?_; rotate_left 2
        ·
         go_simp
         constructor
         ·
          rfl
         ·
          rfl
        refine hK.out _ _ ⟨(blk_cell (blk_alloc BK390.out _) 0).trans rfl, (blk_cell (blk_alloc BK390.out _) 1).trans rfl, (blk_cell (blk_alloc BK390.out _) 2).trans rfl, (blk_cell (blk_alloc BK392.out _) 0).trans rfl, (blk_cell (blk_alloc BK392.out _) 1).trans rfl, (blk_cell (blk_alloc BK392.out _) 2).trans rfl⟩ (fun hHeld => ?_); clear hK K; refine norm_ (a' := ?_) ?_ ?_; rotate_left
        ·
         show Act.put _ (some 33) _ = _
         exact pu
        refine one_ (i := 5) (N := some 34) #[true, true, true, true, true, true, false, false] rfl rfl (one_of HT_.out (by kernel_rfl)) (by decide) (fun K hK => ?_); refine Kd.R_append_step k27 (w0 := w) w.heap.size (by rfl) (.tmp 30) (.tmp 33) 25 27 (.agg #[(.int .i64 0), (.slice none 0 0), (.slice none 0 0)]) 56 rfl Try.underlying25 info27 rfl (by decide) (by omega) u391002 x391002_1 (⟨t393, t394, t397⟩ : S27) [.int .i64 t393, .slice Ao32 t394.length co32, .slice Ao33 t397.length co33] (fun k_ => some k_ ≠ (.slice Ao12 y387.length co12 : Value).ownBlock ∧ k_ ≠ gb383 ∧ k_ ≠ gb390 ∧ k_ ≠ gb392) (fun k_ => ((fun k_ => some k_ ≠ (.slice Ao12 y387.length co12 : Value).ownBlock ∧ k_ ≠ gb383 ∧ k_ ≠ gb390 ∧ k_ ≠ gb392)) k_ ∧ some k_ ≠ (u391002 : Value).ownBlock) rfl rfl ?aP (fun _ hk => hk) ?aF ?aO ?aB ?aS ?aL ?_
        (case aP => exact k27_mkM _ _ _ (⟨t393, t394, t397⟩ : S27) (Kd.R_mono (Kd.R_types (Kd.R_types (Kd.R_types (Kd.R_apart' (HO396.out) (Kd.R_typed HO_391002.out) (by decide)) BK383.out (by decide)) BK390.out (by decide)) BK392.out (by decide)) (fun k_ hk => ⟨⟨hk.1.1.1.1.2, ⟨hk.1.1.2, ⟨hk.1.2, hk.2⟩⟩⟩, hk.1.1.1.2⟩)) (Kd.R_mono (HO399.out) (fun k_ hk => ⟨⟨hk.1.1.1.1.2, ⟨hk.1.1.2, ⟨hk.1.2, hk.2⟩⟩⟩, hk.1.1.1.2⟩)))
        (case aB => exact HB.out)
        (case aF => exact (fun k_ hk => ⟨Kd.fresh' (Kd.R_lt HO_391001.out) k_ hk, Kd.freshB BK383.out k_ hk, Kd.freshB BK390.out k_ hk, Kd.freshB BK392.out k_ hk⟩))
        (case aO => exact (by exact Kd.R_mono HO_391002.out (fun _ hk => ⟨hk.1.1.1, ⟨hk.1.1.2.1, ⟨hk.1.1.2.2.1, hk.1.1.2.2.2⟩⟩⟩)))
        (case aS => exact (below_size HB.out))
        (case aL => have := LMc23.out; omega)
        intro v401 w31 ho hb hg hat; rw [← Ny400.out] at ho; replace HO_391001 := am (Kd.R_over' HO_391001.out (Kd.R_typed HO_391002.out) (by decide) hg); replace BK383 := am (blk_grown BK383.out hg (Kd.R_away HO_391002.out (fun _ hk => hk.1.1.2.1))); replace BK390 := am (blk_grown BK390.out hg (Kd.R_away HO_391002.out (fun _ hk => hk.1.1.2.2.1))); replace BK392 := am (blk_grown BK392.out hg (Kd.R_away HO_391002.out (fun _ hk => hk.1.1.2.2.2))); replace HB := am (hb); have HO402 := am (ho); clear HO_391002 HO396 HO399; clear ho hb hg hat; obtain ⟨Ao34, co34, eo34⟩ := Kd.R_slice HO402.out; (first | subst eo34 | (injection eo34 with f1_ f2_ f3_; have f4_ := f1_.symm; have f5_ := f3_.symm; clear f1_ f2_ f3_; subst f4_; subst f5_)); refine hK.out _ _ ⟨(blk_cell BK390.out 0).trans rfl, (blk_cell BK390.out 1).trans rfl, (blk_cell BK390.out 2).trans rfl, (blk_cell BK392.out 0).trans rfl, (blk_cell BK392.out 1).trans rfl, (blk_cell BK392.out 2).trans rfl⟩ (fun hHeld => ?_); clear hK K; refine norm_ (a' := ?_) ?_ ?_; rotate_left
        ·
         show Act.put _ (some 34) _ = _
         exact pu
        refine pq (i := 6) (N := some 35) #[true, true, true, true, true, true, true, false] HT_ ?_
        refine last_ (i := 7) (N := none) #[true, true, true, true, true, true, true, true] rfl rfl (one_of HT_.out (by kernel_rfl)) (by decide) (fun K hK => ?_); have hs35 : w31.cell? ⟨gb390, 2, none⟩ = some (u391002) := (blk_cell BK390.out 2).trans rfl; have hfs35 := blk_frozen BK390.out 2; have hns35_0 := NB383_390.out; have hns35_2 := NB392_390.out; have hms35_0 := NB390_383.out; have hms35_2 := NB390_392.out; refine skip_ (w1 := ?_) (by rfl) rfl ?_ ?_; rotate_left
        ·
         go_simp; rfl
        refine hK.out _ _ ?_; clear hK K; refine done_ (done_of HT_.out (by kernel_rfl)) ?_
        try go_wp2
        go_roundg k1
        case measure => have := HK1.out; omega
        case rel => exact ⟨(wrap64 (x25_1 + 1)), (y400), (.slice Ao34 y400.length co34), ar, H', ⟨by have := HK1.out; omega⟩, ⟨by (with_reducible repeat (first | apply Kd.R_alloc | apply Kd.R_drewN | apply Kd.R_drew)); exact Kd.R_mono (Kd.R_far (p := ⟨gb390, 2, none⟩) (Kd.R_types HO_391001.out BK390.out (by decide)) (fun _ hk => hk.2) (.slice Ao34 y400.length co34)) (fun _ hk => trivial)⟩, ⟨by (with_reducible repeat (first | apply Kd.R_alloc | apply Kd.R_drewN | apply Kd.R_drew)); exact Kd.R_mono (Kd.R_far (p := ⟨gb390, 2, none⟩) HO402.out (fun _ hk => hk.2.2.1) (.slice Ao34 y400.length co34)) (fun _ hk => ⟨hk.1, ⟨hk.2.1, hk.2.2.1⟩⟩)⟩, ⟨by (with_reducible repeat first | apply blk_drewN | apply blk_drew | apply blk_alloc); refine blk_far ?_ NB383_390.out _; (with_reducible repeat first | apply blk_drewN | apply blk_drew | apply blk_alloc); exact BK383.out⟩, ⟨by (with_reducible repeat first | apply blk_drewN | apply blk_drew | apply blk_alloc); refine blk_put (cs := #[.int .i64 (wrap64 ((wrap64 ((wrap64 ((l0_1.length : Int) + (l0_2.length : Int))) + 1)) - a0_0)), .slice Ao12 y387.length co12, u391002]) ?_ 2 _ rfl; (with_reducible repeat first | apply blk_drewN | apply blk_drew | apply blk_alloc); exact BK390.out⟩, ⟨by repeat (first | (with_reducible first | exact HB.out | apply below_alloc | apply pw_below_drewN | apply below_drew1 | refine below_set ?_ GE383.out | refine below_set ?_ GE390.out | refine below_set ?_ GE392.out) | exact HB.out)⟩⟩
       ·
        rw [if_neg c23] at H; exact absurd H (by simp)
      ·
       rw [if_neg c21] at H; exact absurd H (by simp)
     ·
      rw [if_neg c20] at H; exact absurd H (by simp)
    ·
     rw [if_neg c19] at H; have c19b0 : decide (x25_1 < (l0_2.length : Int)) = false := decide_eq_false c19; clear c19; simp only [Option.some.injEq, Prod.mk.injEq] at H; obtain ⟨rfl, rfl, rfl⟩ := H; have hnb36 := NB390_383.out; have hnc36 := NB383_390.out; obtain ⟨hcz37_0, hcz37_1, hcz37_2, hfz37_0, hfz37_1, hfz37_2⟩ := blkC3 BK390.out; obtain ⟨hcz38_0, hcz38_1, hcz38_2, hfz38_0, hfz38_1, hfz38_2⟩ := blkC3 BK383.out; obtain ⟨Ao39, co39, eo39⟩ := Kd.R_slice HO_391002.out; subst eo39
     go_wp2
     refine bodyPost_ret (results_cell_row rfl _ _ gb383 27 #[.int .i64 (wrap64 ((wrap64 ((wrap64 ((l0_1.length : Int) + (l0_2.length : Int))) + 1)) - a0_0)), .slice Ao12 y387.length co12, .slice Ao39 x391002_1.length co39] (0, 0) _ rfl (by (with_reducible repeat first | apply blk_drewN | apply blk_drew | apply blk_alloc); refine blk_put (cs := #[.int .i64 (wrap64 ((wrap64 ((wrap64 ((l0_1.length : Int) + (l0_2.length : Int))) + 1)) - a0_0)), .slice Ao12 y387.length co12, .slice none 0 0]) ?_ 2 _ rfl; (with_reducible repeat first | apply blk_drewN | apply blk_drew | apply blk_alloc); refine blk_put (cs := #[.int .i64 (wrap64 ((wrap64 ((wrap64 ((l0_1.length : Int) + (l0_2.length : Int))) + 1)) - a0_0)), .slice none 0 0, .slice none 0 0]) ?_ 1 _ rfl; (with_reducible repeat first | apply blk_drewN | apply blk_drew | apply blk_alloc); refine blk_put (cs := #[.int .i64 0, .slice none 0 0, .slice none 0 0]) ?_ 0 _ rfl; (with_reducible repeat first | apply blk_drewN | apply blk_drew | apply blk_alloc); exact BK383.out) Try.underlying27 rfl (by kernel_rfl)) rfl ?_
     exact ⟨_, _, by first | rfl | (simp [errW_none, errW_some] <;> rfl) | (simp [*, errW_none, errW_some] <;> rfl), by (with_reducible repeat (first | apply Kd.R_alloc | apply Kd.R_drewN | apply Kd.R_drew)); exact Kd.R_mono (Kd.R_far (p := ⟨gb383, 2, none⟩) (Kd.R_far (p := ⟨gb383, 1, none⟩) (Kd.R_far (p := ⟨gb383, 0, none⟩) (Kd.R_types HO_391001.out BK383.out (by decide)) (fun _ hk => hk.2) (.int .i64 (wrap64 ((wrap64 ((wrap64 ((l0_1.length : Int) + (l0_2.length : Int))) + 1)) - a0_0)))) (fun _ hk => hk.2) (.slice Ao12 y387.length co12)) (fun _ hk => hk.2) (.slice Ao39 x391002_1.length co39)) (fun _ hk => trivial), by (with_reducible repeat (first | apply Kd.R_alloc | apply Kd.R_drewN | apply Kd.R_drew)); exact Kd.R_mono (Kd.R_far (p := ⟨gb383, 2, none⟩) (Kd.R_far (p := ⟨gb383, 1, none⟩) (Kd.R_far (p := ⟨gb383, 0, none⟩) HO_391002.out (fun _ hk => hk.2.1) (.int .i64 (wrap64 ((wrap64 ((wrap64 ((l0_1.length : Int) + (l0_2.length : Int))) + 1)) - a0_0)))) (fun _ hk => hk.2.1) (.slice Ao12 y387.length co12)) (fun _ hk => hk.2.1) (.slice Ao39 x391002_1.length co39)) (fun _ hk => hk.1), by repeat (first | (with_reducible first | exact HB.out | apply below_alloc | apply pw_below_drewN | apply below_drew1 | refine below_set ?_ GE383.out | refine below_set ?_ GE390.out) | exact HB.out)⟩
 ·
  rw [if_neg c2] at H; exact absurd H (by simp)
end Go.Proofs.Yteljoemeogeidaa.QThresholdAnswers
