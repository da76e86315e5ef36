/- Lean functions that answer as the Go functions do which the law reaches, and proofs that the Go code comes to exactly these answers. Conditions: those that each theorem names. -/
import Derived.Test.YtmeamdklonmahaaQFederatedViewx0
namespace Go.Proofs.Ytmeamdklonmahaa.QFederatedView
open Go.RowKit Go.Proofs.YtmeamdklonmahaaW.PrintWords Go.Proofs.YtmeamdklonmahaaW.PrintLast Go.Proofs.YtmeamdklonmahaaW.PrintMore
attribute [local go_sem] max2_int min2_int max_two min_two max_three min_three max_four min_four   -- for this text's walks alone
set_option linter.unusedVariables false
set_option linter.unusedSimpArgs false

/-! ### federated_copied: function 64 -/
mutual
def federated_copied.l0 : Nat → List (S48) → Int → Int → Int → List Int → List (S48) → Option (Int × List Int × (List (S48)))
  | 0, _, _, _, _, _, _ => none
  | k + 1, x13, x14, x15, x412000, x412001, x412002 => if x15 < x14 then (if 0 ≤ x15 then (if x15 < (x13.length : Int) then ((federated_copied.f k ((rd_T48 x13 x15).f0) ((rd_T48 x13 x15).f1) ((rd_T48 x13 x15).f2)).bind fun bt414 => (if x412002.length < 2513169434916 then (federated_copied.l0 k x13 x14 (wrap64 (x15 + 1)) x412000 x412001 (x412002 ++ [(⟨bt414.1, bt414.2.1, bt414.2.2⟩ : S48)])) else (none))) else (none)) else (none)) else (some (x412000, x412001, x412002))
def federated_copied.f : Nat → Int → List Int → List (S48) → Option (Int × List Int × (List (S48)))
  | 0, _, _, _ => none
  | k + 1, a0_0, l0_1, l0_2 => if ([] : List Int).length + l0_1.length < 17592186044416 then (federated_copied.l0 k l0_2 (l0_2.length : Int) 0 a0_0 (([] : List Int) ++ l0_1) ([] : List (S48))) else (none)
end
theorem federated_copied.mono_l : ∀ k, (∀ y0 y1 y2, LeO (federated_copied.f k y0 y1 y2) (federated_copied.f (k + 1) y0 y1 y2)) ∧ (∀ y0 y1 y2 y3 y4 y5, LeO (federated_copied.l0 k y0 y1 y2 y3 y4 y5) (federated_copied.l0 (k + 1) y0 y1 y2 y3 y4 y5))
  | 0 => ⟨fun _ _ _ r h => by simp [federated_copied.f] at h, fun _ _ _ _ _ _ r h => by simp [federated_copied.l0] at h⟩
  | k + 1 => by
    obtain ⟨ih0, ih1⟩ := federated_copied.mono_l k
    refine ⟨?_, ?_⟩
    · intro y0 y1 y2
      unfold federated_copied.f
      repeat' first
      | (with_reducible exact ih0 _ _ _)
      | (with_reducible exact ih1 _ _ _ _ _ _)
      | (with_reducible exact LeO.refl _)
      | (with_reducible exact LeO.none _)
      | (with_reducible refine LeO.ite ?_ ?_)
      | (with_reducible refine LeO.bind ?_ (fun _ => ?_))
      | exact ih0 _ _ _
      | exact ih1 _ _ _ _ _ _
      | exact LeO.none _
      | refine LeO.ite ?_ ?_
      | refine LeO.bind ?_ (fun _ => ?_)
    · intro y0 y1 y2 y3 y4 y5
      unfold federated_copied.l0
      repeat' first
      | (with_reducible exact ih0 _ _ _)
      | (with_reducible exact ih1 _ _ _ _ _ _)
      | (with_reducible exact LeO.refl _)
      | (with_reducible exact LeO.none _)
      | (with_reducible refine LeO.ite ?_ ?_)
      | (with_reducible refine LeO.bind ?_ (fun _ => ?_))
      | exact ih0 _ _ _
      | exact ih1 _ _ _ _ _ _
      | exact LeO.none _
      | refine LeO.ite ?_ ?_
      | refine LeO.bind ?_ (fun _ => ?_)
theorem federated_copied.mono : ∀ a0 a1 a2 k, LeO (federated_copied.f k a0 a1 a2) (federated_copied.f (k + 1) a0 a1 a2) := by
  intro a0 a1 a2 k
  obtain ⟨ih0, ih1⟩ := federated_copied.mono_l k
  exact ih0 a0 a1 a2
def federated_copied.T1 : Bool × List (List Nat × List Nat) := (true, [([], []), ([0], [0]), ([], []), ([2], [2]), ([3], [3]), ([1, 4], [1, 4]), ([], []), ([6, 5, 4, 0, 1, 2, 3, 4, 5, 6], [5, 6])])
def federated_copied.B1 : List Nat := [0, 1, 0, 4, 12, 31, 0, 127]
theorem federated_copied.tab1 : rtab .any (opsOf Try.f64 1) = federated_copied.T1 := by kernel_rfl
theorem federated_copied.bits1 : waitsOk federated_copied.T1.2 federated_copied.B1 = true := by kernel_rfl
def federated_copied.T5 : Bool × List (List Nat × List Nat) := (true, [([], []), ([0], [0]), ([], []), ([2], [2]), ([3], [3]), ([1, 4, 3], [1, 4]), ([0, 1, 2, 3, 4, 5], []), ([6, 5, 5, 0, 1, 2, 3, 4, 5], [5, 6])])
def federated_copied.B5 : List Nat := [0, 1, 0, 4, 12, 31, 63, 127]
theorem federated_copied.tab5 : rtab .any (opsOf Try.f64 5) = federated_copied.T5 := by kernel_rfl
theorem federated_copied.bits5 : waitsOk federated_copied.T5.2 federated_copied.B5 = true := by kernel_rfl
set_option maxHeartbeats 8000000 in
set_option maxRecDepth 100000 in
theorem federated_copied.calls (k : Nat) : ∀ (a0_0 : Int) (A0_1 : Option Addr) (c0_1 : Nat) (l0_1 : List Int) (A0_2 : Option Addr) (c0_2 : Nat) (l0_2 : List (S48)) (r1 : Int) (r2 : List Int) (r3 : List (S48)) (w : World) (hr0_1 : Kd.C (Kd.int .i64) w A0_1 l0_1.length l0_1) (hc0_1 : l0_1.length ≤ c0_1) (hr0_2 : Kd.C k48 w A0_2 l0_2.length l0_2) (hc0_2 : l0_2.length ≤ c0_2) (h : federated_copied.f k a0_0 l0_1 l0_2 = some (r1, r2, r3)),
    Calls Try.prog 64 #[.agg #[.int .i64 a0_0, .slice A0_1 l0_1.length c0_1, .slice A0_2 l0_2.length c0_2]] w fun e w' => ∃ v1_ v2_ : Value, e = .returned (.agg #[.int .i64 r1, v1_, v2_]) ∧ Kd.R (Kd.int .i64) 3 w' w.heap.size (fun _ => True) v1_ r2 ∧ Kd.R k48 48 w' w.heap.size (fun k_ => some k_ ≠ (v1_ : Value).ownBlock) v2_ r3 ∧ Below w.heap.size w w' := by
 induction k using Nat.strongRecOn with
 | _ k ih =>
 intro a0_0 A0_1 c0_1 l0_1 A0_2 c0_2 l0_2 r1 r2 r3 w hr0_1 hc0_1 hr0_2 hc0_2 h
 cases k with
 | zero => exact absurd h (by simp [federated_copied.f])
 | succ k =>
 simp only [federated_copied.f] at h; have hu48 := Try.underlying48; have HR0_1 := Aside0.mk hr0_1; have HC0_1 := Aside0.mk hc0_1; clear hr0_1 hc0_1; have HR0_2 := Aside0.mk hr0_2; have HC0_2 := Aside0.mk hc0_2; clear hr0_2 hc0_2; have HB := Aside0.mk (Below.refl w.heap.size w); have H : (if ([] : List Int).length + l0_1.length < 17592186044416 then (federated_copied.l0 k l0_2 (l0_2.length : Int) 0 a0_0 (([] : List Int) ++ l0_1) ([] : List (S48))) else (none)) = some (r1, r2, r3) := h; clear h
 by_cases c2 : ([] : List Int).length + l0_1.length < 17592186044416
 ·
  rw [if_pos c2] at H; have LMc2 := Aside0.mk c2; clear c2; obtain ⟨y408, hy408⟩ : ∃ y_ : List Int, y_ = (([] : List Int) ++ l0_1) := ⟨_, rfl⟩; replace H : (federated_copied.l0 k l0_2 (l0_2.length : Int) 0 a0_0 y408 ([] : List (S48))) = some (r1, r2, r3) := by first | (rw [hy408]; with_reducible exact H) | (have H2_ := (Option.bind_some _ _).symm.trans H; rw [hy408]; with_reducible exact H2_) | (have H2_ := (Option.bind_some _ _).symm.trans H; with_reducible exact H2_) | with_reducible exact H | (rw [hy408]; exact H) | exact H
  have Ny408 := Aside0.mk hy408; clear hy408; have H' := Aside0.mk H; clear H
  go_enter Try.func64, Try.ntmps64
  try go_wp2_with (first | ((with_reducible refine gate_dst (N := 1) rfl ?_); refine box_event ?hg (N := 1) ?hd (cs := #[.int .i64 a0_0, .slice A0_1 l0_1.length c0_1, .slice A0_2 l0_2.length c0_2]) (t := 48) ?hr ?_; (case hd => rfl); (case hg => rfl); (case hr => first | (go_simp; done) | (go_simp; rfl)); intro gb406 hg w3 hbox hb; have BK406 := Aside0.mk (hbox); have GW406 := Aside0.mk ((by rw [hg]; exact (below_size HB.out) : w.heap.size ≤ gb406)); have GE406 := Aside0.mk ((by rw [hg]; exact (below_size HB.out) : w.heap.size ≤ gb406)); replace HB := Aside0.mk (below_step HB.out hb); clear hb hbox hg) | ((with_reducible refine gate_dst (N := 2) rfl ?_); refine box_event ?hg (N := 2) ?hd (cs := #[.int .i64 0, .slice none 0 0, .slice none 0 0]) (t := 48) ?hr ?_; (case hd => rfl); (case hg => rfl); (case hr => first | (go_simp; done) | (go_simp; rfl)); intro gb407 hg w4 hbox hb; have BK407 := Aside0.mk (hbox); have GW407 := Aside0.mk ((by rw [hg]; exact (below_size HB.out) : w.heap.size ≤ gb407)); have GE407 := Aside0.mk ((by rw [hg]; exact (below_size HB.out) : w.heap.size ≤ gb407)); replace HB := Aside0.mk (below_step HB.out hb); have NB406_407 := Aside0.mk ((by rw [hg]; exact Nat.ne_of_lt (blk_lt BK406.out) : gb406 ≠ gb407)); have NB407_406 := Aside0.mk ((by rw [hg]; exact Nat.ne_of_gt (blk_lt BK406.out) : gb407 ≠ gb406)); replace BK406 := Aside0.mk (blk_below BK406.out hb); clear hb hbox hg))
  replace BK406 := Aside0.mk (blk_drew BK406.out); replace BK407 := Aside0.mk (blk_drew BK407.out); replace HB := Aside0.mk (below_drew1 HB.out); refine start_ (n := 8) (S := fun w' => w'.cell? ⟨gb406, 0, none⟩ = some (.int .i64 a0_0) ∧ w'.cell? ⟨gb406, 1, none⟩ = some (.slice A0_1 l0_1.length c0_1) ∧ w'.cell? ⟨gb406, 2, none⟩ = some (.slice A0_2 l0_2.length c0_2)) (ds := []) #[false, false, false, false, false, false, false, false] (by kernel_rfl) rfl rfl ⟨(blk_cell BK406.out 0).trans rfl, (blk_cell BK406.out 1).trans rfl, (blk_cell BK406.out 2).trans rfl⟩ (fun hHeld => ?_); refine with_tabW federated_copied.tab1 federated_copied.bits1 (fun HT_ HW_ => ?_); generalize w4.drew = w5 at BK406 BK407 HB hHeld ⊢; refine pure_ (i := 0) (N := some 6) (v := ?_) (a' := ?_) #[true, false, false, false, false, false, false, false] rfl rfl (any_of HT_.out (by kernel_rfl)) (fun _ _ _ h => h) (Or.inl ⟨by rfl, ?_⟩) ?_ ?_; rotate_left
  ·
   intro w'; go_simp
   with_reducible rfl
  rotate_left
  ·
   simp only [Act.put, List.setIfInBounds_toArray, List.set_cons_zero, List.set_cons_succ, i64_w, i32_w]; rfl
  refine pure_ (i := 2) (N := some 8) (v := ?_) (a' := ?_) #[true, false, true, false, false, false, false, false] rfl rfl (any_of HT_.out (by kernel_rfl)) (fun _ _ _ h => h) (Or.inl ⟨by rfl, ?_⟩) ?_ ?_; rotate_left
  ·
   intro w'; go_simp
   with_reducible rfl
  rotate_left
  ·
   simp only [Act.put, List.setIfInBounds_toArray, List.set_cons_zero, List.set_cons_succ, i64_w, i32_w]; rfl
  refine take_ (i := 1) (N := some 7) (v := ?_) (a' := ?_) #[true, true, true, false, false, false, false, false] rfl rfl (take_ofW HT_.out HW_.out (by kernel_rfl)) (fun _ _ _ h => h) (Or.inl ⟨by rfl, ?_⟩) hHeld ?_ ?_; rotate_left
  ·
   rintro w' ⟨s0, s1, s2⟩; go_simp
   with_reducible rfl
  rotate_left
  ·
   simp only [Act.put, List.setIfInBounds_toArray, List.set_cons_zero, List.set_cons_succ, i64_w, i32_w]; rfl
  refine take_ (i := 3) (N := some 9) (v := ?_) (a' := ?_) #[true, true, true, true, false, false, false, false] rfl rfl (take_ofW HT_.out HW_.out (by kernel_rfl)) (fun _ _ _ h => h) (Or.inl ⟨by rfl, ?_⟩) hHeld ?_ ?_; rotate_left
  ·
   rintro w' ⟨s0, s1, s2⟩; go_simp
   with_reducible rfl
  rotate_left
  ·
   simp only [Act.put, List.setIfInBounds_toArray, List.set_cons_zero, List.set_cons_succ, i64_w, i32_w]; rfl
  refine join_ (σ := Value × Nat) 1 #[true, true, true, true, true, true, true, false] (fun s_ => [(10, s_.1), (3, .pointer (some ⟨s_.2, 0, none⟩)), (11, .agg #[.int .i64 a0_0, s_.1, .slice none 0 0])]) (fun s_ w' => (w'.cell? ⟨gb406, 0, none⟩ = some (.int .i64 a0_0) ∧ w'.cell? ⟨gb406, 1, none⟩ = some (.slice A0_1 l0_1.length c0_1) ∧ w'.cell? ⟨gb406, 2, none⟩ = some (.slice A0_2 l0_2.length c0_2)) ∧ (Kd.R (Kd.int .i64) 3 w' w.heap.size (fun _ => True) s_.1 y408) ∧ (w'.heap[gb406]? = some (.cells #[.int .i64 a0_0, .slice A0_1 l0_1.length c0_1, .slice A0_2 l0_2.length c0_2] 48 (0, 0))) ∧ (w'.heap[gb407]? = some (.cells #[.int .i64 0, .slice none 0 0, .slice none 0 0] 48 (0, 0))) ∧ (w'.heap[s_.2]? = some (.cells #[.int .i64 0, .slice none 0 0, .slice none 0 0] 48 (0, 0))) ∧ (w.heap.size ≤ s_.2) ∧ (w.heap.size ≤ s_.2) ∧ (gb406 ≠ s_.2) ∧ (s_.2 ≠ gb406) ∧ (gb407 ≠ s_.2) ∧ (s_.2 ≠ gb407) ∧ (Below w.heap.size w w')) ?_ ?_; rotate_left
  ·
   intro hCont; refine two_ (i := 4) (j := 6) (Ni := some 10) (Nj := some 3) #[true, true, true, true, true, false, false, false] #[true, true, true, true, false, false, true, false] rfl rfl rfl rfl (two_of HT_.out (by kernel_rfl)) (by decide) (by decide) (fun K hK => ?_) (fun K hK => ?_)
   ·
    skip
    refine Kd.R_append_rows_step (Kd.int .i64) (w0 := w) w.heap.size (by rfl) (.const (.slice none 0 0)) (.tmp 9) 22 3 (.int .i64 0) 8 rfl Try.underlying22 info3 rfl (by decide) (by omega) (.slice none 0 0) ([] : List Int) l0_1 _ _ _ (fun _ => True) (fun _ => False) rfl rfl ?aO ?aR (fun _ _ h => h) (fun _ h => h.elim) ?aF ?aB ?aS ?aL ?_
    (case aR => exact (Kd.C_below HR0_1.out HB.out))
    (case aB => exact HB.out)
    (case aF => exact (fun _ _ => trivial))
    (case aO => exact ((Kd.R_nil _ _ _ _ (fun _ => True))))
    (case aS => exact (below_size HB.out))
    (case aL => have := LMc2.out; omega)
    intro v409 w6 ho hb hg hat; rw [← Ny408.out] at ho; replace BK406 := Aside0.mk (blk_grown BK406.out hg (by simp [Value.ownBlock])); replace BK407 := Aside0.mk (blk_grown BK407.out hg (by simp [Value.ownBlock])); replace HB := Aside0.mk (hb); have HO410 := Aside0.mk (ho); clear ho hb hg hat; obtain ⟨Ao7, co7, eo7⟩ := Kd.R_slice HO410.out; (first | subst eo7 | (injection eo7 with f1_ f2_ f3_; have f4_ := f1_.symm; have f5_ := f3_.symm; clear f1_ f2_ f3_; subst f4_; subst f5_)); refine hK.out _ _ ⟨(blk_cell BK406.out 0).trans rfl, (blk_cell BK406.out 1).trans rfl, (blk_cell BK406.out 2).trans rfl⟩ (fun hHeld => ?_); clear hK K; refine norm_ (a' := ?_) ?_ ?_; rotate_left
    ·
     show Act.put _ (some 10) _ = _
     simp only [Act.put, List.setIfInBounds_toArray, List.set_cons_zero, List.set_cons_succ, i64_w, i32_w]; rfl
    refine pure_ (i := 5) (N := some 11) (v := ?_) (a' := ?_) #[true, true, true, true, true, true, false, false] rfl rfl (any_of HT_.out (by kernel_rfl)) (fun _ _ _ h => h) (Or.inl ⟨by rfl, ?_⟩) ?_ ?_; rotate_left
    ·
     intro w'; go_simp
     with_reducible rfl
    rotate_left
    ·
     simp only [Act.put, List.setIfInBounds_toArray, List.set_cons_zero, List.set_cons_succ, i64_w, i32_w]; rfl
    refine one_ (i := 6) (N := some 3) #[true, true, true, true, true, true, true, false] rfl rfl (one_of HT_.out (by kernel_rfl)) (by decide) (fun K hK => ?_); refine box_step ?hg (N := 3) ?hd (cs := #[.int .i64 0, .slice none 0 0, .slice none 0 0]) (t := 48) ?hr ?_; (case hd => rfl); (case hg => rfl); (case hr => first | (go_simp; done) | (go_simp; rfl)); intro gb411 hg w8 hbox hb; replace HO410 := Aside0.mk (Kd.R_below HO410.out hb); have BK411 := Aside0.mk (hbox); have GW411 := Aside0.mk ((by rw [hg]; exact (below_size HB.out) : w.heap.size ≤ gb411))
    have GE411 := Aside0.mk ((by rw [hg]; exact (below_size HB.out) : w.heap.size ≤ gb411))
    replace HB := Aside0.mk (below_step HB.out hb); have NB406_411 := Aside0.mk ((by rw [hg]; exact Nat.ne_of_lt (blk_lt BK406.out) : gb406 ≠ gb411))
    have NB411_406 := Aside0.mk ((by rw [hg]; exact Nat.ne_of_gt (blk_lt BK406.out) : gb411 ≠ gb406))
    replace BK406 := Aside0.mk (blk_below BK406.out hb); have NB407_411 := Aside0.mk ((by rw [hg]; exact Nat.ne_of_lt (blk_lt BK407.out) : gb407 ≠ gb411))
    have NB411_407 := Aside0.mk ((by rw [hg]; exact Nat.ne_of_gt (blk_lt BK407.out) : gb411 ≠ gb407))
    replace BK407 := Aside0.mk (blk_below BK407.out hb); clear hb hbox hg; refine hK.out _ _ ⟨(blk_cell BK406.out 0).trans rfl, (blk_cell BK406.out 1).trans rfl, (blk_cell BK406.out 2).trans rfl⟩ (fun hHeld => ?_); clear hK K; refine norm_ (a' := ?_) ?_ ?_; rotate_left
    ·
     show Act.put _ (some 3) _ = _
     simp only [Act.put, List.setIfInBounds_toArray, List.set_cons_zero, List.set_cons_succ, i64_w, i32_w]; rfl
    exact norm_ (by simp only [putAll, Act.put, List.setIfInBounds_toArray, List.set_cons_zero, List.set_cons_succ]) (hCont (.slice Ao7 y408.length co7, gb411) _ ⟨hHeld, HO410.out, BK406.out, BK407.out, BK411.out, GW411.out, GE411.out, NB406_411.out, NB411_406.out, NB407_411.out, NB411_407.out, HB.out⟩)
   ·
    skip
    refine box_step ?hg (N := 3) ?hd (cs := #[.int .i64 0, .slice none 0 0, .slice none 0 0]) (t := 48) ?hr ?_; (case hd => rfl); (case hg => rfl); (case hr => first | (go_simp; done) | (go_simp; rfl)); intro gb411 hg w6 hbox hb; have BK411 := Aside0.mk (hbox); have GW411 := Aside0.mk ((by rw [hg]; exact (below_size HB.out) : w.heap.size ≤ gb411))
    have GE411 := Aside0.mk ((by rw [hg]; exact (below_size HB.out) : w.heap.size ≤ gb411))
    replace HB := Aside0.mk (below_step HB.out hb); have NB406_411 := Aside0.mk ((by rw [hg]; exact Nat.ne_of_lt (blk_lt BK406.out) : gb406 ≠ gb411))
    have NB411_406 := Aside0.mk ((by rw [hg]; exact Nat.ne_of_gt (blk_lt BK406.out) : gb411 ≠ gb406))
    replace BK406 := Aside0.mk (blk_below BK406.out hb); have NB407_411 := Aside0.mk ((by rw [hg]; exact Nat.ne_of_lt (blk_lt BK407.out) : gb407 ≠ gb411))
    have NB411_407 := Aside0.mk ((by rw [hg]; exact Nat.ne_of_gt (blk_lt BK407.out) : gb411 ≠ gb407))
    replace BK407 := Aside0.mk (blk_below BK407.out hb); clear hb hbox hg; refine hK.out _ _ ⟨(blk_cell BK406.out 0).trans rfl, (blk_cell BK406.out 1).trans rfl, (blk_cell BK406.out 2).trans rfl⟩ (fun hHeld => ?_); clear hK K; refine norm_ (a' := ?_) ?_ ?_; rotate_left
    ·
     show Act.put _ (some 3) _ = _
     simp only [Act.put, List.setIfInBounds_toArray, List.set_cons_zero, List.set_cons_succ, i64_w, i32_w]; rfl
    refine one_ (i := 4) (N := some 10) #[true, true, true, true, true, false, true, false] rfl rfl (one_of HT_.out (by kernel_rfl)) (by decide) (fun K hK => ?_); refine Kd.R_append_rows_step (Kd.int .i64) (w0 := w) w.heap.size (by rfl) (.const (.slice none 0 0)) (.tmp 9) 22 3 (.int .i64 0) 8 rfl Try.underlying22 info3 rfl (by decide) (by omega) (.slice none 0 0) ([] : List Int) l0_1 _ _ _ (fun _ => True) (fun _ => False) rfl rfl ?aO ?aR (fun _ _ h => h) (fun _ h => h.elim) ?aF ?aB ?aS ?aL ?_
    (case aR => exact (Kd.C_below HR0_1.out HB.out))
    (case aB => exact HB.out)
    (case aF => exact (fun _ _ => trivial))
    (case aO => exact ((Kd.R_nil _ _ _ _ (fun _ => True))))
    (case aS => exact (below_size HB.out))
    (case aL => have := LMc2.out; omega)
    intro v409 w7 ho hb hg hat; rw [← Ny408.out] at ho; replace BK406 := Aside0.mk (blk_grown BK406.out hg (by simp [Value.ownBlock])); replace BK407 := Aside0.mk (blk_grown BK407.out hg (by simp [Value.ownBlock])); replace BK411 := Aside0.mk (blk_grown BK411.out hg (by simp [Value.ownBlock])); replace HB := Aside0.mk (hb); have HO410 := Aside0.mk (ho); clear ho hb hg hat; obtain ⟨Ao8, co8, eo8⟩ := Kd.R_slice HO410.out; (first | subst eo8 | (injection eo8 with f1_ f2_ f3_; have f4_ := f1_.symm; have f5_ := f3_.symm; clear f1_ f2_ f3_; subst f4_; subst f5_)); refine hK.out _ _ ⟨(blk_cell BK406.out 0).trans rfl, (blk_cell BK406.out 1).trans rfl, (blk_cell BK406.out 2).trans rfl⟩ (fun hHeld => ?_); clear hK K; refine norm_ (a' := ?_) ?_ ?_; rotate_left
    ·
     show Act.put _ (some 10) _ = _
     simp only [Act.put, List.setIfInBounds_toArray, List.set_cons_zero, List.set_cons_succ, i64_w, i32_w]; rfl
    refine pure_ (i := 5) (N := some 11) (v := ?_) (a' := ?_) #[true, true, true, true, true, true, true, false] rfl rfl (any_of HT_.out (by kernel_rfl)) (fun _ _ _ h => h) (Or.inl ⟨by rfl, ?_⟩) ?_ ?_; rotate_left
    ·
     intro w'; go_simp
     with_reducible rfl
    rotate_left
    ·
     simp only [Act.put, List.setIfInBounds_toArray, List.set_cons_zero, List.set_cons_succ, i64_w, i32_w]; rfl
    exact norm_ (by simp only [putAll, Act.put, List.setIfInBounds_toArray, List.set_cons_zero, List.set_cons_succ]) (hCont (.slice Ao8 y408.length co8, gb411) _ ⟨hHeld, HO410.out, BK406.out, BK407.out, BK411.out, GW411.out, GE411.out, NB406_411.out, NB411_406.out, NB407_411.out, NB411_407.out, HB.out⟩)
  rintro ⟨v409, gb411⟩ w9 ⟨hS_, h0_, h1_, h2_, h3_, h4_, h5_, h6_, h7_, h8_, h9_, h10_⟩; have n0_ : Aside0 (Kd.R (Kd.int .i64) 3 w9 w.heap.size (fun _ => True) v409 y408) := ⟨h0_⟩; have n1_ : Aside0 (w9.heap[gb406]? = some (.cells #[.int .i64 a0_0, .slice A0_1 l0_1.length c0_1, .slice A0_2 l0_2.length c0_2] 48 (0, 0))) := ⟨h1_⟩; have n2_ : Aside0 (w9.heap[gb407]? = some (.cells #[.int .i64 0, .slice none 0 0, .slice none 0 0] 48 (0, 0))) := ⟨h2_⟩; have n3_ : Aside0 (w9.heap[gb411]? = some (.cells #[.int .i64 0, .slice none 0 0, .slice none 0 0] 48 (0, 0))) := ⟨h3_⟩; have n4_ : Aside0 (w.heap.size ≤ gb411) := ⟨h4_⟩; have n5_ : Aside0 (w.heap.size ≤ gb411) := ⟨h5_⟩; have n6_ : Aside0 (gb406 ≠ gb411) := ⟨h6_⟩; have n7_ : Aside0 (gb411 ≠ gb406) := ⟨h7_⟩; have n8_ : Aside0 (gb407 ≠ gb411) := ⟨h8_⟩; have n9_ : Aside0 (gb411 ≠ gb407) := ⟨h9_⟩; have n10_ : Aside0 (Below w.heap.size w w9) := ⟨h10_⟩; clear BK406; clear BK407; clear HB; clear h0_ h1_ h2_ h3_ h4_ h5_ h6_ h7_ h8_ h9_ h10_; have HO410 := n0_; have BK406 := n1_; have BK407 := n2_; have BK411 := n3_; have GW411 := n4_; have GE411 := n5_; have NB406_411 := n6_; have NB411_406 := n7_; have NB407_411 := n8_; have NB411_407 := n9_; have HB := n10_; clear n0_ n1_ n2_ n3_ n4_ n5_ n6_ n7_ n8_ n9_ n10_; have hHeld : w9.cell? ⟨gb406, 0, none⟩ = some (.int .i64 a0_0) ∧ w9.cell? ⟨gb406, 1, none⟩ = some (.slice A0_1 l0_1.length c0_1) ∧ w9.cell? ⟨gb406, 2, none⟩ = some (.slice A0_2 l0_2.length c0_2) := hS_; obtain ⟨Ao10, co10, eo10⟩ := Kd.R_slice HO410.out
  (first | subst eo10 | (injection eo10 with f1_ f2_ f3_; have f4_ := f1_.symm; have f5_ := f3_.symm; clear f1_ f2_ f3_; subst f4_; subst f5_)); refine norm_ (a' := ?_) ?_ ?_; rotate_left
  ·
   simp only [putAll, Act.put, List.setIfInBounds_toArray, List.set_cons_zero, List.set_cons_succ]; rfl
  refine one_ (i := 7) (N := none) #[true, true, true, true, true, true, true, true] rfl rfl (one_of HT_.out (by kernel_rfl)) (by decide) (fun K hK => ?_); have hs11 : w9.cell? ⟨gb411, 0, none⟩ = some (.int .i64 0) := (blk_cell BK411.out 0).trans rfl; have hfs11 := blk_frozen BK411.out 0; have hns11_0 := NB406_411.out; have hns11_1 := NB407_411.out; have hms11_0 := NB411_406.out; have hms11_1 := NB411_407.out; have hs12 : w9.cell? ⟨gb411, 1, none⟩ = some (.slice none 0 0) := (blk_cell BK411.out 1).trans rfl; have hfs12 := blk_frozen BK411.out 1; have hns12_0 := NB406_411.out; have hns12_1 := NB407_411.out; have hms12_0 := NB411_406.out; have hms12_1 := NB411_407.out; have hs13 : w9.cell? ⟨gb411, 2, none⟩ = some (.slice none 0 0) := (blk_cell BK411.out 2).trans rfl; have hfs13 := blk_frozen BK411.out 2; have hns13_0 := NB406_411.out; have hns13_1 := NB407_411.out; have hms13_0 := NB411_406.out; have hms13_1 := NB411_407.out; refine skip_ (w1 := ?_) (by rfl) rfl ?_ ?_; rotate_left
  ·
   go_simp; rfl
  refine hK.out _ _ ⟨((cell_far (p := ⟨gb411, _, none⟩) NB406_411.out _).trans (((cell_far (p := ⟨gb411, _, none⟩) NB406_411.out _).trans (((cell_far (p := ⟨gb411, _, none⟩) NB406_411.out _).trans (hHeld.1)))))), ((cell_far (p := ⟨gb411, _, none⟩) NB406_411.out _).trans (((cell_far (p := ⟨gb411, _, none⟩) NB406_411.out _).trans (((cell_far (p := ⟨gb411, _, none⟩) NB406_411.out _).trans (hHeld.2.1)))))), ((cell_far (p := ⟨gb411, _, none⟩) NB406_411.out _).trans (((cell_far (p := ⟨gb411, _, none⟩) NB406_411.out _).trans (((cell_far (p := ⟨gb411, _, none⟩) NB406_411.out _).trans (hHeld.2.2))))))⟩ (fun hHeld => ?_); clear hK K; refine done_ (done_of HT_.out (by kernel_rfl)) ?_; have hnb14 := NB406_407.out; have hnc14 := NB407_406.out; have hnb15 := NB406_411.out; have hnc15 := NB411_406.out; have hcz16_0 : w9.cell? ⟨gb406, 0, none⟩ = some (.int .i64 a0_0) := (blk_cell BK406.out 0).trans rfl; have hcz16_1 : w9.cell? ⟨gb406, 1, none⟩ = some (.slice A0_1 l0_1.length c0_1) := (blk_cell BK406.out 1).trans rfl; have hcz16_2 : w9.cell? ⟨gb406, 2, none⟩ = some (.slice A0_2 l0_2.length c0_2) := (blk_cell BK406.out 2).trans rfl; have hfz16_0 := blk_frozen BK406.out 0; have hfz16_1 := blk_frozen BK406.out 1; have hfz16_2 := blk_frozen BK406.out 2
  try go_wp2
  go_loopg [15] k (fun kq v15 w' => ∃ (x15_1 : Int) (x412002_1 : List (S48)) (u412002 : Value), v15 = .int .i64 x15_1 ∧ Aside0 (federated_copied.l0 kq l0_2 (l0_2.length : Int) x15_1 a0_0 y408 x412002_1 = some (r1, r2, r3)) ∧ Aside0 (kq ≤ k) ∧ Aside0 (Kd.R (Kd.int .i64) 3 w' w.heap.size (fun _ => True) (.slice Ao10 y408.length co10) y408) ∧ Aside0 (Kd.R k48 48 w' w.heap.size (fun k_ => some k_ ≠ ((.slice Ao10 y408.length co10) : Value).ownBlock ∧ k_ ≠ gb407 ∧ k_ ≠ gb411) u412002 x412002_1) ∧ Aside0 (w'.heap[gb407]? = some (.cells #[.int .i64 0, (.slice none 0 0), (.slice none 0 0)] 48 (0, 0))) ∧ Aside0 (w'.heap[gb411]? = some (.cells #[.int .i64 a0_0, (.slice Ao10 y408.length co10), u412002] 48 (0, 0))) ∧ Aside0 (Below w.heap.size w w'))
  case atStart => exact ⟨(0), (([] : List (S48))), (.slice none 0 0), (by first | rfl | (simp; done) | (simp [*]; done) | (refine congrArg (Value.int .i64) ?_; unfold wrap64; omega)), H', ⟨Nat.le_refl _⟩, ⟨by (with_reducible repeat (first | apply Kd.R_alloc | apply Kd.R_drewN | apply Kd.R_drew)); exact Kd.R_mono (Kd.R_far (p := ⟨gb411, 2, none⟩) (Kd.R_far (p := ⟨gb411, 1, none⟩) (Kd.R_far (p := ⟨gb411, 0, none⟩) (Kd.R_types HO410.out BK411.out (by decide)) (fun _ hk => hk.2) (.int .i64 a0_0)) (fun _ hk => hk.2) (.slice Ao10 y408.length co10)) (fun _ hk => hk.2) (.slice none 0 0)) (fun _ hk => trivial)⟩, ⟨by first | exact Kd.R_nil _ _ _ _ _ | exact Kd.N_nil _ _ _ _ _ | exact Kd.V_nil _ _ _ _ _ | exact Kd.Q_nil _ _ _ _ _ | exact Kd.S_nil _ _ _ _ _⟩, ⟨by (with_reducible repeat (first | refine blk_drewN ?_ _ | refine blk_drew ?_ | refine blk_alloc ?_ _)); refine blk_far ?_ NB407_411.out _; (with_reducible repeat (first | refine blk_drewN ?_ _ | refine blk_drew ?_ | refine blk_alloc ?_ _)); refine blk_far ?_ NB407_411.out _; (with_reducible repeat (first | refine blk_drewN ?_ _ | refine blk_drew ?_ | refine blk_alloc ?_ _)); refine blk_far ?_ NB407_411.out _; (with_reducible repeat (first | refine blk_drewN ?_ _ | refine blk_drew ?_ | refine blk_alloc ?_ _)); exact BK407.out⟩, ⟨by (with_reducible repeat (first | refine blk_drewN ?_ _ | refine blk_drew ?_ | refine blk_alloc ?_ _)); refine blk_put (cs := #[.int .i64 a0_0, .slice Ao10 y408.length co10, .slice none 0 0]) ?_ 2 _ rfl; (with_reducible repeat (first | refine blk_drewN ?_ _ | refine blk_drew ?_ | refine blk_alloc ?_ _)); refine blk_put (cs := #[.int .i64 a0_0, .slice none 0 0, .slice none 0 0]) ?_ 1 _ rfl; (with_reducible repeat (first | refine blk_drewN ?_ _ | refine blk_drew ?_ | refine blk_alloc ?_ _)); refine blk_put (cs := #[.int .i64 0, .slice none 0 0, .slice none 0 0]) ?_ 0 _ rfl; (with_reducible repeat (first | refine blk_drewN ?_ _ | refine blk_drew ?_ | refine blk_alloc ?_ _)); exact BK411.out⟩, ⟨by repeat (first | (with_reducible first | exact HB.out | apply below_alloc | apply pw_below_drewN | apply below_drew1 | refine below_set ?_ GE406.out | refine below_set ?_ GE407.out | refine below_set ?_ GE411.out) | exact HB.out)⟩⟩
  case round =>
   clear H'; (try clear c1); (try clear c2); (try clear p2); (try clear c6); (try clear p6); (try clear c14); (try clear c15); (try clear hcz16_0); (try clear hcz16_1); (try clear hcz16_2); (try clear hfz16_0); (try clear hfz16_1); (try clear hfz16_2); obtain ⟨x15_1, x412002_1, u412002, rfl, HA, HK1, HO_412001, HO_412002, BK407, BK411, HB⟩ := hrel
   cases gk with
   | zero => exact absurd HA.out (by simp [federated_copied.l0])
   | succ k1 =>
    have H := HA.out; clear HA; simp only [federated_copied.l0] at H
    by_cases c17 : x15_1 < (l0_2.length : Int)
    ·
     rw [if_pos c17] at H; have c17b0 : decide (x15_1 < (l0_2.length : Int)) = true := decide_eq_true c17; clear c17
     by_cases c18 : 0 ≤ x15_1
     ·
      rw [if_pos c18] at H; have c18b0 : decide (0 ≤ x15_1) = true := decide_eq_true c18; clear c18
      by_cases c19 : x15_1 < (l0_2.length : Int)
      ·
       rw [if_pos c19] at H; have c19b0 : decide (x15_1 < (l0_2.length : Int)) = true := decide_eq_true c19; clear c19; replace H := Option.bind_eq_some_iff.mp H; obtain ⟨⟨t414, t415, t418⟩, A200, H⟩ := H; replace H : (if x412002_1.length < 2513169434916 then (federated_copied.l0 k1 l0_2 (l0_2.length : Int) (wrap64 (x15_1 + 1)) a0_0 y408 (x412002_1 ++ [(⟨t414, t415, t418⟩ : S48)])) else (none)) = some (r1, r2, r3) := H; have A20 := Aside0.mk A200; clear A200
       by_cases c21 : x412002_1.length < 2513169434916
       ·
        rw [if_pos c21] at H; have LMc21 := Aside0.mk c21; clear c21; obtain ⟨y421, hy421⟩ : ∃ y_ : List (S48), y_ = (x412002_1 ++ [(⟨t414, t415, t418⟩ : S48)]) := ⟨_, rfl⟩; replace H : (federated_copied.l0 k1 l0_2 (l0_2.length : Int) (wrap64 (x15_1 + 1)) a0_0 y408 y421) = some (r1, r2, r3) := by first | (rw [hy421]; with_reducible exact H) | (have H2_ := (Option.bind_some _ _).symm.trans H; rw [hy421]; with_reducible exact H2_) | (have H2_ := (Option.bind_some _ _).symm.trans H; with_reducible exact H2_) | with_reducible exact H | (rw [hy421]; exact H) | exact H
        have Ny421 := Aside0.mk hy421; clear hy421; have H' := Aside0.mk H; clear H; have p412 : 0 ≤ (x15_1 : Int) := of_decide_eq_true (by first | (with_reducible assumption) | assumption); have q412 : x15_1 < (l0_2.length : Int) := of_decide_eq_true (by first | (with_reducible assumption) | assumption); obtain ⟨ad412, A412_1, c412_1, A412_2, c412_2, e412, hx412_0, hx412_1, hx412_2, hl412_1, hi412_1, hl412_2, hi412_2⟩ := at_T48 HR0_2.out x15_1 p412 q412
        cases e412
        replace hx412_0 := (HB.out.cell (World.block_lt_of_cell? w _ hx412_0)).trans hx412_0; replace hx412_1 := (HB.out.cell (World.block_lt_of_cell? w _ hx412_1)).trans hx412_1; replace hx412_2 := (HB.out.cell (World.block_lt_of_cell? w _ hx412_2)).trans hx412_2; have HR412_1 := Aside0.mk hi412_1; have HC412_1 := Aside0.mk hl412_1; clear hi412_1 hl412_1; have HR412_2 := Aside0.mk hi412_2; have HC412_2 := Aside0.mk hl412_2; clear hi412_2 hl412_2; replace p412 := eq_true p412; replace q412 := eq_true q412
        try go_wp2_with (first | ((with_reducible refine gate_dst (N := 5) rfl ?_); refine box_event ?hg (N := 5) ?hd (cs := #[.int .i64 0, .slice none 0 0, .slice none 0 0]) (t := 48) ?hr ?_; (case hd => rfl); (case hg => rfl); (case hr => first | (go_simp; done) | (go_simp; rfl)); intro gb413 hg w22 hbox hb; replace HO_412001 := Aside0.mk (Kd.R_below HO_412001.out hb); replace HO_412002 := Aside0.mk (Kd.R_below (Kd.R_elderB HO_412002.out gb413 (Nat.le_of_eq hg.symm)) hb); have BK413 := Aside0.mk (hbox); have GW413 := Aside0.mk ((by rw [hg]; exact (below_size HB.out) : w.heap.size ≤ gb413)); have GE413 := Aside0.mk ((by rw [hg]; exact (below_size HB.out) : w.heap.size ≤ gb413)); replace HB := Aside0.mk (below_step HB.out hb); have NB407_413 := Aside0.mk ((by rw [hg]; exact Nat.ne_of_lt (blk_lt BK407.out) : gb407 ≠ gb413)); have NB413_407 := Aside0.mk ((by rw [hg]; exact Nat.ne_of_gt (blk_lt BK407.out) : gb413 ≠ gb407)); replace BK407 := Aside0.mk (blk_below BK407.out hb); have NB411_413 := Aside0.mk ((by rw [hg]; exact Nat.ne_of_lt (blk_lt BK411.out) : gb411 ≠ gb413)); have NB413_411 := Aside0.mk ((by rw [hg]; exact Nat.ne_of_gt (blk_lt BK411.out) : gb413 ≠ gb411)); replace BK411 := Aside0.mk (blk_below BK411.out hb); clear hb hbox hg; have hnb23 := NB413_407.out; have hnc23 := NB407_413.out; have hnb24 := NB413_411.out; have hnc24 := NB411_413.out; obtain ⟨hcz25_0, hcz25_1, hcz25_2, hfz25_0, hfz25_1, hfz25_2⟩ := blkC3 BK413.out))
        have n0_ : Aside0 (Kd.R (Kd.int .i64) 3 (((w22.setCell ⟨gb413, 0, none⟩ (.int .i64 ((rd_T48 l0_2 x15_1).f0))).setCell ⟨gb413, 1, none⟩ (.slice A412_1 ((rd_T48 l0_2 x15_1).f1).length c412_1)).setCell ⟨gb413, 2, none⟩ (.slice A412_2 ((rd_T48 l0_2 x15_1).f2).length c412_2)) w.heap.size (fun _ => True) (.slice Ao10 y408.length co10) y408) := ⟨by (with_reducible repeat (first | apply Kd.R_alloc | apply Kd.R_drewN | apply Kd.R_drew)); exact Kd.R_mono (Kd.R_far (p := ⟨gb413, 2, none⟩) (Kd.R_far (p := ⟨gb413, 1, none⟩) (Kd.R_far (p := ⟨gb413, 0, none⟩) (Kd.R_types HO_412001.out BK413.out (by decide)) (fun _ hk => hk.2) (.int .i64 ((rd_T48 l0_2 x15_1).f0))) (fun _ hk => hk.2) (.slice A412_1 ((rd_T48 l0_2 x15_1).f1).length c412_1)) (fun _ hk => hk.2) (.slice A412_2 ((rd_T48 l0_2 x15_1).f2).length c412_2)) (fun _ hk => trivial)⟩
        have n1_ : Aside0 (Kd.R k48 48 (((w22.setCell ⟨gb413, 0, none⟩ (.int .i64 ((rd_T48 l0_2 x15_1).f0))).setCell ⟨gb413, 1, none⟩ (.slice A412_1 ((rd_T48 l0_2 x15_1).f1).length c412_1)).setCell ⟨gb413, 2, none⟩ (.slice A412_2 ((rd_T48 l0_2 x15_1).f2).length c412_2)) w.heap.size (fun k_ => some k_ ≠ (.slice Ao10 y408.length co10 : Value).ownBlock ∧ k_ ≠ gb407 ∧ k_ ≠ gb411 ∧ k_ ≠ gb413) u412002 x412002_1) := ⟨by (with_reducible repeat (first | apply Kd.R_alloc | apply Kd.R_drewN | apply Kd.R_drew)); exact Kd.R_mono (Kd.R_far (p := ⟨gb413, 2, none⟩) (Kd.R_far (p := ⟨gb413, 1, none⟩) (Kd.R_far (p := ⟨gb413, 0, none⟩) (Kd.R_mono HO_412002.out (fun k_ hk => (⟨hk, hk.2⟩ : _ ∧ k_ ≠ gb413))) (fun _ hk => hk.2) (.int .i64 ((rd_T48 l0_2 x15_1).f0))) (fun _ hk => hk.2) (.slice A412_1 ((rd_T48 l0_2 x15_1).f1).length c412_1)) (fun _ hk => hk.2) (.slice A412_2 ((rd_T48 l0_2 x15_1).f2).length c412_2)) (fun _ hk => ⟨hk.1.1.1, ⟨hk.1.1.2.1, ⟨hk.1.1.2.2, hk.1.2⟩⟩⟩)⟩
        have n2_ : Aside0 ((((w22.setCell ⟨gb413, 0, none⟩ (.int .i64 ((rd_T48 l0_2 x15_1).f0))).setCell ⟨gb413, 1, none⟩ (.slice A412_1 ((rd_T48 l0_2 x15_1).f1).length c412_1)).setCell ⟨gb413, 2, none⟩ (.slice A412_2 ((rd_T48 l0_2 x15_1).f2).length c412_2)).heap[gb407]? = some (.cells #[.int .i64 0, .slice none 0 0, .slice none 0 0] 48 (0, 0))) := ⟨by (with_reducible repeat (first | refine blk_drewN ?_ _ | refine blk_drew ?_ | refine blk_alloc ?_ _)); refine blk_far ?_ NB407_413.out _; (with_reducible repeat (first | refine blk_drewN ?_ _ | refine blk_drew ?_ | refine blk_alloc ?_ _)); refine blk_far ?_ NB407_413.out _; (with_reducible repeat (first | refine blk_drewN ?_ _ | refine blk_drew ?_ | refine blk_alloc ?_ _)); refine blk_far ?_ NB407_413.out _; (with_reducible repeat (first | refine blk_drewN ?_ _ | refine blk_drew ?_ | refine blk_alloc ?_ _)); exact BK407.out⟩
        have n3_ : Aside0 ((((w22.setCell ⟨gb413, 0, none⟩ (.int .i64 ((rd_T48 l0_2 x15_1).f0))).setCell ⟨gb413, 1, none⟩ (.slice A412_1 ((rd_T48 l0_2 x15_1).f1).length c412_1)).setCell ⟨gb413, 2, none⟩ (.slice A412_2 ((rd_T48 l0_2 x15_1).f2).length c412_2)).heap[gb411]? = some (.cells #[.int .i64 a0_0, .slice Ao10 y408.length co10, u412002] 48 (0, 0))) := ⟨by (with_reducible repeat (first | refine blk_drewN ?_ _ | refine blk_drew ?_ | refine blk_alloc ?_ _)); refine blk_far ?_ NB411_413.out _; (with_reducible repeat (first | refine blk_drewN ?_ _ | refine blk_drew ?_ | refine blk_alloc ?_ _)); refine blk_far ?_ NB411_413.out _; (with_reducible repeat (first | refine blk_drewN ?_ _ | refine blk_drew ?_ | refine blk_alloc ?_ _)); refine blk_far ?_ NB411_413.out _; (with_reducible repeat (first | refine blk_drewN ?_ _ | refine blk_drew ?_ | refine blk_alloc ?_ _)); exact BK411.out⟩
        have n4_ : Aside0 ((((w22.setCell ⟨gb413, 0, none⟩ (.int .i64 ((rd_T48 l0_2 x15_1).f0))).setCell ⟨gb413, 1, none⟩ (.slice A412_1 ((rd_T48 l0_2 x15_1).f1).length c412_1)).setCell ⟨gb413, 2, none⟩ (.slice A412_2 ((rd_T48 l0_2 x15_1).f2).length c412_2)).heap[gb413]? = some (.cells #[.int .i64 ((rd_T48 l0_2 x15_1).f0), .slice A412_1 ((rd_T48 l0_2 x15_1).f1).length c412_1, .slice A412_2 ((rd_T48 l0_2 x15_1).f2).length c412_2] 48 (0, 0))) := ⟨by (with_reducible repeat (first | refine blk_drewN ?_ _ | refine blk_drew ?_ | refine blk_alloc ?_ _)); refine blk_put (cs := #[.int .i64 ((rd_T48 l0_2 x15_1).f0), .slice A412_1 ((rd_T48 l0_2 x15_1).f1).length c412_1, .slice none 0 0]) ?_ 2 _ rfl; (with_reducible repeat (first | refine blk_drewN ?_ _ | refine blk_drew ?_ | refine blk_alloc ?_ _)); refine blk_put (cs := #[.int .i64 ((rd_T48 l0_2 x15_1).f0), .slice none 0 0, .slice none 0 0]) ?_ 1 _ rfl; (with_reducible repeat (first | refine blk_drewN ?_ _ | refine blk_drew ?_ | refine blk_alloc ?_ _)); refine blk_put (cs := #[.int .i64 0, .slice none 0 0, .slice none 0 0]) ?_ 0 _ rfl; (with_reducible repeat (first | refine blk_drewN ?_ _ | refine blk_drew ?_ | refine blk_alloc ?_ _)); exact BK413.out⟩
        have n5_ : Aside0 (Below w.heap.size w (((w22.setCell ⟨gb413, 0, none⟩ (.int .i64 ((rd_T48 l0_2 x15_1).f0))).setCell ⟨gb413, 1, none⟩ (.slice A412_1 ((rd_T48 l0_2 x15_1).f1).length c412_1)).setCell ⟨gb413, 2, none⟩ (.slice A412_2 ((rd_T48 l0_2 x15_1).f2).length c412_2))) := ⟨by repeat (first | (with_reducible first | exact HB.out | apply below_alloc | apply pw_below_drewN | apply below_drew1 | refine below_set ?_ GE407.out | refine below_set ?_ GE411.out | refine below_set ?_ GE413.out) | exact HB.out)⟩; (try clear HO_412001); (try clear HO_412002); (try clear BK407); (try clear BK411); (try clear BK413); (try clear HB); generalize (((w22.setCell ⟨gb413, 0, none⟩ (.int .i64 ((rd_T48 l0_2 x15_1).f0))).setCell ⟨gb413, 1, none⟩ (.slice A412_1 ((rd_T48 l0_2 x15_1).f1).length c412_1)).setCell ⟨gb413, 2, none⟩ (.slice A412_2 ((rd_T48 l0_2 x15_1).f2).length c412_2)) = w26 at n0_ n1_ n2_ n3_ n4_ n5_ ⊢; have HO_412001 := n0_; have HO_412002 := n1_; have BK407 := n2_; have BK411 := n3_; have BK413 := n4_; have HB := n5_; clear n0_ n1_ n2_ n3_ n4_ n5_; replace HO_412001 := Aside0.mk (Kd.R_drew HO_412001.out); replace HO_412002 := Aside0.mk (Kd.R_drew HO_412002.out); replace BK407 := Aside0.mk (blk_drew BK407.out); replace BK411 := Aside0.mk (blk_drew BK411.out); replace BK413 := Aside0.mk (blk_drew BK413.out); replace HB := Aside0.mk (below_drew1 HB.out); refine start_ (n := 8) (S := fun w' => w'.cell? ⟨gb411, 0, none⟩ = some (.int .i64 a0_0) ∧ w'.cell? ⟨gb411, 1, none⟩ = some (.slice Ao10 y408.length co10) ∧ w'.cell? ⟨gb411, 2, none⟩ = some (u412002) ∧ w'.cell? ⟨gb413, 0, none⟩ = some (.int .i64 ((rd_T48 l0_2 x15_1).f0)) ∧ w'.cell? ⟨gb413, 1, none⟩ = some (.slice A412_1 ((rd_T48 l0_2 x15_1).f1).length c412_1) ∧ w'.cell? ⟨gb413, 2, none⟩ = some (.slice A412_2 ((rd_T48 l0_2 x15_1).f2).length c412_2)) (ds := [7]) #[false, false, false, false, false, false, false, false] (by kernel_rfl) rfl rfl ⟨(blk_cell BK411.out 0).trans rfl, (blk_cell BK411.out 1).trans rfl, (blk_cell BK411.out 2).trans rfl, (blk_cell BK413.out 0).trans rfl, (blk_cell BK413.out 1).trans rfl, (blk_cell BK413.out 2).trans rfl⟩ (fun hHeld => ?_); refine with_tabW federated_copied.tab5 federated_copied.bits5 (fun HT_ HW_ => ?_)
        generalize w26.drew = w27 at HO_412001 HO_412002 BK407 BK411 BK413 HB hHeld ⊢; refine pure_ (i := 0) (N := some 19) (v := ?_) (a' := ?_) #[true, false, false, false, false, false, false, false] rfl rfl (any_of HT_.out (by kernel_rfl)) (fun _ _ _ h => h) (Or.inl ⟨by rfl, ?_⟩) ?_ ?_; rotate_left
        ·
         intro w'; go_simp
         with_reducible rfl
        rotate_left
        ·
         simp only [Act.put, List.setIfInBounds_toArray, List.set_cons_zero, List.set_cons_succ, i64_w, i32_w]; rfl
        refine take_ (i := 1) (N := some 20) (v := ?_) (a' := ?_) #[true, true, false, false, false, false, false, false] rfl rfl (take_ofW HT_.out HW_.out (by kernel_rfl)) (fun _ _ _ h => h) (Or.inl ⟨by rfl, ?_⟩) hHeld ?_ ?_; rotate_left
        ·
         rintro w' ⟨s0, s1, s2, s3, s4, s5⟩; go_simp
         with_reducible rfl
        rotate_left
        ·
         simp only [Act.put, List.setIfInBounds_toArray, List.set_cons_zero, List.set_cons_succ, i64_w, i32_w]; rfl
        refine take_ (i := 2) (N := some 21) (v := ?_) (a' := ?_) #[true, true, true, false, false, false, false, false] rfl rfl (take_ofW HT_.out HW_.out (by kernel_rfl)) (fun _ _ _ h => h) (Or.inl ⟨by rfl, ?_⟩) hHeld ?_ ?_; rotate_left
        ·
         rintro w' ⟨s0, s1, s2, s3, s4, s5⟩; go_simp
         with_reducible rfl
        rotate_left
        ·
         simp only [Act.put, List.setIfInBounds_toArray, List.set_cons_zero, List.set_cons_succ, i64_w, i32_w]; rfl
        refine one_ (i := 3) (N := some 22) #[true, true, true, true, false, false, false, false] rfl rfl (one_of HT_.out (by kernel_rfl)) (by decide) (fun K hK => ?_); refine goes_ Try.func64 (by kernel_rfl) rfl #[.agg #[.int .i64 ((rd_T48 l0_2 x15_1).f0), .slice A412_1 ((rd_T48 l0_2 x15_1).f1).length c412_1, .slice A412_2 ((rd_T48 l0_2 x15_1).f2).length c412_2]] (by rfl) rfl rfl (by (try simp only [List.map_toArray, List.map_cons, List.map_nil]); first | done | rfl | (simp only [List.length_drop, List.length_take]; rfl)) ?_
        with_reducible refine (ih k1 (by have := HK1.out; omega) ((rd_T48 l0_2 x15_1).f0) _ _ ((rd_T48 l0_2 x15_1).f1) _ _ ((rd_T48 l0_2 x15_1).f2) t414 t415 t418 _ ?side1 ?side2 ?side3 ?side4 A20.out).mono ?_
        (case side1 => exact (Kd.C_below HR412_1.out HB.out))
        (case side2 => exact HC412_1.out)
        (case side3 => exact (Kd.C_below HR412_2.out HB.out))
        (case side4 => exact HC412_2.out)
        rintro e w28 ⟨v416, v419, rfl, ho0, ho1, hb⟩; refine ⟨_, rfl, ?_⟩; have HO417 := Aside0.mk (Kd.R_lower (Kd.R_new' ho0 (Kd.R_lt HO_412001.out)) (below_size HB.out)); have HO420 := Aside0.mk (Kd.R_lower (Kd.R_newB (Kd.R_newB (Kd.R_newB (Kd.R_new' (Kd.R_new' ho1 (Kd.R_lt HO_412001.out)) (Kd.R_lt HO_412002.out)) BK407.out) BK411.out) BK413.out) (below_size HB.out)); replace HO_412001 := Aside0.mk (Kd.R_elder' HO_412001.out (Kd.R_base ho0) hb); replace HO_412002 := Aside0.mk (Kd.R_mono (Kd.R_told (Kd.R_told (Kd.R_old HO_412002.out hb) (Kd.R_base ho0)) (Kd.R_base ho1)) (fun _ h_ => h_.1)); replace BK407 := Aside0.mk (blk_below BK407.out hb); replace BK411 := Aside0.mk (blk_below BK411.out hb); replace BK413 := Aside0.mk (blk_below BK413.out hb); replace HB := Aside0.mk (below_step HB.out hb); (try clear hb); (try clear hb2); (try clear hk); (try clear hi); (try clear ho0); (try clear ho1); obtain ⟨Ao30, co30, eo30⟩ := Kd.R_slice HO417.out; (first | subst eo30 | (injection eo30 with f1_ f2_ f3_; have f4_ := f1_.symm; have f5_ := f3_.symm; clear f1_ f2_ f3_; subst f4_; subst f5_)); obtain ⟨Ao31, co31, eo31⟩ := Kd.R_slice HO420.out; (first | subst eo31 | (injection eo31 with f1_ f2_ f3_; have f4_ := f1_.symm; have f5_ := f3_.symm; clear f1_ f2_ f3_; subst f4_; subst f5_)); refine hK.out _ _ ⟨(blk_cell BK411.out 0).trans rfl, (blk_cell BK411.out 1).trans rfl, (blk_cell BK411.out 2).trans rfl, (blk_cell BK413.out 0).trans rfl, (blk_cell BK413.out 1).trans rfl, (blk_cell BK413.out 2).trans rfl⟩ (fun hHeld => ?_)
        clear hK K; refine norm_ (a' := ?_) ?_ ?_; rotate_left
        ·
         show Act.put _ (some 22) _ = _
         simp only [Act.put, List.setIfInBounds_toArray, List.set_cons_zero, List.set_cons_succ, i64_w, i32_w]; rfl
        refine one_ (i := 4) (N := some 23) #[true, true, true, true, true, false, false, false] rfl rfl (one_of HT_.out (by kernel_rfl)) (by decide) (fun K hK => ?_); refine value_ (w1 := ?_) (v := ?_) (by rfl) rfl ?_ ?_; rotate_left 2
        ·
         go_simp
         constructor
         ·
          rfl
         ·
          rfl
        refine hK.out _ _ ⟨(blk_cell (blk_alloc BK411.out _) 0).trans rfl, (blk_cell (blk_alloc BK411.out _) 1).trans rfl, (blk_cell (blk_alloc BK411.out _) 2).trans rfl, (blk_cell (blk_alloc BK413.out _) 0).trans rfl, (blk_cell (blk_alloc BK413.out _) 1).trans rfl, (blk_cell (blk_alloc BK413.out _) 2).trans rfl⟩ (fun hHeld => ?_); clear hK K; refine norm_ (a' := ?_) ?_ ?_; rotate_left
        ·
         show Act.put _ (some 23) _ = _
         simp only [Act.put, List.setIfInBounds_toArray, List.set_cons_zero, List.set_cons_succ, i64_w, i32_w]; rfl
        refine one_ (i := 5) (N := some 24) #[true, true, true, true, true, true, false, false] rfl rfl (one_of HT_.out (by kernel_rfl)) (by decide) (fun K hK => ?_); refine Kd.R_append_step k48 (w0 := w) w.heap.size (by rfl) (.tmp 20) (.tmp 23) 46 48 (.agg #[(.int .i64 0), (.slice none 0 0), (.slice none 0 0)]) 56 rfl Try.underlying46 info48 rfl (by decide) (by omega) u412002 x412002_1 (⟨t414, t415, t418⟩ : S48) [.int .i64 t414, .slice Ao30 t415.length co30, .slice Ao31 t418.length co31] (fun k_ => some k_ ≠ (.slice Ao10 y408.length co10 : Value).ownBlock ∧ k_ ≠ gb407 ∧ k_ ≠ gb411 ∧ k_ ≠ gb413) (fun k_ => ((fun k_ => some k_ ≠ (.slice Ao10 y408.length co10 : Value).ownBlock ∧ k_ ≠ gb407 ∧ k_ ≠ gb411 ∧ k_ ≠ gb413)) k_ ∧ some k_ ≠ (u412002 : Value).ownBlock) rfl rfl ?aP (fun _ hk => hk) ?aF ?aO ?aB ?aS ?aL ?_
        (case aP => exact k48_mkM _ _ _ (⟨t414, t415, t418⟩ : S48) (Kd.R_mono (Kd.R_types (Kd.R_types (Kd.R_types (Kd.R_apart' (HO417.out) (Kd.R_typed HO_412002.out) (by decide)) BK407.out (by decide)) BK411.out (by decide)) BK413.out (by decide)) (fun k_ hk => ⟨⟨hk.1.1.1.1.2, ⟨hk.1.1.2, ⟨hk.1.2, hk.2⟩⟩⟩, hk.1.1.1.2⟩)) (Kd.R_mono (HO420.out) (fun k_ hk => ⟨⟨hk.1.1.1.1.2, ⟨hk.1.1.2, ⟨hk.1.2, hk.2⟩⟩⟩, hk.1.1.1.2⟩)))
        (case aB => exact HB.out)
        (case aF => exact (fun k_ hk => ⟨Kd.fresh' (Kd.R_lt HO_412001.out) k_ hk, Kd.freshB BK407.out k_ hk, Kd.freshB BK411.out k_ hk, Kd.freshB BK413.out k_ hk⟩))
        (case aO => exact (by exact Kd.R_mono HO_412002.out (fun _ hk => ⟨hk.1.1.1, ⟨hk.1.1.2.1, ⟨hk.1.1.2.2.1, hk.1.1.2.2.2⟩⟩⟩)))
        (case aS => exact (below_size HB.out))
        (case aL => have := LMc21.out; omega)
        intro v422 w29 ho hb hg hat; rw [← Ny421.out] at ho; replace HO_412001 := Aside0.mk (Kd.R_over' HO_412001.out (Kd.R_typed HO_412002.out) (by decide) hg); replace BK407 := Aside0.mk (blk_grown BK407.out hg (Kd.R_away HO_412002.out (fun _ hk => hk.1.1.2.1))); replace BK411 := Aside0.mk (blk_grown BK411.out hg (Kd.R_away HO_412002.out (fun _ hk => hk.1.1.2.2.1))); replace BK413 := Aside0.mk (blk_grown BK413.out hg (Kd.R_away HO_412002.out (fun _ hk => hk.1.1.2.2.2))); replace HB := Aside0.mk (hb); have HO423 := Aside0.mk (ho); clear HO_412002 HO417 HO420; clear ho hb hg hat; obtain ⟨Ao32, co32, eo32⟩ := Kd.R_slice HO423.out; (first | subst eo32 | (injection eo32 with f1_ f2_ f3_; have f4_ := f1_.symm; have f5_ := f3_.symm; clear f1_ f2_ f3_; subst f4_; subst f5_)); refine hK.out _ _ ⟨(blk_cell BK411.out 0).trans rfl, (blk_cell BK411.out 1).trans rfl, (blk_cell BK411.out 2).trans rfl, (blk_cell BK413.out 0).trans rfl, (blk_cell BK413.out 1).trans rfl, (blk_cell BK413.out 2).trans rfl⟩ (fun hHeld => ?_); clear hK K; refine norm_ (a' := ?_) ?_ ?_; rotate_left
        ·
         show Act.put _ (some 24) _ = _
         simp only [Act.put, List.setIfInBounds_toArray, List.set_cons_zero, List.set_cons_succ, i64_w, i32_w]; rfl
        refine pure_ (i := 6) (N := some 25) (v := ?_) (a' := ?_) #[true, true, true, true, true, true, true, false] rfl rfl (any_of HT_.out (by kernel_rfl)) (fun _ _ _ h => h) (Or.inl ⟨by rfl, ?_⟩) ?_ ?_; rotate_left
        ·
         intro w'; go_simp
         with_reducible rfl
        rotate_left
        ·
         simp only [Act.put, List.setIfInBounds_toArray, List.set_cons_zero, List.set_cons_succ, i64_w, i32_w]; rfl
        refine last_ (i := 7) (N := none) #[true, true, true, true, true, true, true, true] rfl rfl (one_of HT_.out (by kernel_rfl)) (by decide) (fun K hK => ?_); have hs33 : w29.cell? ⟨gb411, 2, none⟩ = some (u412002) := (blk_cell BK411.out 2).trans rfl; have hfs33 := blk_frozen BK411.out 2; have hns33_0 := NB407_411.out; have hns33_2 := NB413_411.out; have hms33_0 := NB411_407.out; have hms33_2 := NB411_413.out; refine skip_ (w1 := ?_) (by rfl) rfl ?_ ?_; rotate_left
        ·
         go_simp; rfl
        refine hK.out _ _ ?_; clear hK K; refine done_ (done_of HT_.out (by kernel_rfl)) ?_
        try go_wp2
        go_roundg k1
        case measure => have := HK1.out; omega
        case rel => exact ⟨(wrap64 (x15_1 + 1)), (y421), (.slice Ao32 y421.length co32), (by first | rfl | (simp; done) | (simp [*]; done) | (refine congrArg (Value.int .i64) ?_; unfold wrap64; omega)), H', ⟨by have := HK1.out; omega⟩, ⟨by (with_reducible repeat (first | apply Kd.R_alloc | apply Kd.R_drewN | apply Kd.R_drew)); exact Kd.R_mono (Kd.R_far (p := ⟨gb411, 2, none⟩) (Kd.R_types HO_412001.out BK411.out (by decide)) (fun _ hk => hk.2) (.slice Ao32 y421.length co32)) (fun _ hk => trivial)⟩, ⟨by (with_reducible repeat (first | apply Kd.R_alloc | apply Kd.R_drewN | apply Kd.R_drew)); exact Kd.R_mono (Kd.R_far (p := ⟨gb411, 2, none⟩) (Kd.R_mono HO423.out (fun k_ hk => (⟨hk, hk.2.2.1⟩ : _ ∧ k_ ≠ gb411))) (fun _ hk => hk.2) (.slice Ao32 y421.length co32)) (fun _ hk => ⟨hk.1.1, ⟨hk.1.2.1, hk.1.2.2.1⟩⟩)⟩, ⟨by (with_reducible repeat (first | refine blk_drewN ?_ _ | refine blk_drew ?_ | refine blk_alloc ?_ _)); refine blk_far ?_ NB407_411.out _; (with_reducible repeat (first | refine blk_drewN ?_ _ | refine blk_drew ?_ | refine blk_alloc ?_ _)); exact BK407.out⟩, ⟨by (with_reducible repeat (first | refine blk_drewN ?_ _ | refine blk_drew ?_ | refine blk_alloc ?_ _)); refine blk_put (cs := #[.int .i64 a0_0, .slice Ao10 y408.length co10, u412002]) ?_ 2 _ rfl; (with_reducible repeat (first | refine blk_drewN ?_ _ | refine blk_drew ?_ | refine blk_alloc ?_ _)); exact BK411.out⟩, ⟨by repeat (first | (with_reducible first | exact HB.out | apply below_alloc | apply pw_below_drewN | apply below_drew1 | refine below_set ?_ GE407.out | refine below_set ?_ GE411.out | refine below_set ?_ GE413.out) | exact HB.out)⟩⟩
       ·
        rw [if_neg c21] at H; exact absurd H (by simp)
      ·
       rw [if_neg c19] at H; exact absurd H (by simp)
     ·
      rw [if_neg c18] at H; exact absurd H (by simp)
    ·
     rw [if_neg c17] at H; have c17b0 : decide (x15_1 < (l0_2.length : Int)) = false := decide_eq_false c17; clear c17; simp only [Option.some.injEq, Prod.mk.injEq] at H; obtain ⟨rfl, rfl, rfl⟩ := H; have hnb34 := NB411_407.out; have hnc34 := NB407_411.out; obtain ⟨hcz35_0, hcz35_1, hcz35_2, hfz35_0, hfz35_1, hfz35_2⟩ := blkC3 BK411.out; obtain ⟨hcz36_0, hcz36_1, hcz36_2, hfz36_0, hfz36_1, hfz36_2⟩ := blkC3 BK407.out; obtain ⟨Ao37, co37, eo37⟩ := Kd.R_slice HO_412002.out; subst eo37
     go_wp2
     refine bodyPost_ret (results_cell_row rfl _ _ gb407 48 #[.int .i64 a0_0, .slice Ao10 y408.length co10, .slice Ao37 x412002_1.length co37] (0, 0) _ rfl (by (with_reducible repeat (first | refine blk_drewN ?_ _ | refine blk_drew ?_ | refine blk_alloc ?_ _)); refine blk_put (cs := #[.int .i64 a0_0, .slice Ao10 y408.length co10, .slice none 0 0]) ?_ 2 _ rfl; (with_reducible repeat (first | refine blk_drewN ?_ _ | refine blk_drew ?_ | refine blk_alloc ?_ _)); refine blk_put (cs := #[.int .i64 a0_0, .slice none 0 0, .slice none 0 0]) ?_ 1 _ rfl; (with_reducible repeat (first | refine blk_drewN ?_ _ | refine blk_drew ?_ | refine blk_alloc ?_ _)); refine blk_put (cs := #[.int .i64 0, .slice none 0 0, .slice none 0 0]) ?_ 0 _ rfl; (with_reducible repeat (first | refine blk_drewN ?_ _ | refine blk_drew ?_ | refine blk_alloc ?_ _)); exact BK407.out) Try.underlying48 rfl (by kernel_rfl)) rfl ?_
     exact ⟨_, _, by first | rfl | (simp [errW_none, errW_some] <;> rfl) | (simp [*, errW_none, errW_some] <;> rfl), by (with_reducible repeat (first | apply Kd.R_alloc | apply Kd.R_drewN | apply Kd.R_drew)); exact Kd.R_mono (Kd.R_far (p := ⟨gb407, 2, none⟩) (Kd.R_far (p := ⟨gb407, 1, none⟩) (Kd.R_far (p := ⟨gb407, 0, none⟩) (Kd.R_types HO_412001.out BK407.out (by decide)) (fun _ hk => hk.2) (.int .i64 a0_0)) (fun _ hk => hk.2) (.slice Ao10 y408.length co10)) (fun _ hk => hk.2) (.slice Ao37 x412002_1.length co37)) (fun _ hk => trivial), by (with_reducible repeat (first | apply Kd.R_alloc | apply Kd.R_drewN | apply Kd.R_drew)); exact Kd.R_mono (Kd.R_far (p := ⟨gb407, 2, none⟩) (Kd.R_far (p := ⟨gb407, 1, none⟩) (Kd.R_far (p := ⟨gb407, 0, none⟩) (Kd.R_mono HO_412002.out (fun k_ hk => (⟨hk, hk.2.1⟩ : _ ∧ k_ ≠ gb407))) (fun _ hk => hk.2) (.int .i64 a0_0)) (fun _ hk => hk.2) (.slice Ao10 y408.length co10)) (fun _ hk => hk.2) (.slice Ao37 x412002_1.length co37)) (fun _ hk => hk.1.1), by repeat (first | (with_reducible first | exact HB.out | apply below_alloc | apply pw_below_drewN | apply below_drew1 | refine below_set ?_ GE407.out | refine below_set ?_ GE411.out) | exact HB.out)⟩
 ·
  rw [if_neg c2] at H; exact absurd H (by simp)
end Go.Proofs.Ytmeamdklonmahaa.QFederatedView
