/- Lean functions that answer as the Go functions do which the law reaches, and proofs that the Go code comes to exactly these answers. Conditions: those that each theorem names. -/
import Derived.Test.YtmeamdklonmahaaQFederatedSafex0
import Derived.Test.YtmeamdklonmahaaQFederatedSafex1
import Derived.Test.YtmeamdklonmahaaQFederatedSafex7
namespace Go.Proofs.Ytmeamdklonmahaa.QFederatedSafe
open Go.RowKit Go.Proofs.YtmeamdklonmahaaW.PrintWords Go.Proofs.YtmeamdklonmahaaW.PrintLast Go.Proofs.YtmeamdklonmahaaW.PrintMore
attribute [local go_sem] max2_int min2_int max_two min_two max_three min_three max_four min_four   -- for this text's walks alone
set_option linter.unusedVariables false
set_option linter.unusedSimpArgs false

/-! ### trustquorummake_Set: function 14 -/
def trustquorummake_Set.l0 : Nat → Int → Int → Int → List Int → Int → List (S54) → Option (Int × Int)
  | 0, _, _, _, _, _, _ => none
  | k + 1, x5, x6, x7, x1000, x1001, x372000 => if x7 > 0 then ((trustquorummake_Tape_N.f x1000 x1001 x5).bind fun bt377 => (if 0 ≤ bt377.1 then (trustquorummake_Set.l0 k x5 (Go.bits .or .i64 x6 (shl .i64 1 bt377.1)) (wrap64 (x7 - 1)) x1000 bt377.2 x372000) else (none))) else (if 0 ≤ x5 then ((trustquorumref06_Declared.f k x372000).bind fun t379 => ((trustquorummake_Tape_N.f x1000 x1001 2).bind fun bt380 => (some (Go.bits .or .i64 x6 (wrap64 ((Go.bits .andNot .i64 (wrap64 ((shl .i64 1 x5) - 1)) t379) * bt380.1)), bt380.2)))) else (none))
def trustquorummake_Set.f (k : Nat) (s0_0 : List Int) (s0_1 : Int) (l1_0 : List (S54)) : Option (Int × Int) := (trustquorummake_Tape_Pick.f s0_0 s0_1 (([0, 1, 1, 2, 3] : List Int))).bind fun bt375 => (trustquorummake_Set.l0 k (l1_0.length : Int) 0 bt375.1 s0_0 bt375.2 l1_0)
def trustquorummake_Set.T7 : Bool × List (List Nat × List Nat) := (true, [([], []), ([], []), ([1], [1]), ([2], [2]), ([], []), ([4], [4]), ([3, 5], [3, 5]), ([], []), ([7, 5], [7]), ([6, 8], [6, 8]), ([0, 9], [0, 9]), ([10, 8, 0, 1, 2, 3, 4, 5, 6, 7, 8, 9, 10], [10])])
def trustquorummake_Set.B7 : List Nat := [0, 0, 2, 6, 0, 16, 62, 0, 176, 510, 1023, 2047]
theorem trustquorummake_Set.tab7 : rtab .any (opsOf Try.f14 7) = trustquorummake_Set.T7 := by kernel_rfl
theorem trustquorummake_Set.bits7 : waitsOk trustquorummake_Set.T7.2 trustquorummake_Set.B7 = true := by kernel_rfl
set_option maxHeartbeats 8000000 in
set_option maxRecDepth 100000 in
theorem trustquorummake_Set.calls (k : Nat) (g : Nat) (s0_0 : List Int) (s0_1 : Int) (A1_0 : Option Addr) (c1_0 : Nat) (l1_0 : List (S54)) (r1 : Int) (r2 : Int) (w0 w : World) (hI : IsS78 w0 w g s0_0 s0_1) (hB : Below w0.heap.size w0 w) (hr1_0 : ∀ W_, KeepBut w W_ g none → Kd.C k54 W_ A1_0 l1_0.length l1_0) (hc1_0 : l1_0.length ≤ c1_0) (h : trustquorummake_Set.f k s0_0 s0_1 l1_0 = some (r1, r2)) :
    Calls Try.prog 14 #[.pointer (some ⟨g, 0, none⟩), .agg #[.slice A1_0 l1_0.length c1_0]] w fun e w' => e = .returned (.int .i64 r1) ∧ IsS78 w0 w' g s0_0 r2 ∧ Below w0.heap.size w0 w' ∧ KeepBut w w' g none := by
 have hu27 := Try.underlying27; have HR1_0 := am hr1_0; have HC1_0 := am hc1_0; clear hr1_0 hc1_0; have HI0 := am hI; have HK := am (KeepBut.refl w g none); have HL := am hB.size; clear hI; have HW0 := am hB.size; have HB := am hB; clear hB; have H : ((trustquorummake_Tape_Pick.f s0_0 s0_1 (([0, 1, 1, 2, 3] : List Int))).bind fun bt375 => (trustquorummake_Set.l0 k (l1_0.length : Int) 0 bt375.1 s0_0 bt375.2 l1_0)) = some (r1, r2) := h; clear h; obtain ⟨y372, hy372⟩ : ∃ y_ : List Int, y_ = (([0, 1, 1, 2, 3] : List Int)) := ⟨_, rfl⟩; replace H : ((trustquorummake_Tape_Pick.f s0_0 s0_1 y372).bind fun bt375 => (trustquorummake_Set.l0 k (l1_0.length : Int) 0 bt375.1 s0_0 bt375.2 l1_0)) = some (r1, r2) := by first | (rw [hy372]; with_reducible exact H) | (have H2_ := (Option.bind_some _ _).symm.trans H; rw [hy372]; with_reducible exact H2_) | (have H2_ := (Option.bind_some _ _).symm.trans H; with_reducible exact H2_) | with_reducible exact H | (rw [hy372]; exact H) | exact H
 have Ny372 := am hy372; clear hy372; replace H := Option.bind_eq_some_iff.mp H; obtain ⟨⟨t375, t376⟩, A30, H⟩ := H; replace H : (trustquorummake_Set.l0 k (l1_0.length : Int) 0 t375 s0_0 t376 l1_0) = some (r1, r2) := H; have A3 := am A30; clear A30; have H' := am H; clear H
 go_enter Try.func14, Try.ntmps14
 go_wp2_with (first | ((with_reducible refine gate_dst (N := 3) rfl ?_); refine box_event ?hg (N := 3) ?hd (cs := #[.slice A1_0 l1_0.length c1_0]) (t := 27) ?hr ?_; (case hd => rfl); (case hg => rfl); (case hr => first | (go_simp; done) | (go_simp; rfl)); intro gb371 hg w4 hbox hb; replace HB := bs HB hb; have BK371 := am (hbox); have GW371 := am ((by rw [hg]; exact (keep_size (w := w) (g := g) (row := none) HK.out) : w.heap.size ≤ gb371)); have GE371 := am ((Nat.le_trans HW0.out (by rw [hg]; exact (keep_size (w := w) (g := g) (row := none) HK.out) : w.heap.size ≤ gb371) : w0.heap.size ≤ gb371)); replace HK := am (KeepBut.trans HK.out (KeepBut.of_below hb g none) (.inl rfl)); have NB0_371 := am ((by rw [hg]; exact Nat.ne_of_lt (IsS78.lt (show IsS78 w0 _ g s0_0 s0_1 from by exact HI0.out)) : g ≠ gb371)); have NB371_0 := am ((by rw [hg]; exact Nat.ne_of_gt (IsS78.lt (show IsS78 w0 _ g s0_0 s0_1 from by exact HI0.out)) : gb371 ≠ g)); replace HI0 := am (IsS78.below HI0.out hb); clear hb hg; have hnb5 := NB371_0.out; have hnc5 := NB0_371.out; obtain ⟨hcz6_0, hfz6_0⟩ := blkC1 BK371.out) | ((with_reducible refine gate_dst (N := 12) rfl ?_); refine Kd.R_lit (Kd.int .i64) _ 3 ?hg (N := 12) ?hd (xs := ([0, 1, 1, 2, 3] : List Int)) (inner := [.int .i64 0, .int .i64 1, .int .i64 1, .int .i64 2, .int .i64 3]) (ok := fun _ => True) (okp := fun _ => True) ?hr ?hp (fun _ hk => hk) trivial (Below.refl _ _) (Nat.le_refl _) (by simp) ?_; (case hd => rfl); (case hg => rfl); (case hr => first | (go_simp; done) | (go_simp; rfl)); (case hp => exact (Reps.one (show Kd.M (Kd.int .i64) _ _ _ 0 [.int .i64 0] from rfl) (Reps.one (show Kd.M (Kd.int .i64) _ _ _ 1 [.int .i64 1] from rfl) (Reps.one (show Kd.M (Kd.int .i64) _ _ _ 1 [.int .i64 1] from rfl) (Reps.one (show Kd.M (Kd.int .i64) _ _ _ 2 [.int .i64 2] from rfl) (Reps.one (show Kd.M (Kd.int .i64) _ _ _ 3 [.int .i64 3] from rfl) (Reps.none _ _))))))); intro v373 w7 ho8 hb hg_ hnew_; clear hg_ hnew_; (first | rw [← Ny372.out] at ho8 | (simp only [Int.reduceToNat] at ho8; rw [← Ny372.out] at ho8)); have HO374 := am (Kd.R_lower ho8 (keep_size (w := w) (g := g) (row := none) HK.out)); replace HI0 := am (IsS78.below HI0.out hb); replace BK371 := bb BK371 hb; replace HK := am (KeepBut.trans HK.out (KeepBut.of_below hb g none) (.inl rfl)); replace HB := bs HB hb; clear hb ho8; obtain ⟨Ao9, co9, eo9⟩ := Kd.R_slice HO374.out; subst eo9) | (refine gA (some 13) Try.func51 #[.pointer (some ⟨g, 0, none⟩), .slice Ao9 y372.length co9] ?_; (with_reducible refine (trustquorummake_Tape_Pick.calls g s0_0 s0_1 _ _ y372 t375 t376 w0 _ HI0.out HB.out ((Kd.R_reads' HO374.out).2.2) ((Kd.R_reads' HO374.out).2.1) (far_slice (IsS78.own_ne HI0.out HO374.out (by decide))) A3.out).mono ?_); rintro e w10 ⟨rfl, hi, hb, hk⟩; refine ⟨_, rfl, ?_⟩; replace BK371 := kb BK371 hk NB371_0; replace HO374 := am (Kd.R_mono (Kd.R_keep (IsS78.apart (show IsS78 w0 _ g s0_0 s0_1 from by exact HI0.out) HO374.out (by decide)) hk (fun _ h => h.2)) (fun _ h => h.1)); replace HK := am (KeepBut.trans HK.out hk (.inl rfl)); replace HB := am (hb); replace HI0 := am (hi); (try clear hb); (try clear hk); (try clear hi)))
 go_loopg [6, 7] k (fun kq v6 v7 w' => ∃ (x6_1 : Int) (x7_1 : Int) (x1001_1 : Int), v6 = .int .i64 x6_1 ∧ v7 = .int .i64 x7_1 ∧ Aside0 (trustquorummake_Set.l0 kq (l1_0.length : Int) x6_1 x7_1 s0_0 x1001_1 l1_0 = some (r1, r2)) ∧ Aside0 (kq ≤ k) ∧ Aside0 (w'.heap[gb371]? = some (.cells #[(.slice A1_0 l1_0.length c1_0)] 27 (0, 0))) ∧ Aside0 (IsS78 w0 w' g s0_0 x1001_1) ∧ Aside0 (KeepBut w w' g none) ∧ Aside0 (Below w0.heap.size w0 w'))
 case atStart => exact ⟨(0), (t375), (t376), ar, ar, H', ⟨Nat.le_refl _⟩, ⟨by exact BK371.out⟩, ⟨by exact HI0.out⟩, ⟨by exact HK.out⟩, ⟨by exact HB.out⟩⟩
 case round =>
  clear H'; (try clear c1); (try clear p2); (try clear c5); (try clear p6); (try clear hcz6_0 hfz6_0); obtain ⟨x6_1, x7_1, x1001_1, rfl, rfl, HA, HK1, BK371, HI0, HK, HB⟩ := hrel
  cases gk with
  | zero => exact absurd HA.out (by simp [trustquorummake_Set.l0])
  | succ k1 =>
   have H := HA.out; clear HA; simp only [trustquorummake_Set.l0] at H
   by_cases c11 : x7_1 > 0
   ·
    rw [if_pos c11] at H; have c11b0 : decide (0 < x7_1) = true := decide_eq_true c11; clear c11; replace H := Option.bind_eq_some_iff.mp H; obtain ⟨⟨t377, t378⟩, A120, H⟩ := H; replace H : (if 0 ≤ t377 then (trustquorummake_Set.l0 k1 (l1_0.length : Int) (Go.bits .or .i64 x6_1 (shl .i64 1 t377)) (wrap64 (x7_1 - 1)) s0_0 t378 l1_0) else (none)) = some (r1, r2) := H; have A12 := am A120; clear A120
    by_cases c13 : 0 ≤ t377
    ·
     rw [if_pos c13] at H; have c13b0 := eq_true c13; have c13b1 : decide (0 ≤ t377) = true := decide_eq_true c13; clear c13; obtain ⟨ji14, hji14⟩ : ∃ j_ : Int, (shl .i64 1 t377) = j_ := ⟨_, rfl⟩; replace H : (trustquorummake_Set.l0 k1 (l1_0.length : Int) (Go.bits .or .i64 x6_1 (ji14)) (wrap64 (x7_1 - 1)) s0_0 t378 l1_0) = some (r1, r2) := by first | (rw [hji14] at H; exact H) | (simp only [hji14] at H ⊢; exact H)
     (try rw [hji14] at A12); have hji14_ : (IntKind.i64.wrap (1 * 2 ^ min t377.toNat 64)) = ji14 := hji14; have hji14z : t377 ≤ 64 → (IntKind.i64.wrap (1 * 2 ^ t377.toNat)) = ji14 := shl_small hji14; have hji14u : (IntKind.i64.wrap (2 ^ min t377.toNat 64)) = ji14 := by have h_ := hji14_; rw [Int.one_mul] at h_; exact h_
     have hji14v : t377 ≤ 64 → (IntKind.i64.wrap (2 ^ t377.toNat)) = ji14 := fun hle_ => by have h_ := hji14z hle_; rw [Int.one_mul] at h_; exact h_
     have hji14y : (wrap64 (1 * 2 ^ min t377.toNat 64)) = ji14 := (i64_w _).symm.trans hji14_; have hji14x : t377 ≤ 64 → (wrap64 (1 * 2 ^ t377.toNat)) = ji14 := fun h_ => (i64_w _).symm.trans (hji14z h_); have H' := am H; clear H
     go_wp2_with (first | (refine gA (some 21) Try.func10 #[.pointer (some ⟨g, 0, none⟩), .int .i64 (l1_0.length : Int)] ?_; (with_reducible refine (trustquorummake_Tape_N.calls g s0_0 x1001_1 (l1_0.length : Int) t377 t378 w0 _ HI0.out HB.out A12.out).mono ?_); rintro e w15 ⟨rfl, hi, hb, hk⟩; refine ⟨_, rfl, ?_⟩; replace BK371 := kb BK371 hk NB371_0; replace HK := am (KeepBut.trans HK.out hk (.inl rfl)); replace HB := am (hb); replace HI0 := am (hi); (try clear hb); (try clear hk); (try clear hi)))
     go_roundg k1
     case measure => have := HK1.out; omega
     case rel => exact ⟨(Go.bits .or .i64 x6_1 (ji14)), (wrap64 (x7_1 - 1)), (t378), (by first | rfl | (simp; done) | (simp only [← hji14] <;> (first | rfl | simp)) | (simp [*]; done)), ar, H', ⟨by have := HK1.out; omega⟩, ⟨by exact BK371.out⟩, ⟨by exact HI0.out⟩, ⟨by exact HK.out⟩, ⟨by exact HB.out⟩⟩
    ·
     rw [if_neg c13] at H; exact absurd H (by simp)
   ·
    rw [if_neg c11] at H; have c11b0 : decide (0 < x7_1) = false := decide_eq_false c11; clear c11
    by_cases c16 : 0 ≤ (l1_0.length : Int)
    ·
     rw [if_pos c16] at H; have c16b0 := eq_true c16; have c16b1 : decide (0 ≤ (l1_0.length : Int)) = true := decide_eq_true c16; clear c16; obtain ⟨ji17, hji17⟩ : ∃ j_ : Int, (shl .i64 1 (l1_0.length : Int)) = j_ := ⟨_, rfl⟩; replace H : ((trustquorumref06_Declared.f k1 l1_0).bind fun t379 => ((trustquorummake_Tape_N.f s0_0 x1001_1 2).bind fun bt380 => (some (Go.bits .or .i64 x6_1 (wrap64 ((Go.bits .andNot .i64 (wrap64 ((ji17) - 1)) t379) * bt380.1)), bt380.2)))) = some (r1, r2) := by first | (rw [hji17] at H; exact H) | (simp only [hji17] at H ⊢; exact H)
     have hji17_ : (IntKind.i64.wrap (1 * 2 ^ min (l1_0.length : Int).toNat 64)) = ji17 := hji17; have hji17z : (l1_0.length : Int) ≤ 64 → (IntKind.i64.wrap (1 * 2 ^ (l1_0.length : Int).toNat)) = ji17 := shl_small hji17; have hji17p : (IntKind.i64.wrap (1 * 2 ^ min l1_0.length 64)) = ji17 := hji17_; have hji17q : (l1_0.length : Int) ≤ 64 → (IntKind.i64.wrap (1 * 2 ^ l1_0.length)) = ji17 := hji17z; have hji17r : (IntKind.i64.wrap (2 ^ min l1_0.length 64)) = ji17 := by have h_ := hji17p; rw [Int.one_mul] at h_; exact h_
     have hji17s : (l1_0.length : Int) ≤ 64 → (IntKind.i64.wrap (2 ^ l1_0.length)) = ji17 := fun hle_ => by have h_ := hji17q hle_; rw [Int.one_mul] at h_; exact h_
     have hji17u : (IntKind.i64.wrap (2 ^ min (l1_0.length : Int).toNat 64)) = ji17 := by have h_ := hji17_; rw [Int.one_mul] at h_; exact h_
     have hji17v : (l1_0.length : Int) ≤ 64 → (IntKind.i64.wrap (2 ^ (l1_0.length : Int).toNat)) = ji17 := fun hle_ => by have h_ := hji17z hle_; rw [Int.one_mul] at h_; exact h_
     have hji17y : (wrap64 (1 * 2 ^ min (l1_0.length : Int).toNat 64)) = ji17 := (i64_w _).symm.trans hji17_; have hji17x : (l1_0.length : Int) ≤ 64 → (wrap64 (1 * 2 ^ (l1_0.length : Int).toNat)) = ji17 := fun h_ => (i64_w _).symm.trans (hji17z h_); replace H := Option.bind_eq_some_iff.mp H; obtain ⟨t379, A180, H⟩ := H; replace H : ((trustquorummake_Tape_N.f s0_0 x1001_1 2).bind fun bt380 => (some (Go.bits .or .i64 x6_1 (wrap64 ((Go.bits .andNot .i64 (wrap64 ((ji17) - 1)) t379) * bt380.1)), bt380.2))) = some (r1, r2) := H; have A18 := am A180; clear A180; replace H := Option.bind_eq_some_iff.mp H; obtain ⟨⟨t380, t381⟩, A190, H⟩ := H; replace H : (some (Go.bits .or .i64 x6_1 (wrap64 ((Go.bits .andNot .i64 (wrap64 ((ji17) - 1)) t379) * t380)), t381)) = some (r1, r2) := H; have A19 := am A190; clear A190; simp only [Option.some.injEq, Prod.mk.injEq] at H; obtain ⟨rfl, rfl⟩ := H
     try go_wp2
     replace BK371 := am (blk_drew BK371.out); replace HI0 := am (IsS78.drew HI0.out); replace HK := am (keep_drew HK.out); replace HB := am (below_drew1 HB.out); refine start_ (n := 12) (S := fun w' => w'.cell? ⟨gb371, 0, none⟩ = some (.slice A1_0 l1_0.length c1_0)) (ds := []) #[false, false, false, false, false, false, false, false, false, false, false, false] (by kernel_rfl) rfl rfl ((blk_cell BK371.out 0).trans rfl) (fun hHeld => ?_); refine with_tabW trustquorummake_Set.tab7 trustquorummake_Set.bits7 (fun HT_ HW_ => ?_); generalize wr.drew = w20 at BK371 HI0 HK HB hHeld ⊢; refine pq (i := 0) (N := some 24) HT_ ?_
     refine pq (i := 1) (N := some 25) HT_ ?_
     refine pq (i := 2) (N := some 26) HT_ ?_
     refine pq (i := 3) (N := some 27) HT_ ?_
     refine pq (i := 7) (N := some 31) HT_ ?_
     refine take_ (i := 4) (N := some 28) (v := ?_) (a' := ?_) #[true, true, true, true, true, false, false, true, false, false, false, false] rfl rfl (take_ofW HT_.out HW_.out (by kernel_rfl)) (fun _ _ _ h => h) (Or.inl ⟨by rfl, ?_⟩) hHeld ?_ ?_; rotate_left
     ·
      intro w' s0; go_simp
      with_reducible rfl
     rotate_left
     ·
      exact pu
     refine one_ (i := 5) (N := some 29) #[true, true, true, true, true, true, false, true, false, false, false, false] rfl rfl (one_of HT_.out (by kernel_rfl)) (by decide) (fun K hK => ?_); refine goes_ Try.func52 (by kernel_rfl) rfl #[.agg #[.slice A1_0 l1_0.length c1_0]] (by rfl) rfl rfl ax ?_
     with_reducible refine (trustquorumref06_Declared.calls k1 _ _ l1_0 t379 _ ?side1 ?side2 A18.out).mono ?_
     (case side1 => exact Kd.C_foot_now HR1_0.out HK.out)
     (case side2 => exact HC1_0.out)
     rintro e w21 ⟨rfl, hb⟩; refine ⟨_, rfl, ?_⟩; replace BK371 := bb BK371 hb; replace HI0 := am (IsS78.below HI0.out hb); replace HK := am (KeepBut.trans HK.out (KeepBut.of_below hb g none) (.inl rfl)); replace HB := bs HB hb; (try clear hb); refine hK.out _ _ ((blk_cell BK371.out 0).trans rfl) (fun hHeld => ?_); clear hK K; refine norm_ (a' := ?_) ?_ ?_; rotate_left
     ·
      show Act.put _ (some 29) _ = _
      exact pu
     refine pq (i := 6) (N := some 30) HT_ ?_
     refine one_ (i := 8) (N := some 32) #[true, true, true, true, true, true, true, true, true, false, false, false] rfl rfl (one_of HT_.out (by kernel_rfl)) (by decide) (fun K hK => ?_); refine goes_ Try.func10 (by kernel_rfl) rfl #[.pointer (some ⟨g, 0, none⟩), .int .i64 2] (by rfl) rfl rfl ax ?_
     with_reducible refine (trustquorummake_Tape_N.calls g s0_0 x1001_1 2 t380 t381 w0 _ ?side1 ?side2 A19.out).mono ?_
     (case side1 => exact HI0.out)
     (case side2 => exact HB.out)
     rintro e w22 ⟨rfl, hi, hb, hk⟩; refine ⟨_, rfl, ?_⟩; replace BK371 := kb BK371 hk NB371_0; replace HK := am (KeepBut.trans HK.out hk (.inl rfl)); replace HB := am (hb); replace HI0 := am (hi); (try clear hb); (try clear hk); (try clear hi); refine hK.out _ _ ((blk_cell BK371.out 0).trans rfl) (fun hHeld => ?_); clear hK K; refine norm_ (a' := ?_) ?_ ?_; rotate_left
     ·
      show Act.put _ (some 32) _ = _
      exact pu
     refine pq (i := 9) (N := some 33) HT_ ?_
     refine pq (i := 10) (N := some 34) HT_ ?_
     refine pq (i := 11) (N := some 4) HT_ ?_
     refine done_ (done_of HT_.out (by kernel_rfl)) ?_
     try go_wp2
     go_ret
     exact ⟨by first | rfl | (simp [errW_none, errW_some] <;> rfl) | (simp only [← hji17]; first | rfl | (simp [errW_none, errW_some] <;> rfl)) | (simp [*, errW_none, errW_some] <;> rfl), by exact HI0.out, by exact HB.out, by exact HK.out⟩
    ·
     rw [if_neg c16] at H; exact absurd H (by simp)
/-! ### trustquorumref01_Same: function 67 -/
def trustquorumref01_Same.l0 : Nat → List Int → List Int → Int → Int → Option (Bool)
  | 0, _, _, _, _ => none
  | k + 1, x0, x1, x12, x13 => if x13 < x12 then (if 0 ≤ x13 then (if x13 < (x0.length : Int) then (if x13 < (x1.length : Int) then (if (rd x0 x13) = (rd x1 x13) then (trustquorumref01_Same.l0 k x0 x1 x12 (wrap64 (x13 + 1))) else (some false)) else (none)) else (none)) else (none)) else (some true)
def trustquorumref01_Same.f (k : Nat) (l0 : List Int) (l1 : List Int) : Option (Bool) := if (l0.length : Int) = (l1.length : Int) then (trustquorumref01_Same.l0 k l0 l1 (l0.length : Int) 0) else (some false)
set_option maxHeartbeats 8000000 in
set_option maxRecDepth 100000 in
theorem trustquorumref01_Same.calls (k : Nat) (A0 : Option Addr) (c0 : Nat) (l0 : List Int) (A1 : Option Addr) (c1 : Nat) (l1 : List Int) (r : Bool) (w : World) (hr0 : Kd.C (Kd.int .i64) w A0 l0.length l0) (hc0 : l0.length ≤ c0) (hr1 : Kd.C (Kd.int .i64) w A1 l1.length l1) (hc1 : l1.length ≤ c1) (h : trustquorumref01_Same.f k l0 l1 = some r) :
    Calls Try.prog 67 #[.slice A0 l0.length c0, .slice A1 l1.length c1] w fun e w' => e = .returned (.bool r) ∧ Drawn0 w w' := by
 have HR0 := am hr0; have HC0 := am hc0; clear hr0 hc0; have HR1 := am hr1; have HC1 := am hc1; clear hr1 hc1; have H : (if (l0.length : Int) = (l1.length : Int) then (trustquorumref01_Same.l0 k l0 l1 (l0.length : Int) 0) else (some false)) = some r := h; clear h
 by_cases c3 : (l0.length : Int) = (l1.length : Int)
 ·
  rw [if_pos c3] at H; have c3b0 : ((l0.length : Int) == (l1.length : Int)) = true := beq_iff_eq.mpr c3; have c3b1 : ((l0.length : Int) != (l1.length : Int)) = false := bne_eq_false_iff_eq.mpr c3; have c3b2 : (l0.length == l1.length) = true := by first | simpa using c3 | (simp at c3 ⊢; omega)
  clear c3; have H' := am H; clear H
  go_enter Try.func67, Try.ntmps67
  go_wp2
  repeat (go_quiet (fail); try go_wp2)
  go_loopg [13] k (fun kq v13 w' => ∃ (x13_1 : Int), v13 = .int .i64 x13_1 ∧ Aside0 (trustquorumref01_Same.l0 kq l0 l1 (l0.length : Int) x13_1 = some r) ∧ Aside0 (kq ≤ k) ∧ Drawn0 w w')
  case atStart => exact ⟨(0), ar, H', ⟨Nat.le_refl _⟩, by repeat (first | exact Drawn0.refl _ | apply Drawn0.step)⟩
  case round =>
   clear H'; (try clear c1); (try clear p2); (try clear c3); (try clear c3b0); (try clear c3b1); (try clear c3b2); obtain ⟨x13_1, rfl, HA, HK1, ⟨m1, rfl⟩⟩ := hrel
   cases gk with
   | zero => exact absurd HA.out (by simp [trustquorumref01_Same.l0])
   | succ k1 =>
    have H := HA.out; clear HA; simp only [trustquorumref01_Same.l0] at H
    by_cases c4 : x13_1 < (l0.length : Int)
    ·
     rw [if_pos c4] at H; have c4b0 : decide (x13_1 < (l0.length : Int)) = true := decide_eq_true c4; clear c4
     by_cases c5 : 0 ≤ x13_1
     ·
      rw [if_pos c5] at H; have c5b0 : decide (0 ≤ x13_1) = true := decide_eq_true c5; clear c5
      by_cases c6 : x13_1 < (l0.length : Int)
      ·
       rw [if_pos c6] at H; have c6b0 : decide (x13_1 < (l0.length : Int)) = true := decide_eq_true c6; clear c6
       by_cases c7 : x13_1 < (l1.length : Int)
       ·
        rw [if_pos c7] at H; have c7b0 : decide (x13_1 < (l1.length : Int)) = true := decide_eq_true c7; clear c7
        by_cases c8 : (rd l0 x13_1) = (rd l1 x13_1)
        ·
         rw [if_pos c8] at H; have c8b0 : ((rd l0 x13_1) == (rd l1 x13_1)) = true := beq_iff_eq.mpr c8; have c8b1 : ((rd l0 x13_1) != (rd l1 x13_1)) = false := bne_eq_false_iff_eq.mpr c8; clear c8; have H' := am H; clear H; have p382 : 0 ≤ (x13_1 : Int) := od; have q382 : x13_1 < (l0.length : Int) := od; obtain ⟨ad382, e382, hx382_0⟩ := Kd.at_int HR0.out x13_1 p382 q382
         cases e382
         replace p382 := eq_true p382; replace q382 := eq_true q382; have p383 : 0 ≤ (x13_1 : Int) := od; have q383 : x13_1 < (l1.length : Int) := od; obtain ⟨ad383, e383, hx383_0⟩ := Kd.at_int HR1.out x13_1 p383 q383
         cases e383
         replace p383 := eq_true p383; replace q383 := eq_true q383
         go_wp2
         repeat (go_quiet (fail); try go_wp2)
         go_roundg k1
         case measure => have := HK1.out; omega
         case rel => exact ⟨(wrap64 (x13_1 + 1)), ar, H', ⟨by have := HK1.out; omega⟩, by repeat (first | exact Drawn0.refl _ | apply Drawn0.step)⟩
        ·
         rw [if_neg c8] at H; have c8b0 : ((rd l0 x13_1) == (rd l1 x13_1)) = false := beq_eq_false_iff_ne.mpr c8; have c8b1 : ((rd l0 x13_1) != (rd l1 x13_1)) = true := bne_iff_ne.mpr c8; obtain rfl := Option.some.inj H; have p382 : 0 ≤ (x13_1 : Int) := od; have q382 : x13_1 < (l0.length : Int) := od; obtain ⟨ad382, e382, hx382_0⟩ := Kd.at_int HR0.out x13_1 p382 q382
         cases e382
         replace p382 := eq_true p382; replace q382 := eq_true q382; have p383 : 0 ≤ (x13_1 : Int) := od; have q383 : x13_1 < (l1.length : Int) := od; obtain ⟨ad383, e383, hx383_0⟩ := Kd.at_int HR1.out x13_1 p383 q383
         cases e383
         replace p383 := eq_true p383; replace q383 := eq_true q383
         go_wp2
         repeat (go_quiet (fail); try go_wp2)
         go_ret
         exact ⟨by first | rfl | (simp; done) | (simp [*]; done) | (refine congrArg (Value.int .i64) ?_; unfold wrap64; omega), by repeat (first | exact Drawn0.refl _ | apply Drawn0.step)⟩
       ·
        rw [if_neg c7] at H; exact absurd H (by simp)
      ·
       rw [if_neg c6] at H; exact absurd H (by simp)
     ·
      rw [if_neg c5] at H; exact absurd H (by simp)
    ·
     rw [if_neg c4] at H; have c4b0 : decide (x13_1 < (l0.length : Int)) = false := decide_eq_false c4; clear c4; obtain rfl := Option.some.inj H
     go_wp2
     repeat (go_quiet (fail); try go_wp2)
     go_ret
     exact ⟨by first | rfl | (simp; done) | (simp [*]; done) | (refine congrArg (Value.int .i64) ?_; unfold wrap64; omega), by repeat (first | exact Drawn0.refl _ | apply Drawn0.step)⟩
 ·
  rw [if_neg c3] at H; have c3b0 : ((l0.length : Int) == (l1.length : Int)) = false := beq_eq_false_iff_ne.mpr c3; have c3b1 : ((l0.length : Int) != (l1.length : Int)) = true := bne_iff_ne.mpr c3; have c3b2 : (l0.length == l1.length) = false := by first | simpa using c3 | (simp at c3 ⊢; omega)
  obtain rfl := Option.some.inj H
  go_enter Try.func67, Try.ntmps67
  go_wp2
  repeat (go_quiet (fail); try go_wp2)
  go_ret
  exact ⟨by first | rfl | (simp; done) | (simp [*]; done) | (refine congrArg (Value.int .i64) ?_; unfold wrap64; omega), by repeat (first | exact Drawn0.refl _ | apply Drawn0.step)⟩
end Go.Proofs.Ytmeamdklonmahaa.QFederatedSafe
