/- Lean functions that answer as the Go functions do which the law reaches, and proofs that the Go code comes to exactly these answers. Conditions: those that each theorem names. -/
import Derived.Test.YtmeamdklonmahaaQFederatedViewx0
import Derived.Test.YtmeamdklonmahaaQFederatedViewx2
import Derived.Test.YtmeamdklonmahaaQFederatedViewx4
namespace Go.Proofs.Ytmeamdklonmahaa.QFederatedView
open Go.RowKit Go.Proofs.YtmeamdklonmahaaW.PrintWords Go.Proofs.YtmeamdklonmahaaW.PrintLast Go.Proofs.YtmeamdklonmahaaW.PrintMore
attribute [local go_sem] max2_int min2_int max_two min_two max_three min_three max_four min_four   -- for this text's walks alone
set_option linter.unusedVariables false
set_option linter.unusedSimpArgs false

/-! ### trustquorummake_trust: function 62 -/
mutual
def trustquorummake_trust.l0 : Nat → Int → Int → List Int → Int → Int → List Int → Int → Int → List Int → Option (Int × List Int × (List (S48)) × Int)
  | 0, _, _, _, _, _, _, _, _, _ => none
  | k + 1, x1, x2, x20, x21, x22, x1000, x1001, x201000, x201001 => if x22 < x21 then (if 0 ≤ x22 then (if x22 < (x20.length : Int) then (if x201001.length < 17592186044416 then (trustquorummake_trust.l0 k x1 x2 x20 x21 (wrap64 (x22 + 1)) x1000 x1001 x201000 (x201001 ++ [rd x20 x22])) else (none)) else (none)) else (none)) else (if x2 > 1 then ((trustquorummake_Tape_Pick.f x1000 x1001 (([0, 0, 1, 1, 2, 3] : List Int))).bind fun bt217 => (trustquorummake_trust.l1 k x1 x2 bt217.1 x1000 bt217.2 x201000 x201001 ([] : List (S48)))) else ((trustquorummake_Tape_Range.f x1000 x1001 1 (wrap64 ((x201001.length : Int)))).bind fun bt238 => (some (bt238.1, x201001, ([] : List (S48)), bt238.2))))
def trustquorummake_trust.l1 : Nat → Int → Int → Int → List Int → Int → Int → List Int → List (S48) → Option (Int × List Int × (List (S48)) × Int)
  | 0, _, _, _, _, _, _, _, _ => none
  | k + 1, x1, x2, x11, x1000, x1001, x201000, x201001, x201002 => if x11 > 0 then ((trustquorummake_trust.f k x1000 x1001 x1 (wrap64 (x2 - 1))).bind fun bt219 => (if x201002.length < 2513169434916 then (trustquorummake_trust.l1 k x1 x2 (wrap64 (x11 - 1)) x1000 bt219.2.2.2 x201000 x201001 (x201002 ++ [(⟨bt219.1, bt219.2.1, bt219.2.2.1⟩ : S48)])) else (none))) else (if (x201002.length : Int) > 0 then ((trustquorummake_Tape_N.f x1000 x1001 3).bind fun bt230 => (if bt230.1 = 0 then ((trustquorummake_Tape_Range.f x1000 bt230.2 1 (wrap64 ((x201002.length : Int)))).bind fun bt232 => (some (bt232.1, ([] : List Int), x201002, bt232.2))) else ((trustquorummake_Tape_Range.f x1000 bt230.2 1 (wrap64 ((x201001.length : Int) + (x201002.length : Int)))).bind fun bt234 => (some (bt234.1, x201001, x201002, bt234.2))))) else ((trustquorummake_Tape_Range.f x1000 x1001 1 (wrap64 ((x201001.length : Int) + (x201002.length : Int)))).bind fun bt236 => (some (bt236.1, x201001, x201002, bt236.2))))
def trustquorummake_trust.f : Nat → List Int → Int → Int → Int → Option (Int × List Int × (List (S48)) × Int)
  | 0, _, _, _, _ => none
  | k + 1, s0_0, s0_1, a1, a2 => (trustquorummake_Tape_Order.f k s0_0 s0_1 a1).bind fun bt201 => ((trustquorummake_Tape_Range.f s0_0 bt201.2 1 (mn a1 5)).bind fun bt205 => (if 0 ≤ bt205.1 then (if bt205.1 ≤ (bt201.1.length : Int) then ((some (bt201.1.take (bt205.1 : Int).toNat : List Int)).bind fun y207 => (trustquorummake_trust.l0 k a1 a2 y207 (y207.length : Int) 0 s0_0 bt205.2 0 ([] : List Int))) else (none)) else (none)))
end
theorem trustquorummake_trust.mono_l : ∀ k, (∀ y0 y1 y2 y3, LeO (trustquorummake_trust.f k y0 y1 y2 y3) (trustquorummake_trust.f (k + 1) y0 y1 y2 y3)) ∧ (∀ y0 y1 y2 y3 y4 y5 y6 y7 y8, LeO (trustquorummake_trust.l0 k y0 y1 y2 y3 y4 y5 y6 y7 y8) (trustquorummake_trust.l0 (k + 1) y0 y1 y2 y3 y4 y5 y6 y7 y8)) ∧ (∀ y0 y1 y2 y3 y4 y5 y6 y7, LeO (trustquorummake_trust.l1 k y0 y1 y2 y3 y4 y5 y6 y7) (trustquorummake_trust.l1 (k + 1) y0 y1 y2 y3 y4 y5 y6 y7))
  | 0 => ⟨fun _ _ _ _ r h => by simp [trustquorummake_trust.f] at h, fun _ _ _ _ _ _ _ _ _ r h => by simp [trustquorummake_trust.l0] at h, fun _ _ _ _ _ _ _ _ r h => by simp [trustquorummake_trust.l1] at h⟩
  | k + 1 => by
    obtain ⟨ih0, ih1, ih2⟩ := trustquorummake_trust.mono_l k
    refine ⟨?_, ?_, ?_⟩
    · intro y0 y1 y2 y3
      unfold trustquorummake_trust.f
      repeat' first
      | (with_reducible exact ih0 _ _ _ _)
      | (with_reducible exact ih1 _ _ _ _ _ _ _ _ _)
      | (with_reducible exact ih2 _ _ _ _ _ _ _ _)
      | (with_reducible exact trustquorummake_Tape_Order.mono _ _ _ _)
      | (with_reducible exact LeO.refl _)
      | (with_reducible exact LeO.none _)
      | (with_reducible refine LeO.ite ?_ ?_)
      | (with_reducible refine LeO.bind ?_ (fun _ => ?_))
      | exact ih0 _ _ _ _
      | exact ih1 _ _ _ _ _ _ _ _ _
      | exact ih2 _ _ _ _ _ _ _ _
      | exact trustquorummake_Tape_Order.mono _ _ _ _
      | exact LeO.none _
      | refine LeO.ite ?_ ?_
      | refine LeO.bind ?_ (fun _ => ?_)
    · intro y0 y1 y2 y3 y4 y5 y6 y7 y8
      unfold trustquorummake_trust.l0
      repeat' first
      | (with_reducible exact ih0 _ _ _ _)
      | (with_reducible exact ih1 _ _ _ _ _ _ _ _ _)
      | (with_reducible exact ih2 _ _ _ _ _ _ _ _)
      | (with_reducible exact trustquorummake_Tape_Order.mono _ _ _ _)
      | (with_reducible exact LeO.refl _)
      | (with_reducible exact LeO.none _)
      | (with_reducible refine LeO.ite ?_ ?_)
      | (with_reducible refine LeO.bind ?_ (fun _ => ?_))
      | exact ih0 _ _ _ _
      | exact ih1 _ _ _ _ _ _ _ _ _
      | exact ih2 _ _ _ _ _ _ _ _
      | exact trustquorummake_Tape_Order.mono _ _ _ _
      | exact LeO.none _
      | refine LeO.ite ?_ ?_
      | refine LeO.bind ?_ (fun _ => ?_)
    · intro y0 y1 y2 y3 y4 y5 y6 y7
      unfold trustquorummake_trust.l1
      repeat' first
      | (with_reducible exact ih0 _ _ _ _)
      | (with_reducible exact ih1 _ _ _ _ _ _ _ _ _)
      | (with_reducible exact ih2 _ _ _ _ _ _ _ _)
      | (with_reducible exact trustquorummake_Tape_Order.mono _ _ _ _)
      | (with_reducible exact LeO.refl _)
      | (with_reducible exact LeO.none _)
      | (with_reducible refine LeO.ite ?_ ?_)
      | (with_reducible refine LeO.bind ?_ (fun _ => ?_))
      | exact ih0 _ _ _ _
      | exact ih1 _ _ _ _ _ _ _ _ _
      | exact ih2 _ _ _ _ _ _ _ _
      | exact trustquorummake_Tape_Order.mono _ _ _ _
      | exact LeO.none _
      | refine LeO.ite ?_ ?_
      | refine LeO.bind ?_ (fun _ => ?_)
theorem trustquorummake_trust.mono : ∀ a0 a1 a2 a3 k, LeO (trustquorummake_trust.f k a0 a1 a2 a3) (trustquorummake_trust.f (k + 1) a0 a1 a2 a3) := by
  intro a0 a1 a2 a3 k
  obtain ⟨ih0, ih1, ih2⟩ := trustquorummake_trust.mono_l k
  exact ih0 a0 a1 a2 a3
def trustquorummake_trust.T12 : Bool × List (List Nat × List Nat) := (true, [([], []), ([0], [0]), ([], []), ([], []), ([], []), ([4], [4]), ([2, 3, 5], [2, 3, 5]), ([6], [6]), ([1, 7, 6], [1, 7]), ([0, 1, 2, 3, 4, 5, 6, 7, 8], []), ([9, 8, 8, 0, 1, 2, 3, 4, 5, 6, 7, 8], [8, 9])])
def trustquorummake_trust.B12 : List Nat := [0, 1, 0, 0, 0, 16, 60, 124, 255, 511, 1023]
theorem trustquorummake_trust.tab12 : rtab .any (opsOf Try.f62 12) = trustquorummake_trust.T12 := by kernel_rfl
theorem trustquorummake_trust.bits12 : waitsOk trustquorummake_trust.T12.2 trustquorummake_trust.B12 = true := by kernel_rfl
set_option maxHeartbeats 8000000 in
set_option maxRecDepth 100000 in
theorem trustquorummake_trust.calls (k : Nat) : ∀ (g : Nat) (s0_0 : List Int) (s0_1 : Int) (a1 : Int) (a2 : Int) (r1 : Int) (r2 : List Int) (r3 : List (S48)) (r4 : Int) (w0 w : World) (hI : IsS78 w0 w g s0_0 s0_1) (hB : Below w0.heap.size w0 w) (h : trustquorummake_trust.f k s0_0 s0_1 a1 a2 = some (r1, r2, r3, r4)),
    Calls Try.prog 62 #[.pointer (some ⟨g, 0, none⟩), .int .i64 a1, .int .i64 a2] w fun e w' => ∃ v1_ v2_ : Value, e = .returned (.agg #[.int .i64 r1, v1_, v2_]) ∧ Kd.R (Kd.int .i64) 3 w' w.heap.size (fun _ => True) v1_ r2 ∧ Kd.R k48 48 w' w.heap.size (fun k_ => some k_ ≠ (v1_ : Value).ownBlock) v2_ r3 ∧ IsS78 w0 w' g s0_0 r4 ∧ Below w0.heap.size w0 w' ∧ KeepBut w w' g none := by
 induction k using Nat.strongRecOn with
 | _ k ih =>
 intro g s0_0 s0_1 a1 a2 r1 r2 r3 r4 w0 w hI hB h
 cases k with
 | zero => exact absurd h (by simp [trustquorummake_trust.f])
 | succ k =>
 simp only [trustquorummake_trust.f] at h; have hu48 := Try.underlying48; have HI0 := Aside0.mk hI; have HK := Aside0.mk (KeepBut.refl w g none); have HL := Aside0.mk hB.size; clear hI; have HW0 := Aside0.mk hB.size; have HB := Aside0.mk hB; clear hB; have H : ((trustquorummake_Tape_Order.f k s0_0 s0_1 a1).bind fun bt201 => ((trustquorummake_Tape_Range.f s0_0 bt201.2 1 (mn a1 5)).bind fun bt205 => (if 0 ≤ bt205.1 then (if bt205.1 ≤ (bt201.1.length : Int) then ((some (bt201.1.take (bt205.1 : Int).toNat : List Int)).bind fun y207 => (trustquorummake_trust.l0 k a1 a2 y207 (y207.length : Int) 0 s0_0 bt205.2 0 ([] : List Int))) else (none)) else (none)))) = some (r1, r2, r3, r4) := h; clear h; replace H := Option.bind_eq_some_iff.mp H; obtain ⟨⟨t201, t204⟩, A40, H⟩ := H; replace H : ((trustquorummake_Tape_Range.f s0_0 t204 1 (mn a1 5)).bind fun bt205 => (if 0 ≤ bt205.1 then (if bt205.1 ≤ (t201.length : Int) then ((some (t201.take (bt205.1 : Int).toNat : List Int)).bind fun y207 => (trustquorummake_trust.l0 k a1 a2 y207 (y207.length : Int) 0 s0_0 bt205.2 0 ([] : List Int))) else (none)) else (none))) = some (r1, r2, r3, r4) := H; have A4 := Aside0.mk A40; clear A40; obtain ⟨ji5, hji5⟩ : ∃ j_ : Int, (mn a1 5) = j_ := ⟨_, rfl⟩; replace H : ((trustquorummake_Tape_Range.f s0_0 t204 1 (ji5)).bind fun bt205 => (if 0 ≤ bt205.1 then (if bt205.1 ≤ (t201.length : Int) then ((some (t201.take (bt205.1 : Int).toNat : List Int)).bind fun y207 => (trustquorummake_trust.l0 k a1 a2 y207 (y207.length : Int) 0 s0_0 bt205.2 0 ([] : List Int))) else (none)) else (none))) = some (r1, r2, r3, r4) := by first | (rw [hji5] at H; exact H) | (simp only [hji5] at H ⊢; exact H)
 (try rw [hji5] at A4); (try (have hji5h : ji5 ≤ 5 := by (rw [← hji5]; unfold mn; (repeat' split) <;> omega))); (try (have hji5g : ji5 ≤ 64 := by omega)); have hji5_ : (if 5 < a1 then 5 else a1) = ji5 := hji5; replace H := Option.bind_eq_some_iff.mp H; obtain ⟨⟨t205, t206⟩, A60, H⟩ := H; replace H : (if 0 ≤ t205 then (if t205 ≤ (t201.length : Int) then ((some (t201.take (t205 : Int).toNat : List Int)).bind fun y207 => (trustquorummake_trust.l0 k a1 a2 y207 (y207.length : Int) 0 s0_0 t206 0 ([] : List Int))) else (none)) else (none)) = some (r1, r2, r3, r4) := H; have A6 := Aside0.mk A60; clear A60
 by_cases c7 : 0 ≤ t205
 ·
  rw [if_pos c7] at H; have c7b0 := eq_true c7; have c7b1 : decide (0 ≤ t205) = true := decide_eq_true c7; clear c7
  by_cases c8 : t205 ≤ (t201.length : Int)
  ·
   rw [if_pos c8] at H; have c8b0 := eq_true c8; have c8b1 : decide (t205 ≤ (t201.length : Int)) = true := decide_eq_true c8; clear c8; obtain ⟨y207, hy207⟩ : ∃ y_ : List Int, y_ = (t201.take (t205 : Int).toNat) := ⟨_, rfl⟩; replace H : (trustquorummake_trust.l0 k a1 a2 y207 (y207.length : Int) 0 s0_0 t206 0 ([] : List Int)) = some (r1, r2, r3, r4) := by first | (rw [hy207]; with_reducible exact H) | (have H2_ := (Option.bind_some _ _).symm.trans H; rw [hy207]; with_reducible exact H2_) | (have H2_ := (Option.bind_some _ _).symm.trans H; with_reducible exact H2_) | with_reducible exact H | (rw [hy207]; exact H) | exact H
   have Ny207 := Aside0.mk hy207; clear hy207; have H' := Aside0.mk H; clear H
   go_enter Try.func62, Try.ntmps62
   go_wp2_with (first | ((with_reducible refine gate_dst (N := 6) rfl ?_); refine box_event ?hg (N := 6) ?hd (cs := #[.int .i64 0, .slice none 0 0, .slice none 0 0]) (t := 48) ?hr ?_; (case hd => rfl); (case hg => rfl); (case hr => first | (go_simp; done) | (go_simp; rfl)); intro gb199 hg w9 hbox hb; replace HB := Aside0.mk (below_step HB.out hb); have BK199 := Aside0.mk (hbox); have GW199 := Aside0.mk ((by rw [hg]; exact (keep_size (w := w) (g := g) (row := none) HK.out) : w.heap.size ≤ gb199)); have GE199 := Aside0.mk ((Nat.le_trans HW0.out (by rw [hg]; exact (keep_size (w := w) (g := g) (row := none) HK.out) : w.heap.size ≤ gb199) : w0.heap.size ≤ gb199)); replace HK := Aside0.mk (KeepBut.trans HK.out (KeepBut.of_below hb g none) (.inl rfl)); have NB0_199 := Aside0.mk ((by rw [hg]; exact Nat.ne_of_lt (IsS78.lt (show IsS78 w0 _ g s0_0 s0_1 from by exact HI0.out)) : g ≠ gb199)); have NB199_0 := Aside0.mk ((by rw [hg]; exact Nat.ne_of_gt (IsS78.lt (show IsS78 w0 _ g s0_0 s0_1 from by exact HI0.out)) : gb199 ≠ g)); replace HI0 := Aside0.mk (IsS78.below HI0.out hb); clear hb hbox hg) | ((with_reducible refine gate_dst (N := 7) rfl ?_); refine box_event ?hg (N := 7) ?hd (cs := #[.int .i64 0, .slice none 0 0, .slice none 0 0]) (t := 48) ?hr ?_; (case hd => rfl); (case hg => rfl); (case hr => first | (go_simp; done) | (go_simp; rfl)); intro gb200 hg w10 hbox hb; replace HB := Aside0.mk (below_step HB.out hb); have BK200 := Aside0.mk (hbox); have GW200 := Aside0.mk ((by rw [hg]; exact (keep_size (w := w) (g := g) (row := none) HK.out) : w.heap.size ≤ gb200)); have GE200 := Aside0.mk ((Nat.le_trans HW0.out (by rw [hg]; exact (keep_size (w := w) (g := g) (row := none) HK.out) : w.heap.size ≤ gb200) : w0.heap.size ≤ gb200)); replace HK := Aside0.mk (KeepBut.trans HK.out (KeepBut.of_below hb g none) (.inl rfl)); have NB199_200 := Aside0.mk ((by rw [hg]; exact Nat.ne_of_lt (blk_lt BK199.out) : gb199 ≠ gb200)); have NB200_199 := Aside0.mk ((by rw [hg]; exact Nat.ne_of_gt (blk_lt BK199.out) : gb200 ≠ gb199)); replace BK199 := Aside0.mk (blk_below BK199.out hb); have NB0_200 := Aside0.mk ((by rw [hg]; exact Nat.ne_of_lt (IsS78.lt (show IsS78 w0 _ g s0_0 s0_1 from by exact HI0.out)) : g ≠ gb200)); have NB200_0 := Aside0.mk ((by rw [hg]; exact Nat.ne_of_gt (IsS78.lt (show IsS78 w0 _ g s0_0 s0_1 from by exact HI0.out)) : gb200 ≠ g)); replace HI0 := Aside0.mk (IsS78.below HI0.out hb); clear hb hbox hg) | ((with_reducible refine gate_callee (f := 94) rfl ?_); refine goesL_ (some 14) rfl rfl Try.func94 (by kernel_rfl) rfl #[.pointer (some ⟨g, 0, none⟩), .int .i64 a1] rfl (by (try simp only [List.map_toArray, List.map_cons, List.map_nil]); first | done | rfl | (simp only [List.length_drop, List.length_take]; rfl)) ?_; (with_reducible refine (trustquorummake_Tape_Order.calls k g s0_0 s0_1 a1 t201 t204 w0 _ ?side1 ?side2 A4.out).mono ?_); (case side1 => exact HI0.out); (case side2 => exact HB.out); rintro e w11 ⟨v202, rfl, ho0, hi, hb, hk⟩; refine ⟨_, rfl, ?_⟩; replace BK199 := Aside0.mk (KeepBut.blk hk BK199.out NB199_0.out (by simp)); replace BK200 := Aside0.mk (KeepBut.blk hk BK200.out NB200_0.out (by simp)); have HO203 := Aside0.mk (Kd.R_lower ho0 (keep_size (w := w) (g := g) (row := none) HK.out)); replace HK := Aside0.mk (KeepBut.trans HK.out hk (.inl rfl)); replace HB := Aside0.mk (hb); replace HI0 := Aside0.mk (hi); (try clear hb); (try clear hb2); (try clear hk); (try clear hi); (try clear ho0)) | ((with_reducible refine gate_callee (f := 44) rfl ?_); refine goesL_ (some 19) rfl rfl Try.func44 (by kernel_rfl) rfl #[.pointer (some ⟨g, 0, none⟩), .int .i64 1, .int .i64 ji5] rfl (by (try simp only [List.map_toArray, List.map_cons, List.map_nil]); first | done | (simp only [hji5]; rfl) | rfl | (simp only [List.length_drop, List.length_take]; rfl)) ?_; (with_reducible refine (trustquorummake_Tape_Range.calls g s0_0 t204 1 ji5 t205 t206 w0 _ ?side1 ?side2 A6.out).mono ?_); (case side1 => exact HI0.out); (case side2 => exact HB.out); rintro e w12 ⟨rfl, hi, hb, hk⟩; refine ⟨_, rfl, ?_⟩; replace BK199 := Aside0.mk (KeepBut.blk hk BK199.out NB199_0.out (by simp)); replace BK200 := Aside0.mk (KeepBut.blk hk BK200.out NB200_0.out (by simp)); replace HO203 := Aside0.mk (Kd.R_mono (Kd.R_keep (IsS78.apart (show IsS78 w0 _ g s0_0 t204 from by exact HI0.out) HO203.out (by decide)) hk (fun _ h => h.2)) (fun _ h => h.1)); replace HK := Aside0.mk (KeepBut.trans HK.out hk (.inl rfl)); replace HB := Aside0.mk (hb); replace HI0 := Aside0.mk (hi); (try clear hb); (try clear hb2); (try clear hk); (try clear hi); obtain ⟨Ao13, co13, eo13⟩ := Kd.R_slice HO203.out; subst eo13; have q14 : (t205 : Int) ≤ ((t201.length : Int) : Int) := of_decide_eq_true (by first | (with_reducible assumption) | assumption); obtain ⟨i014, hi014, _, hsz14, _⟩ := info_parts info3; have hcut14 := cut_to (P := Try.prog) 22 3 .i64 Try.underlying22 hi014 Ao13 t201.length co13 t205 (of_decide_eq_true (by first | (with_reducible assumption) | assumption)) q14 (Kd.R_reads' HO203.out).2.1; have hr14 := Kd.R_take (m := (t205 : Int).toNat) HO203.out (by omega); have hy14 : y207.length = (t205 : Int).toNat := (by rw [Ny207.out, List.length_take]; omega); rw [← Ny207.out] at hr14; rw [← hy14] at hr14 hcut14; clear hy14 hi014 hsz14 HO203; have HO209 := Aside0.mk hr14; clear hr14; replace q14 := eq_true q14))
   go_loopg [22] k (fun kq v22 w' => ∃ (x22_1 : Int) (x201001_1 : List Int) (u201001 : Value), v22 = .int .i64 x22_1 ∧ Aside0 (trustquorummake_trust.l0 kq a1 a2 y207 (y207.length : Int) x22_1 s0_0 t206 0 x201001_1 = some (r1, r2, r3, r4)) ∧ Aside0 (kq ≤ k) ∧ Aside0 (Kd.R (Kd.int .i64) 3 w' w.heap.size (fun k_ => some k_ ≠ (u201001 : Value).ownBlock) (.slice Ao13 y207.length co13) y207) ∧ Aside0 (Kd.R (Kd.int .i64) 3 w' w.heap.size (fun k_ => some k_ ≠ ((.slice Ao13 y207.length co13) : Value).ownBlock) u201001 x201001_1) ∧ Aside0 (w'.heap[gb199]? = some (.cells #[.int .i64 0, (.slice none 0 0), (.slice none 0 0)] 48 (0, 0))) ∧ Aside0 (w'.heap[gb200]? = some (.cells #[.int .i64 0, u201001, (.slice none 0 0)] 48 (0, 0))) ∧ Aside0 (IsS78 w0 w' g s0_0 t206) ∧ Aside0 (KeepBut w w' g none) ∧ Aside0 (Below w0.heap.size w0 w'))
   case atStart => exact ⟨(0), (([] : List Int)), (.slice none 0 0), (by first | rfl | (simp; done) | (simp [*]; done) | (refine congrArg (Value.int .i64) ?_; unfold wrap64; omega)), H', ⟨Nat.le_refl _⟩, ⟨by exact Kd.R_mono HO209.out (fun _ hk => (by simp [Value.ownBlock]))⟩, ⟨by first | exact Kd.R_nil _ _ _ _ _ | exact Kd.N_nil _ _ _ _ _ | exact Kd.V_nil _ _ _ _ _ | exact Kd.Q_nil _ _ _ _ _ | exact Kd.S_nil _ _ _ _ _⟩, ⟨by exact BK199.out⟩, ⟨by exact BK200.out⟩, ⟨by exact HI0.out⟩, ⟨by exact HK.out⟩, ⟨by exact HB.out⟩⟩
   case round =>
    clear H'; (try clear q1); (try clear p2); (try clear c4); (try clear c6); (try clear p6); (try clear c7); (try clear c7b0); (try clear c7b1); (try clear c8); (try clear c8b0); (try clear c8b1); (try clear c9); (try clear q14); (try clear q14); obtain ⟨x22_1, x201001_1, u201001, rfl, HA, HK1, HO_20, HO_201001, BK199, BK200, HI0, HK, HB⟩ := hrel
    cases gk with
    | zero => exact absurd HA.out (by simp [trustquorummake_trust.l0])
    | succ k1 =>
     have H := HA.out; clear HA; simp only [trustquorummake_trust.l0] at H
     by_cases c15 : x22_1 < (y207.length : Int)
     ·
      rw [if_pos c15] at H; have c15b0 : decide (x22_1 < (y207.length : Int)) = true := decide_eq_true c15; clear c15
      by_cases c16 : 0 ≤ x22_1
      ·
       rw [if_pos c16] at H; have c16b0 : decide (0 ≤ x22_1) = true := decide_eq_true c16; clear c16
       by_cases c17 : x22_1 < (y207.length : Int)
       ·
        rw [if_pos c17] at H; have c17b0 : decide (x22_1 < (y207.length : Int)) = true := decide_eq_true c17; clear c17
        by_cases c18 : x201001_1.length < 17592186044416
        ·
         rw [if_pos c18] at H; have LMc18 := Aside0.mk c18; clear c18; obtain ⟨y211, hy211⟩ : ∃ y_ : List Int, y_ = (x201001_1 ++ [rd y207 x22_1]) := ⟨_, rfl⟩; replace H : (trustquorummake_trust.l0 k1 a1 a2 y207 (y207.length : Int) (wrap64 (x22_1 + 1)) s0_0 t206 0 y211) = some (r1, r2, r3, r4) := by first | (rw [hy211]; with_reducible exact H) | (have H2_ := (Option.bind_some _ _).symm.trans H; rw [hy211]; with_reducible exact H2_) | (have H2_ := (Option.bind_some _ _).symm.trans H; with_reducible exact H2_) | with_reducible exact H | (rw [hy211]; exact H) | exact H
         have Ny211 := Aside0.mk hy211; clear hy211; have H' := Aside0.mk H; clear H; have p210 : 0 ≤ (x22_1 : Int) := of_decide_eq_true (by first | (with_reducible assumption) | assumption); have q210 : x22_1 < (y207.length : Int) := of_decide_eq_true (by first | (with_reducible assumption) | assumption); obtain ⟨ad210, e210, hx210_0⟩ := Kd.at_int (Kd.R_reads' HO_20.out).2.2 x22_1 p210 q210
         cases e210
         replace p210 := eq_true p210; replace q210 := eq_true q210; have hnb19 := NB200_199.out; have hnc19 := NB199_200.out; have hnb20 := NB200_0.out; have hnc20 := NB0_200.out; obtain ⟨hcz21_0, hcz21_1, hcz21_2, hfz21_0, hfz21_1, hfz21_2⟩ := blkC3 BK200.out
         go_wp2_with (first | ((with_reducible refine gate_builtin (b := .append) (xs := #[.tmp 27, .tmp 29]) rfl ?_); at_builtin; refine Kd.R_append (Kd.int .i64) w.heap.size rfl (.tmp 27) (.tmp 29) 22 3 (.int .i64 0) 8 rfl Try.underlying22 info3 rfl (by decide) (by omega) u201001 x201001_1 (rd y207 x22_1) [.int .i64 (rd y207 x22_1)] (fun k_ => some k_ ≠ (.slice (some ad210) y207.length co13 : Value).ownBlock) (fun _ => False) rfl rfl ?aP (fun _ hk => hk.elim) ?aF ?aO (Below.refl _ _) ?aS ?aL ?_; (case aP => exact rfl); (case aF => exact (fun k_ hk => Kd.fresh' (Kd.R_lt HO_20.out) k_ hk)); (case aO => exact HO_201001.out); (case aS => exact (keep_size (w := w) (g := g) (row := none) HK.out)); (case aL => have := LMc18.out; omega); intro v212 w22 ho hb hg hat; rw [← Ny211.out] at ho; replace HO_20 := Aside0.mk (Kd.R_after (ok := (fun _ => True)) (by exact Kd.R_mono HO_20.out (fun _ hk => ⟨trivial, hk⟩)) hg hat); replace BK199 := Aside0.mk (blk_grown BK199.out hg (Kd.R_ne HO_201001.out BK199.out (by decide))); replace BK200 := Aside0.mk (blk_grown BK200.out hg (Kd.R_ne HO_201001.out BK200.out (by decide))); replace HI0 := Aside0.mk (IsS78.grown HI0.out hg (IsS78.own_ne HI0.out HO_201001.out (by decide))); replace HB := Aside0.mk (below_weaken HB.out HL.out hb); replace HK := Aside0.mk (KeepBut.trans HK.out (KeepBut.of_grown hg g) (Kd.R_base2 HO_201001.out)); have HO213 := Aside0.mk (ho); clear HO_201001; clear ho hb hg hat; obtain ⟨Ao23, co23, eo23⟩ := Kd.R_slice HO213.out; subst eo23; obtain ⟨hcz24_0, hcz24_1, hcz24_2, hfz24_0, hfz24_1, hfz24_2⟩ := blkC3 BK200.out))
         go_roundg k1
         case measure => have := HK1.out; omega
         case rel => exact ⟨(wrap64 (x22_1 + 1)), (y211), (.slice Ao23 y211.length co23), (by first | rfl | (simp; done) | (simp [*]; done) | (refine congrArg (Value.int .i64) ?_; unfold wrap64; omega)), H', ⟨by have := HK1.out; omega⟩, ⟨by (with_reducible repeat (first | apply Kd.R_alloc | apply Kd.R_drewN | apply Kd.R_drew)); exact Kd.R_mono (Kd.R_far (p := ⟨gb200, 1, none⟩) (Kd.R_types HO_20.out BK200.out (by decide)) (fun _ hk => hk.2) (.slice Ao23 y211.length co23)) (fun _ hk => hk.1.2)⟩, ⟨by (with_reducible repeat (first | apply Kd.R_alloc | apply Kd.R_drewN | apply Kd.R_drew)); exact Kd.R_mono (Kd.R_far (p := ⟨gb200, 1, none⟩) (Kd.R_types HO213.out BK200.out (by decide)) (fun _ hk => hk.2) (.slice Ao23 y211.length co23)) (fun _ hk => hk.1)⟩, ⟨by (with_reducible repeat (first | refine blk_drewN ?_ _ | refine blk_drew ?_ | refine blk_alloc ?_ _)); refine blk_far ?_ NB199_200.out _; (with_reducible repeat (first | refine blk_drewN ?_ _ | refine blk_drew ?_ | refine blk_alloc ?_ _)); exact BK199.out⟩, ⟨by (with_reducible repeat (first | refine blk_drewN ?_ _ | refine blk_drew ?_ | refine blk_alloc ?_ _)); refine blk_put (cs := #[.int .i64 0, u201001, .slice none 0 0]) ?_ 1 _ rfl; (with_reducible repeat (first | refine blk_drewN ?_ _ | refine blk_drew ?_ | refine blk_alloc ?_ _)); exact BK200.out⟩, ⟨by repeat (first | (with_reducible first | exact HI0.out | apply IsS78.alloc | apply IsS78.drewN | apply IsS78.drew | apply IsS78.set_1 | refine IsS78.far ?_ NB0_199.out _ | refine IsS78.far ?_ NB0_200.out _) | exact HI0.out)⟩, ⟨by repeat (first | (with_reducible first | exact HK.out | apply KeepBut.set_ | apply keep_drewN | apply keep_drew | apply keep_alloc | refine keep_far ?_ GW199.out _ | refine keep_far ?_ GW200.out _) | exact HK.out)⟩, ⟨by repeat (first | (with_reducible first | exact HB.out | apply below_alloc | apply pw_below_drewN | apply below_drew1 | refine below_set ?_ (IsS78.ge HI0.out) | refine below_set ?_ GE199.out | refine below_set ?_ GE200.out) | exact HB.out)⟩⟩
        ·
         rw [if_neg c18] at H; exact absurd H (by simp)
       ·
        rw [if_neg c17] at H; exact absurd H (by simp)
      ·
       rw [if_neg c16] at H; exact absurd H (by simp)
     ·
      rw [if_neg c15] at H; have c15b0 : decide (x22_1 < (y207.length : Int)) = false := decide_eq_false c15; clear c15
      by_cases c25 : a2 > 1
      ·
       rw [if_pos c25] at H; have c25b0 : decide (1 < a2) = true := decide_eq_true c25; clear c25; obtain ⟨y214, hy214⟩ : ∃ y_ : List Int, y_ = (([0, 0, 1, 1, 2, 3] : List Int)) := ⟨_, rfl⟩; replace H : ((trustquorummake_Tape_Pick.f s0_0 t206 y214).bind fun bt217 => (trustquorummake_trust.l1 k1 a1 a2 bt217.1 s0_0 bt217.2 0 x201001_1 ([] : List (S48)))) = some (r1, r2, r3, r4) := by first | (rw [hy214]; with_reducible exact H) | (have H2_ := (Option.bind_some _ _).symm.trans H; rw [hy214]; with_reducible exact H2_) | (have H2_ := (Option.bind_some _ _).symm.trans H; with_reducible exact H2_) | with_reducible exact H | (rw [hy214]; exact H) | exact H
       have Ny214 := Aside0.mk hy214; clear hy214; replace H := Option.bind_eq_some_iff.mp H; obtain ⟨⟨t217, t218⟩, A260, H⟩ := H; replace H : (trustquorummake_trust.l1 k1 a1 a2 t217 s0_0 t218 0 x201001_1 ([] : List (S48))) = some (r1, r2, r3, r4) := H; have A26 := Aside0.mk A260; clear A260; have H' := Aside0.mk H; clear H
       go_wp2_with (first | ((with_reducible refine gate_dst (N := 36) rfl ?_); refine Kd.R_lit (Kd.int .i64) _ 3 ?hg (N := 36) ?hd (xs := ([0, 0, 1, 1, 2, 3] : List Int)) (inner := [.int .i64 0, .int .i64 0, .int .i64 1, .int .i64 1, .int .i64 2, .int .i64 3]) (ok := fun _ => True) (okp := fun _ => True) ?hr ?hp (fun _ hk => hk) trivial (Below.refl _ _) (Nat.le_refl _) (by simp) ?_; (case hd => rfl); (case hg => rfl); (case hr => first | (go_simp; done) | (go_simp; rfl)); (case hp => exact (Reps.one (show Kd.M (Kd.int .i64) _ _ _ 0 [.int .i64 0] from rfl) (Reps.one (show Kd.M (Kd.int .i64) _ _ _ 0 [.int .i64 0] from rfl) (Reps.one (show Kd.M (Kd.int .i64) _ _ _ 1 [.int .i64 1] from rfl) (Reps.one (show Kd.M (Kd.int .i64) _ _ _ 1 [.int .i64 1] from rfl) (Reps.one (show Kd.M (Kd.int .i64) _ _ _ 2 [.int .i64 2] from rfl) (Reps.one (show Kd.M (Kd.int .i64) _ _ _ 3 [.int .i64 3] from rfl) (Reps.none _ _)))))))); intro v215 w27 ho28 hb hg_ hnew_; clear hg_ hnew_; (first | rw [← Ny214.out] at ho28 | (simp only [Int.reduceToNat] at ho28; rw [← Ny214.out] at ho28)); have HO216 := Aside0.mk (Kd.R_lower (Kd.R_new' (Kd.R_new' ho28 (Kd.R_lt HO_20.out)) (Kd.R_lt HO_201001.out)) (keep_size (w := w) (g := g) (row := none) HK.out)); replace HO_20 := Aside0.mk (Kd.R_elder' HO_20.out (Kd.R_base ho28) hb); replace HO_201001 := Aside0.mk (Kd.R_elder' HO_201001.out (Kd.R_base ho28) hb); replace BK199 := Aside0.mk (blk_below BK199.out hb); replace BK200 := Aside0.mk (blk_below BK200.out hb); replace HI0 := Aside0.mk (IsS78.below HI0.out hb); replace HK := Aside0.mk (KeepBut.trans HK.out (KeepBut.of_below hb g none) (.inl rfl)); replace HB := Aside0.mk (below_step HB.out hb); clear hb ho28; obtain ⟨Ao29, co29, eo29⟩ := Kd.R_slice HO216.out; subst eo29) | ((with_reducible refine gate_callee (f := 51) rfl ?_); refine goesL_ (some 37) rfl rfl Try.func51 (by kernel_rfl) rfl #[.pointer (some ⟨g, 0, none⟩), .slice Ao29 y214.length co29] rfl (by (try simp only [List.map_toArray, List.map_cons, List.map_nil]); first | done | rfl | (simp only [List.length_drop, List.length_take]; rfl)) ?_; (with_reducible refine (trustquorummake_Tape_Pick.calls g s0_0 t206 _ _ y214 t217 t218 w0 _ ?side1 ?side2 ?side3 ?side4 ?side5 A26.out).mono ?_); (case side1 => exact HI0.out); (case side2 => exact HB.out); (case side3 => exact (Kd.R_reads' HO216.out).2.2); (case side4 => exact (Kd.R_reads' HO216.out).2.1); (case side5 => exact far_slice (IsS78.own_ne HI0.out HO216.out (by decide))); rintro e w30 ⟨rfl, hi, hb, hk⟩; refine ⟨_, rfl, ?_⟩; replace HO_20 := Aside0.mk (Kd.R_mono (Kd.R_keep (IsS78.apart (show IsS78 w0 _ g s0_0 t206 from by exact HI0.out) HO_20.out (by decide)) hk (fun _ h => h.2)) (fun _ h => h.1)); replace HO_201001 := Aside0.mk (Kd.R_mono (Kd.R_keep (IsS78.apart (show IsS78 w0 _ g s0_0 t206 from by exact HI0.out) HO_201001.out (by decide)) hk (fun _ h => h.2)) (fun _ h => h.1)); replace BK199 := Aside0.mk (KeepBut.blk hk BK199.out NB199_0.out (by simp)); replace BK200 := Aside0.mk (KeepBut.blk hk BK200.out NB200_0.out (by simp)); replace HO216 := Aside0.mk (Kd.R_mono (Kd.R_keep (IsS78.apart (show IsS78 w0 _ g s0_0 t206 from by exact HI0.out) HO216.out (by decide)) hk (fun _ h => h.2)) (fun _ h => h.1)); replace HK := Aside0.mk (KeepBut.trans HK.out hk (.inl rfl)); replace HB := Aside0.mk (hb); replace HI0 := Aside0.mk (hi); (try clear hb); (try clear hb2); (try clear hk); (try clear hi)))
       go_loopg [11] k1 (fun kq v11 w' => ∃ (x11_2 : Int) (x1001_2 : Int) (x201002_2 : List (S48)) (u201002 : Value), v11 = .int .i64 x11_2 ∧ Aside0 (trustquorummake_trust.l1 kq a1 a2 x11_2 s0_0 x1001_2 0 x201001_1 x201002_2 = some (r1, r2, r3, r4)) ∧ Aside0 (kq ≤ k1) ∧ Aside0 (Kd.R (Kd.int .i64) 3 w' w.heap.size (fun _ => True) u201001 x201001_1) ∧ Aside0 (Kd.R k48 48 w' w.heap.size (fun k_ => some k_ ≠ (u201001 : Value).ownBlock ∧ k_ ≠ gb199 ∧ k_ ≠ gb200) u201002 x201002_2) ∧ Aside0 (w'.heap[gb199]? = some (.cells #[.int .i64 0, (.slice none 0 0), (.slice none 0 0)] 48 (0, 0))) ∧ Aside0 (w'.heap[gb200]? = some (.cells #[.int .i64 0, u201001, u201002] 48 (0, 0))) ∧ Aside0 (IsS78 w0 w' g s0_0 x1001_2) ∧ Aside0 (KeepBut w w' g none) ∧ Aside0 (Below w0.heap.size w0 w'))
       case atStart => exact ⟨(t217), (t218), (([] : List (S48))), (.slice none 0 0), (by first | rfl | (simp; done) | (simp [*]; done) | (refine congrArg (Value.int .i64) ?_; unfold wrap64; omega)), H', ⟨Nat.le_refl _⟩, ⟨by exact Kd.R_mono HO_201001.out (fun _ hk => trivial)⟩, ⟨by first | exact Kd.R_nil _ _ _ _ _ | exact Kd.N_nil _ _ _ _ _ | exact Kd.V_nil _ _ _ _ _ | exact Kd.Q_nil _ _ _ _ _ | exact Kd.S_nil _ _ _ _ _⟩, ⟨by exact BK199.out⟩, ⟨by exact BK200.out⟩, ⟨by exact HI0.out⟩, ⟨by exact HK.out⟩, ⟨by exact HB.out⟩⟩
       case round =>
        clear H'; (try clear c1); (try clear q1); (try clear c2); (try clear p2); (try clear q2); (try clear hx2); (try clear c4); (try clear c5); (try clear c6); (try clear p6); (try clear c7); (try clear c7b0); (try clear c7b1); (try clear c8); (try clear c8b0); (try clear c8b1); (try clear c9); (try clear q14); (try clear c15); (try clear c15b0); (try clear c16); (try clear c16b0); (try clear c17); (try clear c17b0); (try clear c18); (try clear c19); (try clear c20); (try clear p21); (try clear q21); (try clear hx21); (try clear c25); (try clear c25b0); (try clear hcz21_0); (try clear hcz21_1); (try clear hcz21_2); (try clear hcz24_0); (try clear hcz24_1); (try clear hcz24_2); (try clear hfz21_0); (try clear hfz21_1); (try clear hfz21_2); (try clear hfz24_0); (try clear hfz24_1); (try clear hfz24_2); (try clear hx210_0); (try clear p2); (try clear p210); (try clear p6); (try clear q1); (try clear q14); (try clear q210); obtain ⟨x11_2, x1001_2, x201002_2, u201002, rfl, HA, HK2, HO_201001, HO_201002, BK199, BK200, HI0, HK, HB⟩ := hrel
        cases gk with
        | zero => exact absurd HA.out (by simp [trustquorummake_trust.l1])
        | succ k2 =>
         have H := HA.out; clear HA; simp only [trustquorummake_trust.l1] at H
         by_cases c31 : x11_2 > 0
         ·
          rw [if_pos c31] at H; have c31b0 : decide (0 < x11_2) = true := decide_eq_true c31; clear c31; replace H := Option.bind_eq_some_iff.mp H; obtain ⟨⟨t219, t220, t223, t226⟩, A320, H⟩ := H; replace H : (if x201002_2.length < 2513169434916 then (trustquorummake_trust.l1 k2 a1 a2 (wrap64 (x11_2 - 1)) s0_0 t226 0 x201001_1 (x201002_2 ++ [(⟨t219, t220, t223⟩ : S48)])) else (none)) = some (r1, r2, r3, r4) := H; have A32 := Aside0.mk A320; clear A320
          by_cases c33 : x201002_2.length < 2513169434916
          ·
           rw [if_pos c33] at H; have LMc33 := Aside0.mk c33; clear c33; obtain ⟨y227, hy227⟩ : ∃ y_ : List (S48), y_ = (x201002_2 ++ [(⟨t219, t220, t223⟩ : S48)]) := ⟨_, rfl⟩; replace H : (trustquorummake_trust.l1 k2 a1 a2 (wrap64 (x11_2 - 1)) s0_0 t226 0 x201001_1 y227) = some (r1, r2, r3, r4) := by first | (rw [hy227]; with_reducible exact H) | (have H2_ := (Option.bind_some _ _).symm.trans H; rw [hy227]; with_reducible exact H2_) | (have H2_ := (Option.bind_some _ _).symm.trans H; with_reducible exact H2_) | with_reducible exact H | (rw [hy227]; exact H) | exact H
           have Ny227 := Aside0.mk hy227; clear hy227; have H' := Aside0.mk H; clear H
           try go_wp2
           replace HO_201001 := Aside0.mk (Kd.R_drew HO_201001.out); replace HO_201002 := Aside0.mk (Kd.R_drew HO_201002.out); replace BK199 := Aside0.mk (blk_drew BK199.out); replace BK200 := Aside0.mk (blk_drew BK200.out); replace HI0 := Aside0.mk (IsS78.drew HI0.out); replace HK := Aside0.mk (keep_drew HK.out); replace HB := Aside0.mk (below_drew1 HB.out); refine start_ (n := 11) (S := fun w' => w'.cell? ⟨gb200, 0, none⟩ = some (.int .i64 0) ∧ w'.cell? ⟨gb200, 1, none⟩ = some (u201001) ∧ w'.cell? ⟨gb200, 2, none⟩ = some (u201002)) (ds := [10]) #[false, false, false, false, false, false, false, false, false, false, false] (by kernel_rfl) rfl rfl ⟨(blk_cell BK200.out 0).trans rfl, (blk_cell BK200.out 1).trans rfl, (blk_cell BK200.out 2).trans rfl⟩ (fun hHeld => ?_); refine with_tabW trustquorummake_trust.tab12 trustquorummake_trust.bits12 (fun HT_ HW_ => ?_); generalize wr.drew = w34 at HO_201001 HO_201002 BK199 BK200 HI0 HK HB hHeld ⊢; refine pure_ (i := 0) (N := some 42) (v := ?_) (a' := ?_) #[true, false, false, false, false, false, false, false, false, false, false] rfl rfl (any_of HT_.out (by kernel_rfl)) (fun _ _ _ h => h) (Or.inl ⟨by rfl, ?_⟩) ?_ ?_; rotate_left
           ·
            intro w'; go_simp
            with_reducible rfl
           rotate_left
           ·
            simp only [Act.put, List.setIfInBounds_toArray, List.set_cons_zero, List.set_cons_succ, i64_w, i32_w]; rfl
           refine pure_ (i := 2) (N := some 44) (v := ?_) (a' := ?_) #[true, false, true, false, false, false, false, false, false, false, false] rfl rfl (any_of HT_.out (by kernel_rfl)) (fun _ _ _ h => h) (Or.inl ⟨by rfl, ?_⟩) ?_ ?_; rotate_left
           ·
            intro w'; go_simp
            with_reducible rfl
           rotate_left
           ·
            simp only [Act.put, List.setIfInBounds_toArray, List.set_cons_zero, List.set_cons_succ, i64_w, i32_w]; rfl
           refine pure_ (i := 3) (N := some 45) (v := ?_) (a' := ?_) #[true, false, true, true, false, false, false, false, false, false, false] rfl rfl (any_of HT_.out (by kernel_rfl)) (fun _ _ _ h => h) (Or.inl ⟨by rfl, ?_⟩) ?_ ?_; rotate_left
           ·
            intro w'; go_simp
            with_reducible rfl
           rotate_left
           ·
            simp only [Act.put, List.setIfInBounds_toArray, List.set_cons_zero, List.set_cons_succ, i64_w, i32_w]; rfl
           refine pure_ (i := 4) (N := some 46) (v := ?_) (a' := ?_) #[true, false, true, true, true, false, false, false, false, false, false] rfl rfl (any_of HT_.out (by kernel_rfl)) (fun _ _ _ h => h) (Or.inl ⟨by rfl, ?_⟩) ?_ ?_; rotate_left
           ·
            intro w'; go_simp
            with_reducible rfl
           rotate_left
           ·
            simp only [Act.put, List.setIfInBounds_toArray, List.set_cons_zero, List.set_cons_succ, i64_w, i32_w]; rfl
           refine pure_ (i := 5) (N := some 47) (v := ?_) (a' := ?_) #[true, false, true, true, true, true, false, false, false, false, false] rfl rfl (any_of HT_.out (by kernel_rfl)) (fun _ _ _ h => h) (Or.inl ⟨by rfl, ?_⟩) ?_ ?_; rotate_left
           ·
            intro w'; go_simp
            with_reducible rfl
           rotate_left
           ·
            simp only [Act.put, List.setIfInBounds_toArray, List.set_cons_zero, List.set_cons_succ, i64_w, i32_w]; rfl
           refine take_ (i := 1) (N := some 43) (v := ?_) (a' := ?_) #[true, true, true, true, true, true, false, false, false, false, false] rfl rfl (take_ofW HT_.out HW_.out (by kernel_rfl)) (fun _ _ _ h => h) (Or.inl ⟨by rfl, ?_⟩) hHeld ?_ ?_; rotate_left
           ·
            rintro w' ⟨s0, s1, s2⟩; go_simp
            with_reducible rfl
           rotate_left
           ·
            simp only [Act.put, List.setIfInBounds_toArray, List.set_cons_zero, List.set_cons_succ, i64_w, i32_w]; rfl
           refine one_ (i := 6) (N := some 48) #[true, true, true, true, true, true, true, false, false, false, false] rfl rfl (one_of HT_.out (by kernel_rfl)) (by decide) (fun K hK => ?_); refine goes_ Try.func62 (by kernel_rfl) rfl #[.pointer (some ⟨g, 0, none⟩), .int .i64 a1, .int .i64 (wrap64 (a2 - 1))] (by rfl) rfl rfl (by (try simp only [List.map_toArray, List.map_cons, List.map_nil]); first | done | rfl | (simp only [List.length_drop, List.length_take]; rfl)) ?_
           with_reducible refine (ih k2 (by have := HK1.out; have := HK2.out; omega) g s0_0 x1001_2 a1 (wrap64 (a2 - 1)) t219 t220 t223 t226 w0 _ ?side1 ?side2 A32.out).mono ?_
           (case side1 => exact HI0.out)
           (case side2 => exact HB.out)
           rintro e w35 ⟨v221, v224, rfl, ho0, ho1, hi, hb, hk⟩; refine ⟨_, rfl, ?_⟩; have HO222 := Aside0.mk (Kd.R_lower (Kd.R_new' ho0 (Kd.R_lt HO_201001.out)) (keep_size (w := w) (g := g) (row := none) HK.out)); have HO225 := Aside0.mk (Kd.R_lower (Kd.R_newB (Kd.R_newB (Kd.R_new' (Kd.R_new' ho1 (Kd.R_lt HO_201001.out)) (Kd.R_lt HO_201002.out)) BK199.out) BK200.out) (keep_size (w := w) (g := g) (row := none) HK.out)); replace HO_201001 := Aside0.mk (Kd.R_mono (Kd.R_told (Kd.R_oldK (IsS78.apart (show IsS78 w0 _ g s0_0 x1001_2 from by exact HI0.out) HO_201001.out (by decide)) hk) (Kd.R_base ho0)) (fun _ h_ => h_.1)); replace HO_201002 := Aside0.mk (Kd.R_mono (Kd.R_told (Kd.R_told (Kd.R_oldK (IsS78.apart (show IsS78 w0 _ g s0_0 x1001_2 from by exact HI0.out) HO_201002.out (by decide)) hk) (Kd.R_base ho0)) (Kd.R_base ho1)) (fun _ h_ => h_.1)); replace BK199 := Aside0.mk (KeepBut.blk hk BK199.out NB199_0.out (by simp)); replace BK200 := Aside0.mk (KeepBut.blk hk BK200.out NB200_0.out (by simp)); replace HK := Aside0.mk (KeepBut.trans HK.out hk (.inl rfl)); replace HB := Aside0.mk (hb); replace HI0 := Aside0.mk (hi); (try clear hb); (try clear hb2); (try clear hk); (try clear hi); (try clear ho0); (try clear ho1); obtain ⟨Ao37, co37, eo37⟩ := Kd.R_slice HO222.out; (first | subst eo37 | (injection eo37 with f1_ f2_ f3_; have f4_ := f1_.symm; have f5_ := f3_.symm; clear f1_ f2_ f3_; subst f4_; subst f5_)); obtain ⟨Ao38, co38, eo38⟩ := Kd.R_slice HO225.out
           (first | subst eo38 | (injection eo38 with f1_ f2_ f3_; have f4_ := f1_.symm; have f5_ := f3_.symm; clear f1_ f2_ f3_; subst f4_; subst f5_)); refine hK.out _ _ ⟨(blk_cell BK200.out 0).trans rfl, (blk_cell BK200.out 1).trans rfl, (blk_cell BK200.out 2).trans rfl⟩ (fun hHeld => ?_); clear hK K; refine norm_ (a' := ?_) ?_ ?_; rotate_left
           ·
            show Act.put _ (some 48) _ = _
            simp only [Act.put, List.setIfInBounds_toArray, List.set_cons_zero, List.set_cons_succ, i64_w, i32_w]; rfl
           refine one_ (i := 7) (N := some 49) #[true, true, true, true, true, true, true, true, false, false, false] rfl rfl (one_of HT_.out (by kernel_rfl)) (by decide) (fun K hK => ?_); refine value_ (w1 := ?_) (v := ?_) (by rfl) rfl ?_ ?_; rotate_left 2
           ·
            go_simp
            constructor
            ·
             rfl
            ·
             rfl
           refine hK.out _ _ ⟨(blk_cell (blk_alloc BK200.out _) 0).trans rfl, (blk_cell (blk_alloc BK200.out _) 1).trans rfl, (blk_cell (blk_alloc BK200.out _) 2).trans rfl⟩ (fun hHeld => ?_); clear hK K; refine norm_ (a' := ?_) ?_ ?_; rotate_left
           ·
            show Act.put _ (some 49) _ = _
            simp only [Act.put, List.setIfInBounds_toArray, List.set_cons_zero, List.set_cons_succ, i64_w, i32_w]; rfl
           refine one_ (i := 8) (N := some 50) #[true, true, true, true, true, true, true, true, true, false, false] rfl rfl (one_of HT_.out (by kernel_rfl)) (by decide) (fun K hK => ?_); refine Kd.R_append_step k48 w.heap.size (by rfl) (.tmp 43) (.tmp 49) 46 48 (.agg #[(.int .i64 0), (.slice none 0 0), (.slice none 0 0)]) 56 rfl Try.underlying46 info48 rfl (by decide) (by omega) u201002 x201002_2 (⟨t219, t220, t223⟩ : S48) [.int .i64 t219, .slice Ao37 t220.length co37, .slice Ao38 t223.length co38] (fun k_ => some k_ ≠ (u201001 : Value).ownBlock ∧ k_ ≠ gb199 ∧ k_ ≠ gb200) (fun k_ => ((fun k_ => some k_ ≠ (u201001 : Value).ownBlock ∧ k_ ≠ gb199 ∧ k_ ≠ gb200)) k_ ∧ some k_ ≠ (u201002 : Value).ownBlock) rfl rfl ?aP (fun _ hk => hk) ?aF ?aO (Below.refl _ _) ?aS ?aL ?_
           (case aP => exact k48_mkM _ _ _ (⟨t219, t220, t223⟩ : S48) (Kd.R_mono (Kd.R_types (Kd.R_types (Kd.R_apart' (HO222.out) (Kd.R_typed HO_201002.out) (by decide)) BK199.out (by decide)) BK200.out (by decide)) (fun k_ hk => ⟨⟨hk.1.1.1.2, ⟨hk.1.2, hk.2⟩⟩, hk.1.1.2⟩)) (Kd.R_mono (HO225.out) (fun k_ hk => ⟨⟨hk.1.1.1.2, ⟨hk.1.2, hk.2⟩⟩, hk.1.1.2⟩)))
           (case aF => exact (fun k_ hk => ⟨Kd.fresh' (Kd.R_lt HO_201001.out) k_ hk, Kd.freshB BK199.out k_ hk, Kd.freshB BK200.out k_ hk⟩))
           (case aO => exact (by exact Kd.R_mono HO_201002.out (fun _ hk => ⟨hk.1.1.1, ⟨hk.1.1.2.1, hk.1.1.2.2⟩⟩)))
           (case aS => exact (keep_size (w := w) (g := g) (row := none) HK.out))
           (case aL => have := LMc33.out; omega)
           intro v228 w36 ho hb hg hat; rw [← Ny227.out] at ho; replace HO_201001 := Aside0.mk (Kd.R_over' HO_201001.out (Kd.R_typed HO_201002.out) (by decide) hg); replace BK199 := Aside0.mk (blk_grown BK199.out hg (Kd.R_away HO_201002.out (fun _ hk => hk.1.1.2.1))); replace BK200 := Aside0.mk (blk_grown BK200.out hg (Kd.R_away HO_201002.out (fun _ hk => hk.1.1.2.2))); replace HI0 := Aside0.mk (IsS78.grown HI0.out hg (IsS78.own_ne HI0.out HO_201002.out (by decide))); replace HB := Aside0.mk (below_weaken HB.out HL.out hb); replace HK := Aside0.mk (KeepBut.trans HK.out (KeepBut.of_grown hg g) (Kd.R_base2 HO_201002.out)); have HO229 := Aside0.mk (ho); clear HO_201002 HO222 HO225; clear ho hb hg hat; obtain ⟨Ao39, co39, eo39⟩ := Kd.R_slice HO229.out; (first | subst eo39 | (injection eo39 with f1_ f2_ f3_; have f4_ := f1_.symm; have f5_ := f3_.symm; clear f1_ f2_ f3_; subst f4_; subst f5_)); refine hK.out _ _ ⟨(blk_cell BK200.out 0).trans rfl, (blk_cell BK200.out 1).trans rfl, (blk_cell BK200.out 2).trans rfl⟩ (fun hHeld => ?_); clear hK K; refine norm_ (a' := ?_) ?_ ?_; rotate_left
           ·
            show Act.put _ (some 50) _ = _
            simp only [Act.put, List.setIfInBounds_toArray, List.set_cons_zero, List.set_cons_succ, i64_w, i32_w]; rfl
           refine pure_ (i := 9) (N := some 51) (v := ?_) (a' := ?_) #[true, true, true, true, true, true, true, true, true, true, false] rfl rfl (any_of HT_.out (by kernel_rfl)) (fun _ _ _ h => h) (Or.inl ⟨by rfl, ?_⟩) ?_ ?_; rotate_left
           ·
            intro w'; go_simp
            with_reducible rfl
           rotate_left
           ·
            simp only [Act.put, List.setIfInBounds_toArray, List.set_cons_zero, List.set_cons_succ, i64_w, i32_w]; rfl
           refine last_ (i := 10) (N := none) #[true, true, true, true, true, true, true, true, true, true, true] rfl rfl (one_of HT_.out (by kernel_rfl)) (by decide) (fun K hK => ?_); have hs40 : w36.cell? ⟨gb200, 2, none⟩ = some (u201002) := (blk_cell BK200.out 2).trans rfl; have hfs40 := blk_frozen BK200.out 2; have hns40_0 := NB199_200.out; have hms40_0 := NB200_199.out; refine skip_ (w1 := ?_) (by rfl) rfl ?_ ?_; rotate_left
           ·
            go_simp; rfl
           refine hK.out _ _ ?_; clear hK K; refine done_ (done_of HT_.out (by kernel_rfl)) ?_
           try go_wp2
           go_roundg k2
           case measure => have := HK1.out; have := HK2.out; omega
           case rel => exact ⟨(wrap64 (x11_2 - 1)), (t226), (y227), (.slice Ao39 y227.length co39), (by first | rfl | (simp; done) | (simp [*]; done) | (refine congrArg (Value.int .i64) ?_; unfold wrap64; omega)), H', ⟨by have := HK1.out; have := HK2.out; omega⟩, ⟨by (with_reducible repeat (first | apply Kd.R_alloc | apply Kd.R_drewN | apply Kd.R_drew)); exact Kd.R_mono (Kd.R_far (p := ⟨gb200, 2, none⟩) (Kd.R_types HO_201001.out BK200.out (by decide)) (fun _ hk => hk.2) (.slice Ao39 y227.length co39)) (fun _ hk => trivial)⟩, ⟨by (with_reducible repeat (first | apply Kd.R_alloc | apply Kd.R_drewN | apply Kd.R_drew)); exact Kd.R_mono (Kd.R_far (p := ⟨gb200, 2, none⟩) (Kd.R_mono HO229.out (fun k_ hk => (⟨hk, hk.2.2⟩ : _ ∧ k_ ≠ gb200))) (fun _ hk => hk.2) (.slice Ao39 y227.length co39)) (fun _ hk => ⟨hk.1.1, ⟨hk.1.2.1, hk.1.2.2⟩⟩)⟩, ⟨by (with_reducible repeat (first | refine blk_drewN ?_ _ | refine blk_drew ?_ | refine blk_alloc ?_ _)); refine blk_far ?_ NB199_200.out _; (with_reducible repeat (first | refine blk_drewN ?_ _ | refine blk_drew ?_ | refine blk_alloc ?_ _)); exact BK199.out⟩, ⟨by (with_reducible repeat (first | refine blk_drewN ?_ _ | refine blk_drew ?_ | refine blk_alloc ?_ _)); refine blk_put (cs := #[.int .i64 0, u201001, u201002]) ?_ 2 _ rfl; (with_reducible repeat (first | refine blk_drewN ?_ _ | refine blk_drew ?_ | refine blk_alloc ?_ _)); exact BK200.out⟩, ⟨by repeat (first | (with_reducible first | exact HI0.out | apply IsS78.alloc | apply IsS78.drewN | apply IsS78.drew | apply IsS78.set_1 | refine IsS78.far ?_ NB0_199.out _ | refine IsS78.far ?_ NB0_200.out _) | exact HI0.out)⟩, ⟨by repeat (first | (with_reducible first | exact HK.out | apply KeepBut.set_ | apply keep_drewN | apply keep_drew | apply keep_alloc | refine keep_far ?_ GW199.out _ | refine keep_far ?_ GW200.out _) | exact HK.out)⟩, ⟨by repeat (first | (with_reducible first | exact HB.out | apply below_alloc | apply pw_below_drewN | apply below_drew1 | refine below_set ?_ (IsS78.ge HI0.out) | refine below_set ?_ GE199.out | refine below_set ?_ GE200.out) | exact HB.out)⟩⟩
          ·
           rw [if_neg c33] at H; exact absurd H (by simp)
         ·
          rw [if_neg c31] at H; have c31b0 : decide (0 < x11_2) = false := decide_eq_false c31; clear c31
          by_cases c41 : (x201002_2.length : Int) > 0
          ·
           rw [if_pos c41] at H; have c41b0 : decide (0 < (x201002_2.length : Int)) = true := decide_eq_true c41; have c41b1 : decide (0 < x201002_2.length) = true := decide_eq_true (by omega); clear c41; replace H := Option.bind_eq_some_iff.mp H; obtain ⟨⟨t230, t231⟩, A420, H⟩ := H; replace H : (if t230 = 0 then ((trustquorummake_Tape_Range.f s0_0 t231 1 (wrap64 ((x201002_2.length : Int)))).bind fun bt232 => (some (bt232.1, ([] : List Int), x201002_2, bt232.2))) else ((trustquorummake_Tape_Range.f s0_0 t231 1 (wrap64 ((x201001_1.length : Int) + (x201002_2.length : Int)))).bind fun bt234 => (some (bt234.1, x201001_1, x201002_2, bt234.2)))) = some (r1, r2, r3, r4) := H; have A42 := Aside0.mk A420; clear A420
           by_cases c43 : t230 = 0
           ·
            rw [if_pos c43] at H; have c43b0 : (t230 == 0) = true := beq_iff_eq.mpr c43; have c43b1 : (t230 != 0) = false := bne_eq_false_iff_eq.mpr c43; clear c43; replace H := Option.bind_eq_some_iff.mp H; obtain ⟨⟨t232, t233⟩, A440, H⟩ := H; replace H : (some (t232, ([] : List Int), x201002_2, t233)) = some (r1, r2, r3, r4) := H; have A44 := Aside0.mk A440; clear A440; simp only [Option.some.injEq, Prod.mk.injEq] at H; obtain ⟨rfl, rfl, rfl, rfl⟩ := H; have hnb45 := NB200_199.out; have hnc45 := NB199_200.out; have hnb46 := NB200_0.out; have hnc46 := NB0_200.out; obtain ⟨hcz47_0, hcz47_1, hcz47_2, hfz47_0, hfz47_1, hfz47_2⟩ := blkC3 BK200.out; obtain ⟨Ao48, co48, eo48⟩ := Kd.R_slice HO_201002.out; subst eo48
            go_wp2_with (first | (go_at_call 10; (with_reducible refine (trustquorummake_Tape_N.calls g s0_0 x1001_2 3 t230 t231 w0 _ ?side1 ?side2 A42.out).mono ?_); (case side1 => exact HI0.out); (case side2 => exact HB.out); rintro e w49 ⟨rfl, hi, hb, hk⟩; replace HO_201001 := Aside0.mk (Kd.R_mono (Kd.R_keep (IsS78.apart (show IsS78 w0 _ g s0_0 x1001_2 from by exact HI0.out) HO_201001.out (by decide)) hk (fun _ h => h.2)) (fun _ h => h.1)); replace HO_201002 := Aside0.mk (Kd.R_mono (Kd.R_keep (IsS78.apart (show IsS78 w0 _ g s0_0 x1001_2 from by exact HI0.out) HO_201002.out (by decide)) hk (fun _ h => h.2)) (fun _ h => h.1)); replace BK199 := Aside0.mk (KeepBut.blk hk BK199.out NB199_0.out (by simp)); replace BK200 := Aside0.mk (KeepBut.blk hk BK200.out NB200_0.out (by simp)); replace HK := Aside0.mk (KeepBut.trans HK.out hk (.inl rfl)); replace HB := Aside0.mk (hb); replace HI0 := Aside0.mk (hi); (try clear hb); (try clear hb2); (try clear hk); (try clear hi); obtain ⟨hcz50_0, hcz50_1, hcz50_2, hfz50_0, hfz50_1, hfz50_2⟩ := blkC3 BK200.out) | ((with_reducible refine gate_callee (f := 44) rfl ?_); refine goesL_ (some 70) rfl rfl Try.func44 (by kernel_rfl) rfl #[.pointer (some ⟨g, 0, none⟩), .int .i64 1, .int .i64 (wrap64 ((x201002_2.length : Int)))] rfl (by (try simp only [List.map_toArray, List.map_cons, List.map_nil]); first | done | rfl | (simp only [List.length_drop, List.length_take]; rfl)) ?_; (with_reducible refine (trustquorummake_Tape_Range.calls g s0_0 t231 1 (wrap64 ((x201002_2.length : Int))) t232 t233 w0 _ ?side1 ?side2 A44.out).mono ?_); (case side1 => repeat (first | (with_reducible first | exact HI0.out | apply IsS78.alloc | apply IsS78.drewN | apply IsS78.drew | apply IsS78.set_1 | refine IsS78.far ?_ NB0_199.out _ | refine IsS78.far ?_ NB0_200.out _) | exact HI0.out)); (case side2 => repeat (first | (with_reducible first | exact HB.out | apply below_alloc | apply pw_below_drewN | apply below_drew1 | refine below_set ?_ (IsS78.ge HI0.out) | refine below_set ?_ GE199.out | refine below_set ?_ GE200.out) | exact HB.out)); rintro e w51 ⟨rfl, hi, hb, hk⟩; refine ⟨_, rfl, ?_⟩; replace HO_201001 := Aside0.mk (Kd.R_mono (Kd.R_keep (IsS78.apart (show IsS78 w0 _ g s0_0 t231 from by repeat (first | (with_reducible first | exact HI0.out | apply IsS78.alloc | apply IsS78.drewN | apply IsS78.drew | apply IsS78.set_1 | refine IsS78.far ?_ NB0_199.out _ | refine IsS78.far ?_ NB0_200.out _) | exact HI0.out)) (by (with_reducible repeat (first | apply Kd.R_alloc | apply Kd.R_drewN | apply Kd.R_drew)); exact (Kd.R_mono (Kd.R_far (p := ⟨gb200, 1, none⟩) (Kd.R_types HO_201001.out BK200.out (by decide)) (fun _ hk => hk.2) (.slice none 0 0)) (fun _ h_ => h_.1))) (by decide)) hk (fun _ h => h.2)) (fun _ h => h.1)); replace HO_201002 := Aside0.mk (Kd.R_mono (Kd.R_keep (IsS78.apart (show IsS78 w0 _ g s0_0 t231 from by repeat (first | (with_reducible first | exact HI0.out | apply IsS78.alloc | apply IsS78.drewN | apply IsS78.drew | apply IsS78.set_1 | refine IsS78.far ?_ NB0_199.out _ | refine IsS78.far ?_ NB0_200.out _) | exact HI0.out)) (by (with_reducible repeat (first | apply Kd.R_alloc | apply Kd.R_drewN | apply Kd.R_drew)); exact (Kd.R_mono (Kd.R_far (p := ⟨gb200, 1, none⟩) (Kd.R_mono HO_201002.out (fun k_ hk => (⟨hk, hk.2.2⟩ : _ ∧ k_ ≠ gb200))) (fun _ hk => hk.2) (.slice none 0 0)) (fun _ h_ => h_.1))) (by decide)) hk (fun _ h => h.2)) (fun _ h => h.1)); replace BK199 := Aside0.mk (KeepBut.blk hk (g' := gb199) (o := .cells #[.int .i64 0, .slice none 0 0, .slice none 0 0] 48 (0, 0)) (by (with_reducible repeat (first | refine blk_drewN ?_ _ | refine blk_drew ?_ | refine blk_alloc ?_ _)); refine blk_far ?_ NB199_200.out _; (with_reducible repeat (first | refine blk_drewN ?_ _ | refine blk_drew ?_ | refine blk_alloc ?_ _)); exact BK199.out) NB199_0.out (by simp)); replace BK200 := Aside0.mk (KeepBut.blk hk (g' := gb200) (o := .cells #[.int .i64 0, .slice none 0 0, .slice Ao48 x201002_2.length co48] 48 (0, 0)) (by (with_reducible repeat (first | refine blk_drewN ?_ _ | refine blk_drew ?_ | refine blk_alloc ?_ _)); refine blk_put (cs := #[.int .i64 0, u201001, .slice Ao48 x201002_2.length co48]) ?_ 1 _ rfl; (with_reducible repeat (first | refine blk_drewN ?_ _ | refine blk_drew ?_ | refine blk_alloc ?_ _)); exact BK200.out) NB200_0.out (by simp)); replace HK := Aside0.mk (KeepBut.trans (by repeat (first | (with_reducible first | exact HK.out | apply KeepBut.set_ | apply keep_drewN | apply keep_drew | apply keep_alloc | refine keep_far ?_ GW199.out _ | refine keep_far ?_ GW200.out _) | exact HK.out)) hk (.inl rfl)); replace HB := Aside0.mk (hb); replace HI0 := Aside0.mk (hi); (try clear hb); (try clear hb2); (try clear hk); (try clear hi); obtain ⟨hcz52_0, hcz52_1, hcz52_2, hfz52_0, hfz52_1, hfz52_2⟩ := blkC3 BK200.out; have hnb53 := NB199_0.out; have hnc53 := NB0_199.out; have hcz54_0 : w51.cell? ⟨gb199, 0, none⟩ = some (.int .i64 0) := (blk_cell BK199.out 0).trans rfl; have hcz54_1 : w51.cell? ⟨gb199, 1, none⟩ = some (.slice none 0 0) := (blk_cell BK199.out 1).trans rfl; have hcz54_2 : w51.cell? ⟨gb199, 2, none⟩ = some (.slice none 0 0) := (blk_cell BK199.out 2).trans rfl; have hfz54_0 := blk_frozen BK199.out 0; have hfz54_1 := blk_frozen BK199.out 1; have hfz54_2 := blk_frozen BK199.out 2))
            refine bodyPost_ret (results_cell_row rfl _ _ gb199 48 #[.int .i64 t232, .slice none 0 0, .slice Ao48 x201002_2.length co48] (0, 0) _ rfl (by (with_reducible repeat (first | refine blk_drewN ?_ _ | refine blk_drew ?_ | refine blk_alloc ?_ _)); refine blk_put (cs := #[.int .i64 t232, .slice none 0 0, .slice none 0 0]) ?_ 2 _ rfl; (with_reducible repeat (first | refine blk_drewN ?_ _ | refine blk_drew ?_ | refine blk_alloc ?_ _)); refine blk_put (cs := #[.int .i64 t232, .slice none 0 0, .slice none 0 0]) ?_ 1 _ rfl; (with_reducible repeat (first | refine blk_drewN ?_ _ | refine blk_drew ?_ | refine blk_alloc ?_ _)); refine blk_put (cs := #[.int .i64 0, .slice none 0 0, .slice none 0 0]) ?_ 0 _ rfl; (with_reducible repeat (first | refine blk_drewN ?_ _ | refine blk_drew ?_ | refine blk_alloc ?_ _)); refine blk_far ?_ NB199_200.out _; (with_reducible repeat (first | refine blk_drewN ?_ _ | refine blk_drew ?_ | refine blk_alloc ?_ _)); exact BK199.out) Try.underlying48 rfl (by kernel_rfl)) rfl ?_
            exact ⟨_, _, by first | rfl | (simp [errW_none, errW_some] <;> rfl) | (simp only [← hji5]; first | rfl | (simp [errW_none, errW_some] <;> rfl)) | (simp [*, errW_none, errW_some] <;> rfl), by first | exact Kd.R_nil _ _ _ _ _ | exact Kd.N_nil _ _ _ _ _ | exact Kd.V_nil _ _ _ _ _ | exact Kd.Q_nil _ _ _ _ _ | exact Kd.S_nil _ _ _ _ _, by (with_reducible repeat (first | apply Kd.R_alloc | apply Kd.R_drewN | apply Kd.R_drew)); exact Kd.R_mono (Kd.R_far (p := ⟨gb199, 2, none⟩) (Kd.R_far (p := ⟨gb199, 1, none⟩) (Kd.R_far (p := ⟨gb199, 0, none⟩) (Kd.R_far (p := ⟨gb200, 0, none⟩) (Kd.R_mono (Kd.R_mono HO_201002.out (fun k_ hk => (⟨hk, hk.2.2⟩ : _ ∧ k_ ≠ gb200))) (fun k_ hk => (⟨hk, hk.1.2.1⟩ : _ ∧ k_ ≠ gb199))) (fun _ hk => hk.1.2) (.int .i64 t232)) (fun _ hk => hk.2) (.int .i64 t232)) (fun _ hk => hk.2) (.slice none 0 0)) (fun _ hk => hk.2) (.slice Ao48 x201002_2.length co48)) (fun _ hk => (by simp [Value.ownBlock])), by repeat (first | (with_reducible first | exact HI0.out | apply IsS78.alloc | apply IsS78.drewN | apply IsS78.drew | apply IsS78.set_1 | refine IsS78.far ?_ NB0_199.out _ | refine IsS78.far ?_ NB0_200.out _) | exact HI0.out), by repeat (first | (with_reducible first | exact HB.out | apply below_alloc | apply pw_below_drewN | apply below_drew1 | refine below_set ?_ (IsS78.ge HI0.out) | refine below_set ?_ GE199.out | refine below_set ?_ GE200.out) | exact HB.out), by repeat (first | (with_reducible first | exact HK.out | apply KeepBut.set_ | apply keep_drewN | apply keep_drew | apply keep_alloc | refine keep_far ?_ GW199.out _ | refine keep_far ?_ GW200.out _) | exact HK.out)⟩
           ·
            rw [if_neg c43] at H; have c43b0 : (t230 == 0) = false := beq_eq_false_iff_ne.mpr c43; have c43b1 : (t230 != 0) = true := bne_iff_ne.mpr c43; replace H := Option.bind_eq_some_iff.mp H; obtain ⟨⟨t234, t235⟩, A550, H⟩ := H; replace H : (some (t234, x201001_1, x201002_2, t235)) = some (r1, r2, r3, r4) := H; have A55 := Aside0.mk A550; clear A550; simp only [Option.some.injEq, Prod.mk.injEq] at H; obtain ⟨rfl, rfl, rfl, rfl⟩ := H; have hnb56 := NB200_199.out; have hnc56 := NB199_200.out; have hnb57 := NB200_0.out; have hnc57 := NB0_200.out; obtain ⟨hcz58_0, hcz58_1, hcz58_2, hfz58_0, hfz58_1, hfz58_2⟩ := blkC3 BK200.out; obtain ⟨Ao59, co59, eo59⟩ := Kd.R_slice HO_201002.out; subst eo59
            go_wp2_with (first | (go_at_call 10; (with_reducible refine (trustquorummake_Tape_N.calls g s0_0 x1001_2 3 t230 t231 w0 _ ?side1 ?side2 A42.out).mono ?_); (case side1 => exact HI0.out); (case side2 => exact HB.out); rintro e w60 ⟨rfl, hi, hb, hk⟩; replace HO_201001 := Aside0.mk (Kd.R_mono (Kd.R_keep (IsS78.apart (show IsS78 w0 _ g s0_0 x1001_2 from by exact HI0.out) HO_201001.out (by decide)) hk (fun _ h => h.2)) (fun _ h => h.1)); replace HO_201002 := Aside0.mk (Kd.R_mono (Kd.R_keep (IsS78.apart (show IsS78 w0 _ g s0_0 x1001_2 from by exact HI0.out) HO_201002.out (by decide)) hk (fun _ h => h.2)) (fun _ h => h.1)); replace BK199 := Aside0.mk (KeepBut.blk hk BK199.out NB199_0.out (by simp)); replace BK200 := Aside0.mk (KeepBut.blk hk BK200.out NB200_0.out (by simp)); replace HK := Aside0.mk (KeepBut.trans HK.out hk (.inl rfl)); replace HB := Aside0.mk (hb); replace HI0 := Aside0.mk (hi); (try clear hb); (try clear hb2); (try clear hk); (try clear hi); obtain ⟨hcz61_0, hcz61_1, hcz61_2, hfz61_0, hfz61_1, hfz61_2⟩ := blkC3 BK200.out; obtain ⟨Ao62, co62, eo62⟩ := Kd.R_slice HO_201001.out; subst eo62) | ((with_reducible refine gate_callee (f := 44) rfl ?_); refine goesL_ (some 70) rfl rfl Try.func44 (by kernel_rfl) rfl #[.pointer (some ⟨g, 0, none⟩), .int .i64 1, .int .i64 (wrap64 ((x201001_1.length : Int) + (x201002_2.length : Int)))] rfl (by (try simp only [List.map_toArray, List.map_cons, List.map_nil]); first | done | rfl | (simp only [List.length_drop, List.length_take]; rfl)) ?_; (with_reducible refine (trustquorummake_Tape_Range.calls g s0_0 t231 1 (wrap64 ((x201001_1.length : Int) + (x201002_2.length : Int))) t234 t235 w0 _ ?side1 ?side2 A55.out).mono ?_); (case side1 => exact HI0.out); (case side2 => exact HB.out); rintro e w63 ⟨rfl, hi, hb, hk⟩; refine ⟨_, rfl, ?_⟩; replace HO_201001 := Aside0.mk (Kd.R_mono (Kd.R_keep (IsS78.apart (show IsS78 w0 _ g s0_0 t231 from by exact HI0.out) HO_201001.out (by decide)) hk (fun _ h => h.2)) (fun _ h => h.1)); replace HO_201002 := Aside0.mk (Kd.R_mono (Kd.R_keep (IsS78.apart (show IsS78 w0 _ g s0_0 t231 from by exact HI0.out) HO_201002.out (by decide)) hk (fun _ h => h.2)) (fun _ h => h.1)); replace BK199 := Aside0.mk (KeepBut.blk hk BK199.out NB199_0.out (by simp)); replace BK200 := Aside0.mk (KeepBut.blk hk BK200.out NB200_0.out (by simp)); replace HK := Aside0.mk (KeepBut.trans HK.out hk (.inl rfl)); replace HB := Aside0.mk (hb); replace HI0 := Aside0.mk (hi); (try clear hb); (try clear hb2); (try clear hk); (try clear hi); obtain ⟨hcz64_0, hcz64_1, hcz64_2, hfz64_0, hfz64_1, hfz64_2⟩ := blkC3 BK200.out; have hnb65 := NB199_0.out; have hnc65 := NB0_199.out; have hcz66_0 : w63.cell? ⟨gb199, 0, none⟩ = some (.int .i64 0) := (blk_cell BK199.out 0).trans rfl; have hcz66_1 : w63.cell? ⟨gb199, 1, none⟩ = some (.slice none 0 0) := (blk_cell BK199.out 1).trans rfl; have hcz66_2 : w63.cell? ⟨gb199, 2, none⟩ = some (.slice none 0 0) := (blk_cell BK199.out 2).trans rfl; have hfz66_0 := blk_frozen BK199.out 0; have hfz66_1 := blk_frozen BK199.out 1; have hfz66_2 := blk_frozen BK199.out 2))
            refine bodyPost_ret (results_cell_row rfl _ _ gb199 48 #[.int .i64 t234, .slice Ao62 x201001_1.length co62, .slice Ao59 x201002_2.length co59] (0, 0) _ rfl (by (with_reducible repeat (first | refine blk_drewN ?_ _ | refine blk_drew ?_ | refine blk_alloc ?_ _)); refine blk_put (cs := #[.int .i64 t234, .slice Ao62 x201001_1.length co62, .slice none 0 0]) ?_ 2 _ rfl; (with_reducible repeat (first | refine blk_drewN ?_ _ | refine blk_drew ?_ | refine blk_alloc ?_ _)); refine blk_put (cs := #[.int .i64 t234, .slice none 0 0, .slice none 0 0]) ?_ 1 _ rfl; (with_reducible repeat (first | refine blk_drewN ?_ _ | refine blk_drew ?_ | refine blk_alloc ?_ _)); refine blk_put (cs := #[.int .i64 0, .slice none 0 0, .slice none 0 0]) ?_ 0 _ rfl; (with_reducible repeat (first | refine blk_drewN ?_ _ | refine blk_drew ?_ | refine blk_alloc ?_ _)); refine blk_far ?_ NB199_200.out _; (with_reducible repeat (first | refine blk_drewN ?_ _ | refine blk_drew ?_ | refine blk_alloc ?_ _)); exact BK199.out) Try.underlying48 rfl (by kernel_rfl)) rfl ?_
            exact ⟨_, _, by first | rfl | (simp [errW_none, errW_some] <;> rfl) | (simp only [← hji5]; first | rfl | (simp [errW_none, errW_some] <;> rfl)) | (simp [*, errW_none, errW_some] <;> rfl), by (with_reducible repeat (first | apply Kd.R_alloc | apply Kd.R_drewN | apply Kd.R_drew)); exact Kd.R_mono (Kd.R_far (p := ⟨gb199, 2, none⟩) (Kd.R_far (p := ⟨gb199, 1, none⟩) (Kd.R_far (p := ⟨gb199, 0, none⟩) (Kd.R_far (p := ⟨gb200, 0, none⟩) (Kd.R_types (Kd.R_types HO_201001.out BK200.out (by decide)) BK199.out (by decide)) (fun _ hk => hk.1.2) (.int .i64 t234)) (fun _ hk => hk.2) (.int .i64 t234)) (fun _ hk => hk.2) (.slice Ao62 x201001_1.length co62)) (fun _ hk => hk.2) (.slice Ao59 x201002_2.length co59)) (fun _ hk => trivial), by (with_reducible repeat (first | apply Kd.R_alloc | apply Kd.R_drewN | apply Kd.R_drew)); exact Kd.R_mono (Kd.R_far (p := ⟨gb199, 2, none⟩) (Kd.R_far (p := ⟨gb199, 1, none⟩) (Kd.R_far (p := ⟨gb199, 0, none⟩) (Kd.R_far (p := ⟨gb200, 0, none⟩) (Kd.R_mono (Kd.R_mono HO_201002.out (fun k_ hk => (⟨hk, hk.2.2⟩ : _ ∧ k_ ≠ gb200))) (fun k_ hk => (⟨hk, hk.1.2.1⟩ : _ ∧ k_ ≠ gb199))) (fun _ hk => hk.1.2) (.int .i64 t234)) (fun _ hk => hk.2) (.int .i64 t234)) (fun _ hk => hk.2) (.slice Ao62 x201001_1.length co62)) (fun _ hk => hk.2) (.slice Ao59 x201002_2.length co59)) (fun _ hk => hk.1.1.1), by repeat (first | (with_reducible first | exact HI0.out | apply IsS78.alloc | apply IsS78.drewN | apply IsS78.drew | apply IsS78.set_1 | refine IsS78.far ?_ NB0_199.out _ | refine IsS78.far ?_ NB0_200.out _) | exact HI0.out), by repeat (first | (with_reducible first | exact HB.out | apply below_alloc | apply pw_below_drewN | apply below_drew1 | refine below_set ?_ (IsS78.ge HI0.out) | refine below_set ?_ GE199.out | refine below_set ?_ GE200.out) | exact HB.out), by repeat (first | (with_reducible first | exact HK.out | apply KeepBut.set_ | apply keep_drewN | apply keep_drew | apply keep_alloc | refine keep_far ?_ GW199.out _ | refine keep_far ?_ GW200.out _) | exact HK.out)⟩
          ·
           rw [if_neg c41] at H; have c41b0 : decide (0 < (x201002_2.length : Int)) = false := decide_eq_false c41; have c41b1 : decide (0 < x201002_2.length) = false := decide_eq_false (by omega); clear c41; replace H := Option.bind_eq_some_iff.mp H; obtain ⟨⟨t236, t237⟩, A670, H⟩ := H; replace H : (some (t236, x201001_1, x201002_2, t237)) = some (r1, r2, r3, r4) := H; have A67 := Aside0.mk A670; clear A670; simp only [Option.some.injEq, Prod.mk.injEq] at H; obtain ⟨rfl, rfl, rfl, rfl⟩ := H; have hnb68 := NB200_199.out; have hnc68 := NB199_200.out; have hnb69 := NB200_0.out; have hnc69 := NB0_200.out; obtain ⟨hcz70_0, hcz70_1, hcz70_2, hfz70_0, hfz70_1, hfz70_2⟩ := blkC3 BK200.out; obtain ⟨Ao71, co71, eo71⟩ := Kd.R_slice HO_201002.out; subst eo71; obtain ⟨Ao72, co72, eo72⟩ := Kd.R_slice HO_201001.out; subst eo72
           go_wp2_with (first | ((with_reducible refine gate_callee (f := 44) rfl ?_); refine goesL_ (some 70) rfl rfl Try.func44 (by kernel_rfl) rfl #[.pointer (some ⟨g, 0, none⟩), .int .i64 1, .int .i64 (wrap64 ((x201001_1.length : Int) + (x201002_2.length : Int)))] rfl (by (try simp only [List.map_toArray, List.map_cons, List.map_nil]); first | done | rfl | (simp only [List.length_drop, List.length_take]; rfl)) ?_; (with_reducible refine (trustquorummake_Tape_Range.calls g s0_0 x1001_2 1 (wrap64 ((x201001_1.length : Int) + (x201002_2.length : Int))) t236 t237 w0 _ ?side1 ?side2 A67.out).mono ?_); (case side1 => exact HI0.out); (case side2 => exact HB.out); rintro e w73 ⟨rfl, hi, hb, hk⟩; refine ⟨_, rfl, ?_⟩; replace HO_201001 := Aside0.mk (Kd.R_mono (Kd.R_keep (IsS78.apart (show IsS78 w0 _ g s0_0 x1001_2 from by exact HI0.out) HO_201001.out (by decide)) hk (fun _ h => h.2)) (fun _ h => h.1)); replace HO_201002 := Aside0.mk (Kd.R_mono (Kd.R_keep (IsS78.apart (show IsS78 w0 _ g s0_0 x1001_2 from by exact HI0.out) HO_201002.out (by decide)) hk (fun _ h => h.2)) (fun _ h => h.1)); replace BK199 := Aside0.mk (KeepBut.blk hk BK199.out NB199_0.out (by simp)); replace BK200 := Aside0.mk (KeepBut.blk hk BK200.out NB200_0.out (by simp)); replace HK := Aside0.mk (KeepBut.trans HK.out hk (.inl rfl)); replace HB := Aside0.mk (hb); replace HI0 := Aside0.mk (hi); (try clear hb); (try clear hb2); (try clear hk); (try clear hi); obtain ⟨hcz74_0, hcz74_1, hcz74_2, hfz74_0, hfz74_1, hfz74_2⟩ := blkC3 BK200.out; have hnb75 := NB199_0.out; have hnc75 := NB0_199.out; have hcz76_0 : w73.cell? ⟨gb199, 0, none⟩ = some (.int .i64 0) := (blk_cell BK199.out 0).trans rfl; have hcz76_1 : w73.cell? ⟨gb199, 1, none⟩ = some (.slice none 0 0) := (blk_cell BK199.out 1).trans rfl; have hcz76_2 : w73.cell? ⟨gb199, 2, none⟩ = some (.slice none 0 0) := (blk_cell BK199.out 2).trans rfl; have hfz76_0 := blk_frozen BK199.out 0; have hfz76_1 := blk_frozen BK199.out 1; have hfz76_2 := blk_frozen BK199.out 2))
           refine bodyPost_ret (results_cell_row rfl _ _ gb199 48 #[.int .i64 t236, .slice Ao72 x201001_1.length co72, .slice Ao71 x201002_2.length co71] (0, 0) _ rfl (by (with_reducible repeat (first | refine blk_drewN ?_ _ | refine blk_drew ?_ | refine blk_alloc ?_ _)); refine blk_put (cs := #[.int .i64 t236, .slice Ao72 x201001_1.length co72, .slice none 0 0]) ?_ 2 _ rfl; (with_reducible repeat (first | refine blk_drewN ?_ _ | refine blk_drew ?_ | refine blk_alloc ?_ _)); refine blk_put (cs := #[.int .i64 t236, .slice none 0 0, .slice none 0 0]) ?_ 1 _ rfl; (with_reducible repeat (first | refine blk_drewN ?_ _ | refine blk_drew ?_ | refine blk_alloc ?_ _)); refine blk_put (cs := #[.int .i64 0, .slice none 0 0, .slice none 0 0]) ?_ 0 _ rfl; (with_reducible repeat (first | refine blk_drewN ?_ _ | refine blk_drew ?_ | refine blk_alloc ?_ _)); refine blk_far ?_ NB199_200.out _; (with_reducible repeat (first | refine blk_drewN ?_ _ | refine blk_drew ?_ | refine blk_alloc ?_ _)); exact BK199.out) Try.underlying48 rfl (by kernel_rfl)) rfl ?_
           exact ⟨_, _, by first | rfl | (simp [errW_none, errW_some] <;> rfl) | (simp only [← hji5]; first | rfl | (simp [errW_none, errW_some] <;> rfl)) | (simp [*, errW_none, errW_some] <;> rfl), by (with_reducible repeat (first | apply Kd.R_alloc | apply Kd.R_drewN | apply Kd.R_drew)); exact Kd.R_mono (Kd.R_far (p := ⟨gb199, 2, none⟩) (Kd.R_far (p := ⟨gb199, 1, none⟩) (Kd.R_far (p := ⟨gb199, 0, none⟩) (Kd.R_far (p := ⟨gb200, 0, none⟩) (Kd.R_types (Kd.R_types HO_201001.out BK200.out (by decide)) BK199.out (by decide)) (fun _ hk => hk.1.2) (.int .i64 t236)) (fun _ hk => hk.2) (.int .i64 t236)) (fun _ hk => hk.2) (.slice Ao72 x201001_1.length co72)) (fun _ hk => hk.2) (.slice Ao71 x201002_2.length co71)) (fun _ hk => trivial), by (with_reducible repeat (first | apply Kd.R_alloc | apply Kd.R_drewN | apply Kd.R_drew)); exact Kd.R_mono (Kd.R_far (p := ⟨gb199, 2, none⟩) (Kd.R_far (p := ⟨gb199, 1, none⟩) (Kd.R_far (p := ⟨gb199, 0, none⟩) (Kd.R_far (p := ⟨gb200, 0, none⟩) (Kd.R_mono (Kd.R_mono HO_201002.out (fun k_ hk => (⟨hk, hk.2.2⟩ : _ ∧ k_ ≠ gb200))) (fun k_ hk => (⟨hk, hk.1.2.1⟩ : _ ∧ k_ ≠ gb199))) (fun _ hk => hk.1.2) (.int .i64 t236)) (fun _ hk => hk.2) (.int .i64 t236)) (fun _ hk => hk.2) (.slice Ao72 x201001_1.length co72)) (fun _ hk => hk.2) (.slice Ao71 x201002_2.length co71)) (fun _ hk => hk.1.1.1), by repeat (first | (with_reducible first | exact HI0.out | apply IsS78.alloc | apply IsS78.drewN | apply IsS78.drew | apply IsS78.set_1 | refine IsS78.far ?_ NB0_199.out _ | refine IsS78.far ?_ NB0_200.out _) | exact HI0.out), by repeat (first | (with_reducible first | exact HB.out | apply below_alloc | apply pw_below_drewN | apply below_drew1 | refine below_set ?_ (IsS78.ge HI0.out) | refine below_set ?_ GE199.out | refine below_set ?_ GE200.out) | exact HB.out), by repeat (first | (with_reducible first | exact HK.out | apply KeepBut.set_ | apply keep_drewN | apply keep_drew | apply keep_alloc | refine keep_far ?_ GW199.out _ | refine keep_far ?_ GW200.out _) | exact HK.out)⟩
      ·
       rw [if_neg c25] at H; have c25b0 : decide (1 < a2) = false := decide_eq_false c25; clear c25; replace H := Option.bind_eq_some_iff.mp H; obtain ⟨⟨t238, t239⟩, A770, H⟩ := H; replace H : (some (t238, x201001_1, ([] : List (S48)), t239)) = some (r1, r2, r3, r4) := H; have A77 := Aside0.mk A770; clear A770; simp only [Option.some.injEq, Prod.mk.injEq] at H; obtain ⟨rfl, rfl, rfl, rfl⟩ := H; have hnb78 := NB200_199.out; have hnc78 := NB199_200.out; have hnb79 := NB200_0.out; have hnc79 := NB0_200.out; obtain ⟨hcz80_0, hcz80_1, hcz80_2, hfz80_0, hfz80_1, hfz80_2⟩ := blkC3 BK200.out; obtain ⟨Ao81, co81, eo81⟩ := Kd.R_slice HO_201001.out; subst eo81
       go_wp2_with (first | ((with_reducible refine gate_callee (f := 44) rfl ?_); refine goesL_ (some 70) rfl rfl Try.func44 (by kernel_rfl) rfl #[.pointer (some ⟨g, 0, none⟩), .int .i64 1, .int .i64 (wrap64 ((x201001_1.length : Int)))] rfl (by (try simp only [List.map_toArray, List.map_cons, List.map_nil]); first | done | rfl | (simp only [List.length_drop, List.length_take]; rfl)) ?_; (with_reducible refine (trustquorummake_Tape_Range.calls g s0_0 t206 1 (wrap64 ((x201001_1.length : Int))) t238 t239 w0 _ ?side1 ?side2 A77.out).mono ?_); (case side1 => exact HI0.out); (case side2 => exact HB.out); rintro e w82 ⟨rfl, hi, hb, hk⟩; refine ⟨_, rfl, ?_⟩; replace HO_20 := Aside0.mk (Kd.R_mono (Kd.R_keep (IsS78.apart (show IsS78 w0 _ g s0_0 t206 from by exact HI0.out) HO_20.out (by decide)) hk (fun _ h => h.2)) (fun _ h => h.1)); replace HO_201001 := Aside0.mk (Kd.R_mono (Kd.R_keep (IsS78.apart (show IsS78 w0 _ g s0_0 t206 from by exact HI0.out) HO_201001.out (by decide)) hk (fun _ h => h.2)) (fun _ h => h.1)); replace BK199 := Aside0.mk (KeepBut.blk hk BK199.out NB199_0.out (by simp)); replace BK200 := Aside0.mk (KeepBut.blk hk BK200.out NB200_0.out (by simp)); replace HK := Aside0.mk (KeepBut.trans HK.out hk (.inl rfl)); replace HB := Aside0.mk (hb); replace HI0 := Aside0.mk (hi); (try clear hb); (try clear hb2); (try clear hk); (try clear hi); obtain ⟨hcz83_0, hcz83_1, hcz83_2, hfz83_0, hfz83_1, hfz83_2⟩ := blkC3 BK200.out; have hnb84 := NB199_0.out; have hnc84 := NB0_199.out; have hcz85_0 : w82.cell? ⟨gb199, 0, none⟩ = some (.int .i64 0) := (blk_cell BK199.out 0).trans rfl; have hcz85_1 : w82.cell? ⟨gb199, 1, none⟩ = some (.slice none 0 0) := (blk_cell BK199.out 1).trans rfl; have hcz85_2 : w82.cell? ⟨gb199, 2, none⟩ = some (.slice none 0 0) := (blk_cell BK199.out 2).trans rfl; have hfz85_0 := blk_frozen BK199.out 0; have hfz85_1 := blk_frozen BK199.out 1; have hfz85_2 := blk_frozen BK199.out 2))
       refine bodyPost_ret (results_cell_row rfl _ _ gb199 48 #[.int .i64 t238, .slice Ao81 x201001_1.length co81, .slice none 0 0] (0, 0) _ rfl (by (with_reducible repeat (first | refine blk_drewN ?_ _ | refine blk_drew ?_ | refine blk_alloc ?_ _)); refine blk_put (cs := #[.int .i64 t238, .slice Ao81 x201001_1.length co81, .slice none 0 0]) ?_ 2 _ rfl; (with_reducible repeat (first | refine blk_drewN ?_ _ | refine blk_drew ?_ | refine blk_alloc ?_ _)); refine blk_put (cs := #[.int .i64 t238, .slice none 0 0, .slice none 0 0]) ?_ 1 _ rfl; (with_reducible repeat (first | refine blk_drewN ?_ _ | refine blk_drew ?_ | refine blk_alloc ?_ _)); refine blk_put (cs := #[.int .i64 0, .slice none 0 0, .slice none 0 0]) ?_ 0 _ rfl; (with_reducible repeat (first | refine blk_drewN ?_ _ | refine blk_drew ?_ | refine blk_alloc ?_ _)); refine blk_far ?_ NB199_200.out _; (with_reducible repeat (first | refine blk_drewN ?_ _ | refine blk_drew ?_ | refine blk_alloc ?_ _)); exact BK199.out) Try.underlying48 rfl (by kernel_rfl)) rfl ?_
       exact ⟨_, _, by first | rfl | (simp [errW_none, errW_some] <;> rfl) | (simp only [← hji5]; first | rfl | (simp [errW_none, errW_some] <;> rfl)) | (simp [*, errW_none, errW_some] <;> rfl), by (with_reducible repeat (first | apply Kd.R_alloc | apply Kd.R_drewN | apply Kd.R_drew)); exact Kd.R_mono (Kd.R_far (p := ⟨gb199, 2, none⟩) (Kd.R_far (p := ⟨gb199, 1, none⟩) (Kd.R_far (p := ⟨gb199, 0, none⟩) (Kd.R_far (p := ⟨gb200, 0, none⟩) (Kd.R_types (Kd.R_types HO_201001.out BK200.out (by decide)) BK199.out (by decide)) (fun _ hk => hk.1.2) (.int .i64 t238)) (fun _ hk => hk.2) (.int .i64 t238)) (fun _ hk => hk.2) (.slice Ao81 x201001_1.length co81)) (fun _ hk => hk.2) (.slice none 0 0)) (fun _ hk => trivial), by first | exact Kd.R_nil _ _ _ _ _ | exact Kd.N_nil _ _ _ _ _ | exact Kd.V_nil _ _ _ _ _ | exact Kd.Q_nil _ _ _ _ _ | exact Kd.S_nil _ _ _ _ _, by repeat (first | (with_reducible first | exact HI0.out | apply IsS78.alloc | apply IsS78.drewN | apply IsS78.drew | apply IsS78.set_1 | refine IsS78.far ?_ NB0_199.out _ | refine IsS78.far ?_ NB0_200.out _) | exact HI0.out), by repeat (first | (with_reducible first | exact HB.out | apply below_alloc | apply pw_below_drewN | apply below_drew1 | refine below_set ?_ (IsS78.ge HI0.out) | refine below_set ?_ GE199.out | refine below_set ?_ GE200.out) | exact HB.out), by repeat (first | (with_reducible first | exact HK.out | apply KeepBut.set_ | apply keep_drewN | apply keep_drew | apply keep_alloc | refine keep_far ?_ GW199.out _ | refine keep_far ?_ GW200.out _) | exact HK.out)⟩
  ·
   rw [if_neg c8] at H; exact absurd H (by simp)
 ·
  rw [if_neg c7] at H; exact absurd H (by simp)
/-! ### trustquorumref02_Depth: function 95 -/
mutual
def trustquorumref02_Depth.l0 : Nat → Int → List (S48) → Int → Int → Option (Int)
  | 0, _, _, _, _ => none
  | k + 1, x3, x7, x8, x9 => if x9 < x8 then (if 0 ≤ x9 then (if x9 < (x7.length : Int) then ((trustquorumref02_Depth.f k ((rd_T48 x7 x9).f0) ((rd_T48 x7 x9).f1) ((rd_T48 x7 x9).f2)).bind fun t243 => (trustquorumref02_Depth.l0 k (mx x3 t243) x7 x8 (wrap64 (x9 + 1)))) else (none)) else (none)) else (some (wrap64 (x3 + 1)))
def trustquorumref02_Depth.f : Nat → Int → List Int → List (S48) → Option (Int)
  | 0, _, _, _ => none
  | k + 1, a0_0, l0_1, l0_2 => trustquorumref02_Depth.l0 k 0 l0_2 (l0_2.length : Int) 0
end
theorem trustquorumref02_Depth.mono_l : ∀ k, (∀ y0 y1 y2, LeO (trustquorumref02_Depth.f k y0 y1 y2) (trustquorumref02_Depth.f (k + 1) y0 y1 y2)) ∧ (∀ y0 y1 y2 y3, LeO (trustquorumref02_Depth.l0 k y0 y1 y2 y3) (trustquorumref02_Depth.l0 (k + 1) y0 y1 y2 y3))
  | 0 => ⟨fun _ _ _ r h => by simp [trustquorumref02_Depth.f] at h, fun _ _ _ _ r h => by simp [trustquorumref02_Depth.l0] at h⟩
  | k + 1 => by
    obtain ⟨ih0, ih1⟩ := trustquorumref02_Depth.mono_l k
    refine ⟨?_, ?_⟩
    · intro y0 y1 y2
      unfold trustquorumref02_Depth.f
      repeat' first
      | (with_reducible exact ih0 _ _ _)
      | (with_reducible exact ih1 _ _ _ _)
      | (with_reducible exact LeO.refl _)
      | (with_reducible exact LeO.none _)
      | (with_reducible refine LeO.ite ?_ ?_)
      | (with_reducible refine LeO.bind ?_ (fun _ => ?_))
      | exact ih0 _ _ _
      | exact ih1 _ _ _ _
      | exact LeO.none _
      | refine LeO.ite ?_ ?_
      | refine LeO.bind ?_ (fun _ => ?_)
    · intro y0 y1 y2 y3
      unfold trustquorumref02_Depth.l0
      repeat' first
      | (with_reducible exact ih0 _ _ _)
      | (with_reducible exact ih1 _ _ _ _)
      | (with_reducible exact LeO.refl _)
      | (with_reducible exact LeO.none _)
      | (with_reducible refine LeO.ite ?_ ?_)
      | (with_reducible refine LeO.bind ?_ (fun _ => ?_))
      | exact ih0 _ _ _
      | exact ih1 _ _ _ _
      | exact LeO.none _
      | refine LeO.ite ?_ ?_
      | refine LeO.bind ?_ (fun _ => ?_)
theorem trustquorumref02_Depth.mono : ∀ a0 a1 a2 k, LeO (trustquorumref02_Depth.f k a0 a1 a2) (trustquorumref02_Depth.f (k + 1) a0 a1 a2) := by
  intro a0 a1 a2 k
  obtain ⟨ih0, ih1⟩ := trustquorumref02_Depth.mono_l k
  exact ih0 a0 a1 a2
set_option maxHeartbeats 8000000 in
set_option maxRecDepth 100000 in
theorem trustquorumref02_Depth.calls (k : Nat) : ∀ (a0_0 : Int) (A0_1 : Option Addr) (c0_1 : Nat) (l0_1 : List Int) (A0_2 : Option Addr) (c0_2 : Nat) (l0_2 : List (S48)) (r : Int) (w : World) (hr0_1 : Kd.C (Kd.int .i64) w A0_1 l0_1.length l0_1) (hc0_1 : l0_1.length ≤ c0_1) (hr0_2 : Kd.C k48 w A0_2 l0_2.length l0_2) (hc0_2 : l0_2.length ≤ c0_2) (h : trustquorumref02_Depth.f k a0_0 l0_1 l0_2 = some r),
    Calls Try.prog 95 #[.agg #[.int .i64 a0_0, .slice A0_1 l0_1.length c0_1, .slice A0_2 l0_2.length c0_2]] w fun e w' => e = .returned (.int .i64 r) ∧ Below w.heap.size w w' := by
 induction k using Nat.strongRecOn with
 | _ k ih =>
 intro a0_0 A0_1 c0_1 l0_1 A0_2 c0_2 l0_2 r w hr0_1 hc0_1 hr0_2 hc0_2 h
 cases k with
 | zero => exact absurd h (by simp [trustquorumref02_Depth.f])
 | succ k =>
 simp only [trustquorumref02_Depth.f] at h; have hu48 := Try.underlying48; have HR0_1 := Aside0.mk hr0_1; have HC0_1 := Aside0.mk hc0_1; clear hr0_1 hc0_1; have HR0_2 := Aside0.mk hr0_2; have HC0_2 := Aside0.mk hc0_2; clear hr0_2 hc0_2; have HB := Aside0.mk (Below.refl w.heap.size w); have H : (trustquorumref02_Depth.l0 k 0 l0_2 (l0_2.length : Int) 0) = some r := h; clear h; have H' := Aside0.mk H; clear H
 go_enter Try.func95, Try.ntmps95
 go_wp2_with (first | ((with_reducible refine gate_dst (N := 1) rfl ?_); refine box_event ?hg (N := 1) ?hd (cs := #[.int .i64 a0_0, .slice A0_1 l0_1.length c0_1, .slice A0_2 l0_2.length c0_2]) (t := 48) ?hr ?_; (case hd => rfl); (case hg => rfl); (case hr => first | (go_simp; done) | (go_simp; rfl)); intro gb240 hg w2 hbox hb; have BK240 := Aside0.mk (hbox); have GW240 := Aside0.mk ((by rw [hg]; exact (below_size HB.out) : w.heap.size ≤ gb240)); have GE240 := Aside0.mk ((by rw [hg]; exact (below_size HB.out) : w.heap.size ≤ gb240)); replace HB := Aside0.mk (below_step HB.out hb); clear hb hbox hg; obtain ⟨hcz3_0, hcz3_1, hcz3_2, hfz3_0, hfz3_1, hfz3_2⟩ := blkC3 BK240.out))
 go_loopg [3, 9] k (fun kq v3 v9 w' => ∃ (x3_1 : Int) (x9_1 : Int), v3 = .int .i64 x3_1 ∧ v9 = .int .i64 x9_1 ∧ Aside0 (trustquorumref02_Depth.l0 kq x3_1 l0_2 (l0_2.length : Int) x9_1 = some r) ∧ Aside0 (kq ≤ k) ∧ Aside0 (Below w.heap.size w w'))
 case atStart => exact ⟨(0), (0), (by first | rfl | (simp; done) | (simp [*]; done) | (refine congrArg (Value.int .i64) ?_; unfold wrap64; omega)), (by first | rfl | (simp; done) | (simp [*]; done) | (refine congrArg (Value.int .i64) ?_; unfold wrap64; omega)), H', ⟨Nat.le_refl _⟩, ⟨by exact HB.out⟩⟩
 case round =>
  clear H'; (try clear p2); (try clear hcz3_0); (try clear hcz3_1); (try clear hcz3_2); (try clear hfz3_0); (try clear hfz3_1); (try clear hfz3_2); obtain ⟨x3_1, x9_1, rfl, rfl, HA, HK1, HB⟩ := hrel
  cases gk with
  | zero => exact absurd HA.out (by simp [trustquorumref02_Depth.l0])
  | succ k1 =>
   have H := HA.out; clear HA; simp only [trustquorumref02_Depth.l0] at H
   by_cases c4 : x9_1 < (l0_2.length : Int)
   ·
    rw [if_pos c4] at H; have c4b0 : decide (x9_1 < (l0_2.length : Int)) = true := decide_eq_true c4; clear c4
    by_cases c5 : 0 ≤ x9_1
    ·
     rw [if_pos c5] at H; have c5b0 : decide (0 ≤ x9_1) = true := decide_eq_true c5; clear c5
     by_cases c6 : x9_1 < (l0_2.length : Int)
     ·
      rw [if_pos c6] at H; have c6b0 : decide (x9_1 < (l0_2.length : Int)) = true := decide_eq_true c6; clear c6; replace H := Option.bind_eq_some_iff.mp H; obtain ⟨t243, A70, H⟩ := H; replace H : (trustquorumref02_Depth.l0 k1 (mx x3_1 t243) l0_2 (l0_2.length : Int) (wrap64 (x9_1 + 1))) = some r := H; have A7 := Aside0.mk A70; clear A70; obtain ⟨ji8, hji8⟩ : ∃ j_ : Int, (mx x3_1 t243) = j_ := ⟨_, rfl⟩; replace H : (trustquorumref02_Depth.l0 k1 ji8 l0_2 (l0_2.length : Int) (wrap64 (x9_1 + 1))) = some r := by first | (rw [hji8] at H; exact H) | (simp only [hji8] at H ⊢; exact H)
      (try rw [hji8] at A7); have hji8_ : (if x3_1 < t243 then t243 else x3_1) = ji8 := hji8; have H' := Aside0.mk H; clear H; have p241 : 0 ≤ (x9_1 : Int) := of_decide_eq_true (by first | (with_reducible assumption) | assumption); have q241 : x9_1 < (l0_2.length : Int) := of_decide_eq_true (by first | (with_reducible assumption) | assumption); obtain ⟨ad241, A241_1, c241_1, A241_2, c241_2, e241, hx241_0, hx241_1, hx241_2, hl241_1, hi241_1, hl241_2, hi241_2⟩ := at_T48 HR0_2.out x9_1 p241 q241
      cases e241
      replace hx241_0 := (HB.out.cell (World.block_lt_of_cell? w _ hx241_0)).trans hx241_0; replace hx241_1 := (HB.out.cell (World.block_lt_of_cell? w _ hx241_1)).trans hx241_1; replace hx241_2 := (HB.out.cell (World.block_lt_of_cell? w _ hx241_2)).trans hx241_2; have HR241_1 := Aside0.mk hi241_1; have HC241_1 := Aside0.mk hl241_1; clear hi241_1 hl241_1; have HR241_2 := Aside0.mk hi241_2; have HC241_2 := Aside0.mk hl241_2; clear hi241_2 hl241_2; replace p241 := eq_true p241; replace q241 := eq_true q241
      go_wp2_with (first | ((with_reducible refine gate_dst (N := 5) rfl ?_); refine box_event ?hg (N := 5) ?hd (cs := #[.int .i64 0, .slice none 0 0, .slice none 0 0]) (t := 48) ?hr ?_; (case hd => rfl); (case hg => rfl); (case hr => first | (go_simp; done) | (go_simp; rfl)); intro gb242 hg w9 hbox hb; have BK242 := Aside0.mk (hbox); have GW242 := Aside0.mk ((by rw [hg]; exact (below_size HB.out) : w.heap.size ≤ gb242)); have GE242 := Aside0.mk ((by rw [hg]; exact (below_size HB.out) : w.heap.size ≤ gb242)); replace HB := Aside0.mk (below_step HB.out hb); clear hb hbox hg; obtain ⟨hcz10_0, hcz10_1, hcz10_2, hfz10_0, hfz10_1, hfz10_2⟩ := blkC3 BK242.out) | ((with_reducible refine gate_callee (f := 95) rfl ?_); refine goesL_ (some 15) rfl rfl Try.func95 (by kernel_rfl) rfl #[.agg #[.int .i64 ((rd_T48 l0_2 x9_1).f0), .slice A241_1 ((rd_T48 l0_2 x9_1).f1).length c241_1, .slice A241_2 ((rd_T48 l0_2 x9_1).f2).length c241_2]] rfl (by (try simp only [List.map_toArray, List.map_cons, List.map_nil]); first | done | rfl | (simp only [List.length_drop, List.length_take]; rfl)) ?_; (with_reducible refine (ih k1 (by have := HK1.out; omega) ((rd_T48 l0_2 x9_1).f0) _ _ ((rd_T48 l0_2 x9_1).f1) _ _ ((rd_T48 l0_2 x9_1).f2) t243 _ ?side1 ?side2 ?side3 ?side4 A7.out).mono ?_); (case side1 => exact Kd.C_below HR241_1.out (by repeat (first | (with_reducible first | exact HB.out | apply below_alloc | apply pw_below_drewN | apply below_drew1 | refine below_set ?_ GE242.out) | exact HB.out))); (case side2 => exact HC241_1.out); (case side3 => exact Kd.C_below HR241_2.out (by repeat (first | (with_reducible first | exact HB.out | apply below_alloc | apply pw_below_drewN | apply below_drew1 | refine below_set ?_ GE242.out) | exact HB.out))); (case side4 => exact HC241_2.out); rintro e w11 ⟨rfl, hb⟩; refine ⟨_, rfl, ?_⟩; replace BK242 := Aside0.mk (blk_below (g := gb242) (o := .cells #[.int .i64 ((rd_T48 l0_2 x9_1).f0), .slice A241_1 ((rd_T48 l0_2 x9_1).f1).length c241_1, .slice A241_2 ((rd_T48 l0_2 x9_1).f2).length c241_2] 48 (0, 0)) (by (with_reducible repeat (first | refine blk_drewN ?_ _ | refine blk_drew ?_ | refine blk_alloc ?_ _)); refine blk_put (cs := #[.int .i64 ((rd_T48 l0_2 x9_1).f0), .slice A241_1 ((rd_T48 l0_2 x9_1).f1).length c241_1, .slice none 0 0]) ?_ 2 _ rfl; (with_reducible repeat (first | refine blk_drewN ?_ _ | refine blk_drew ?_ | refine blk_alloc ?_ _)); refine blk_put (cs := #[.int .i64 ((rd_T48 l0_2 x9_1).f0), .slice none 0 0, .slice none 0 0]) ?_ 1 _ rfl; (with_reducible repeat (first | refine blk_drewN ?_ _ | refine blk_drew ?_ | refine blk_alloc ?_ _)); refine blk_put (cs := #[.int .i64 0, .slice none 0 0, .slice none 0 0]) ?_ 0 _ rfl; (with_reducible repeat (first | refine blk_drewN ?_ _ | refine blk_drew ?_ | refine blk_alloc ?_ _)); exact BK242.out) hb); replace HB := Aside0.mk (below_step (by repeat (first | (with_reducible first | exact HB.out | apply below_alloc | apply pw_below_drewN | apply below_drew1 | refine below_set ?_ GE242.out) | exact HB.out)) hb); (try clear hb); (try clear hb2); (try clear hk); (try clear hi)))
      go_roundg k1
      case measure => have := HK1.out; omega
      case rel => exact ⟨(ji8), (wrap64 (x9_1 + 1)), (by first | rfl | (simp; done) | (simp only [← hji8] <;> (first | rfl | simp)) | (simp [*]; done)), (by first | rfl | (simp; done) | (simp [*]; done) | (refine congrArg (Value.int .i64) ?_; unfold wrap64; omega)), H', ⟨by have := HK1.out; omega⟩, ⟨by exact HB.out⟩⟩
     ·
      rw [if_neg c6] at H; exact absurd H (by simp)
    ·
     rw [if_neg c5] at H; exact absurd H (by simp)
   ·
    rw [if_neg c4] at H; have c4b0 : decide (x9_1 < (l0_2.length : Int)) = false := decide_eq_false c4; clear c4; obtain rfl := Option.some.inj H
    go_wp2
    go_ret
    exact ⟨by first | rfl | (simp [errW_none, errW_some] <;> rfl) | (simp [*, errW_none, errW_some] <;> rfl), by exact HB.out⟩
/-! ### trustquorumref02_Size: function 96 -/
mutual
def trustquorumref02_Size.l0 : Nat → Int → List (S48) → Int → Int → Option (Int)
  | 0, _, _, _, _ => none
  | k + 1, x3, x14, x15, x16 => if x16 < x15 then (if 0 ≤ x16 then (if x16 < (x14.length : Int) then ((trustquorumref02_Size.f k ((rd_T48 x14 x16).f0) ((rd_T48 x14 x16).f1) ((rd_T48 x14 x16).f2)).bind fun t247 => (trustquorumref02_Size.l0 k (wrap64 (x3 + t247)) x14 x15 (wrap64 (x16 + 1)))) else (none)) else (none)) else (some x3)
def trustquorumref02_Size.f : Nat → Int → List Int → List (S48) → Option (Int)
  | 0, _, _, _ => none
  | k + 1, a0_0, l0_1, l0_2 => trustquorumref02_Size.l0 k (wrap64 ((l0_1.length : Int) + (l0_2.length : Int))) l0_2 (l0_2.length : Int) 0
end
theorem trustquorumref02_Size.mono_l : ∀ k, (∀ y0 y1 y2, LeO (trustquorumref02_Size.f k y0 y1 y2) (trustquorumref02_Size.f (k + 1) y0 y1 y2)) ∧ (∀ y0 y1 y2 y3, LeO (trustquorumref02_Size.l0 k y0 y1 y2 y3) (trustquorumref02_Size.l0 (k + 1) y0 y1 y2 y3))
  | 0 => ⟨fun _ _ _ r h => by simp [trustquorumref02_Size.f] at h, fun _ _ _ _ r h => by simp [trustquorumref02_Size.l0] at h⟩
  | k + 1 => by
    obtain ⟨ih0, ih1⟩ := trustquorumref02_Size.mono_l k
    refine ⟨?_, ?_⟩
    · intro y0 y1 y2
      unfold trustquorumref02_Size.f
      repeat' first
      | (with_reducible exact ih0 _ _ _)
      | (with_reducible exact ih1 _ _ _ _)
      | (with_reducible exact LeO.refl _)
      | (with_reducible exact LeO.none _)
      | (with_reducible refine LeO.ite ?_ ?_)
      | (with_reducible refine LeO.bind ?_ (fun _ => ?_))
      | exact ih0 _ _ _
      | exact ih1 _ _ _ _
      | exact LeO.none _
      | refine LeO.ite ?_ ?_
      | refine LeO.bind ?_ (fun _ => ?_)
    · intro y0 y1 y2 y3
      unfold trustquorumref02_Size.l0
      repeat' first
      | (with_reducible exact ih0 _ _ _)
      | (with_reducible exact ih1 _ _ _ _)
      | (with_reducible exact LeO.refl _)
      | (with_reducible exact LeO.none _)
      | (with_reducible refine LeO.ite ?_ ?_)
      | (with_reducible refine LeO.bind ?_ (fun _ => ?_))
      | exact ih0 _ _ _
      | exact ih1 _ _ _ _
      | exact LeO.none _
      | refine LeO.ite ?_ ?_
      | refine LeO.bind ?_ (fun _ => ?_)
theorem trustquorumref02_Size.mono : ∀ a0 a1 a2 k, LeO (trustquorumref02_Size.f k a0 a1 a2) (trustquorumref02_Size.f (k + 1) a0 a1 a2) := by
  intro a0 a1 a2 k
  obtain ⟨ih0, ih1⟩ := trustquorumref02_Size.mono_l k
  exact ih0 a0 a1 a2
set_option maxHeartbeats 8000000 in
set_option maxRecDepth 100000 in
theorem trustquorumref02_Size.calls (k : Nat) : ∀ (a0_0 : Int) (A0_1 : Option Addr) (c0_1 : Nat) (l0_1 : List Int) (A0_2 : Option Addr) (c0_2 : Nat) (l0_2 : List (S48)) (r : Int) (w : World) (hr0_1 : Kd.C (Kd.int .i64) w A0_1 l0_1.length l0_1) (hc0_1 : l0_1.length ≤ c0_1) (hr0_2 : Kd.C k48 w A0_2 l0_2.length l0_2) (hc0_2 : l0_2.length ≤ c0_2) (h : trustquorumref02_Size.f k a0_0 l0_1 l0_2 = some r),
    Calls Try.prog 96 #[.agg #[.int .i64 a0_0, .slice A0_1 l0_1.length c0_1, .slice A0_2 l0_2.length c0_2]] w fun e w' => e = .returned (.int .i64 r) ∧ Below w.heap.size w w' := by
 induction k using Nat.strongRecOn with
 | _ k ih =>
 intro a0_0 A0_1 c0_1 l0_1 A0_2 c0_2 l0_2 r w hr0_1 hc0_1 hr0_2 hc0_2 h
 cases k with
 | zero => exact absurd h (by simp [trustquorumref02_Size.f])
 | succ k =>
 simp only [trustquorumref02_Size.f] at h; have hu48 := Try.underlying48; have HR0_1 := Aside0.mk hr0_1; have HC0_1 := Aside0.mk hc0_1; clear hr0_1 hc0_1; have HR0_2 := Aside0.mk hr0_2; have HC0_2 := Aside0.mk hc0_2; clear hr0_2 hc0_2; have HB := Aside0.mk (Below.refl w.heap.size w); have H : (trustquorumref02_Size.l0 k (wrap64 ((l0_1.length : Int) + (l0_2.length : Int))) l0_2 (l0_2.length : Int) 0) = some r := h; clear h; have H' := Aside0.mk H; clear H
 go_enter Try.func96, Try.ntmps96
 go_wp2_with (first | ((with_reducible refine gate_dst (N := 1) rfl ?_); refine box_event ?hg (N := 1) ?hd (cs := #[.int .i64 a0_0, .slice A0_1 l0_1.length c0_1, .slice A0_2 l0_2.length c0_2]) (t := 48) ?hr ?_; (case hd => rfl); (case hg => rfl); (case hr => first | (go_simp; done) | (go_simp; rfl)); intro gb244 hg w2 hbox hb; have BK244 := Aside0.mk (hbox); have GW244 := Aside0.mk ((by rw [hg]; exact (below_size HB.out) : w.heap.size ≤ gb244)); have GE244 := Aside0.mk ((by rw [hg]; exact (below_size HB.out) : w.heap.size ≤ gb244)); replace HB := Aside0.mk (below_step HB.out hb); clear hb hbox hg; obtain ⟨hcz3_0, hcz3_1, hcz3_2, hfz3_0, hfz3_1, hfz3_2⟩ := blkC3 BK244.out))
 go_loopg [3, 16] k (fun kq v3 v16 w' => ∃ (x3_1 : Int) (x16_1 : Int), v3 = .int .i64 x3_1 ∧ v16 = .int .i64 x16_1 ∧ Aside0 (trustquorumref02_Size.l0 kq x3_1 l0_2 (l0_2.length : Int) x16_1 = some r) ∧ Aside0 (kq ≤ k) ∧ Aside0 (Below w.heap.size w w'))
 case atStart => exact ⟨(wrap64 ((l0_1.length : Int) + (l0_2.length : Int))), (0), (by first | rfl | (simp; done) | (simp [*]; done) | (refine congrArg (Value.int .i64) ?_; unfold wrap64; omega)), (by first | rfl | (simp; done) | (simp [*]; done) | (refine congrArg (Value.int .i64) ?_; unfold wrap64; omega)), H', ⟨Nat.le_refl _⟩, ⟨by exact HB.out⟩⟩
 case round =>
  clear H'; (try clear p2); (try clear hcz3_0); (try clear hcz3_1); (try clear hcz3_2); (try clear hfz3_0); (try clear hfz3_1); (try clear hfz3_2); obtain ⟨x3_1, x16_1, rfl, rfl, HA, HK1, HB⟩ := hrel
  cases gk with
  | zero => exact absurd HA.out (by simp [trustquorumref02_Size.l0])
  | succ k1 =>
   have H := HA.out; clear HA; simp only [trustquorumref02_Size.l0] at H
   by_cases c4 : x16_1 < (l0_2.length : Int)
   ·
    rw [if_pos c4] at H; have c4b0 : decide (x16_1 < (l0_2.length : Int)) = true := decide_eq_true c4; clear c4
    by_cases c5 : 0 ≤ x16_1
    ·
     rw [if_pos c5] at H; have c5b0 : decide (0 ≤ x16_1) = true := decide_eq_true c5; clear c5
     by_cases c6 : x16_1 < (l0_2.length : Int)
     ·
      rw [if_pos c6] at H; have c6b0 : decide (x16_1 < (l0_2.length : Int)) = true := decide_eq_true c6; clear c6; replace H := Option.bind_eq_some_iff.mp H; obtain ⟨t247, A70, H⟩ := H; replace H : (trustquorumref02_Size.l0 k1 (wrap64 (x3_1 + t247)) l0_2 (l0_2.length : Int) (wrap64 (x16_1 + 1))) = some r := H; have A7 := Aside0.mk A70; clear A70; have H' := Aside0.mk H; clear H; have p245 : 0 ≤ (x16_1 : Int) := of_decide_eq_true (by first | (with_reducible assumption) | assumption); have q245 : x16_1 < (l0_2.length : Int) := of_decide_eq_true (by first | (with_reducible assumption) | assumption); obtain ⟨ad245, A245_1, c245_1, A245_2, c245_2, e245, hx245_0, hx245_1, hx245_2, hl245_1, hi245_1, hl245_2, hi245_2⟩ := at_T48 HR0_2.out x16_1 p245 q245
      cases e245
      replace hx245_0 := (HB.out.cell (World.block_lt_of_cell? w _ hx245_0)).trans hx245_0; replace hx245_1 := (HB.out.cell (World.block_lt_of_cell? w _ hx245_1)).trans hx245_1; replace hx245_2 := (HB.out.cell (World.block_lt_of_cell? w _ hx245_2)).trans hx245_2; have HR245_1 := Aside0.mk hi245_1; have HC245_1 := Aside0.mk hl245_1; clear hi245_1 hl245_1; have HR245_2 := Aside0.mk hi245_2; have HC245_2 := Aside0.mk hl245_2; clear hi245_2 hl245_2; replace p245 := eq_true p245; replace q245 := eq_true q245
      go_wp2_with (first | ((with_reducible refine gate_dst (N := 5) rfl ?_); refine box_event ?hg (N := 5) ?hd (cs := #[.int .i64 0, .slice none 0 0, .slice none 0 0]) (t := 48) ?hr ?_; (case hd => rfl); (case hg => rfl); (case hr => first | (go_simp; done) | (go_simp; rfl)); intro gb246 hg w8 hbox hb; have BK246 := Aside0.mk (hbox); have GW246 := Aside0.mk ((by rw [hg]; exact (below_size HB.out) : w.heap.size ≤ gb246)); have GE246 := Aside0.mk ((by rw [hg]; exact (below_size HB.out) : w.heap.size ≤ gb246)); replace HB := Aside0.mk (below_step HB.out hb); clear hb hbox hg; obtain ⟨hcz9_0, hcz9_1, hcz9_2, hfz9_0, hfz9_1, hfz9_2⟩ := blkC3 BK246.out) | ((with_reducible refine gate_callee (f := 96) rfl ?_); refine goesL_ (some 22) rfl rfl Try.func96 (by kernel_rfl) rfl #[.agg #[.int .i64 ((rd_T48 l0_2 x16_1).f0), .slice A245_1 ((rd_T48 l0_2 x16_1).f1).length c245_1, .slice A245_2 ((rd_T48 l0_2 x16_1).f2).length c245_2]] rfl (by (try simp only [List.map_toArray, List.map_cons, List.map_nil]); first | done | rfl | (simp only [List.length_drop, List.length_take]; rfl)) ?_; (with_reducible refine (ih k1 (by have := HK1.out; omega) ((rd_T48 l0_2 x16_1).f0) _ _ ((rd_T48 l0_2 x16_1).f1) _ _ ((rd_T48 l0_2 x16_1).f2) t247 _ ?side1 ?side2 ?side3 ?side4 A7.out).mono ?_); (case side1 => exact Kd.C_below HR245_1.out (by repeat (first | (with_reducible first | exact HB.out | apply below_alloc | apply pw_below_drewN | apply below_drew1 | refine below_set ?_ GE246.out) | exact HB.out))); (case side2 => exact HC245_1.out); (case side3 => exact Kd.C_below HR245_2.out (by repeat (first | (with_reducible first | exact HB.out | apply below_alloc | apply pw_below_drewN | apply below_drew1 | refine below_set ?_ GE246.out) | exact HB.out))); (case side4 => exact HC245_2.out); rintro e w10 ⟨rfl, hb⟩; refine ⟨_, rfl, ?_⟩; replace BK246 := Aside0.mk (blk_below (g := gb246) (o := .cells #[.int .i64 ((rd_T48 l0_2 x16_1).f0), .slice A245_1 ((rd_T48 l0_2 x16_1).f1).length c245_1, .slice A245_2 ((rd_T48 l0_2 x16_1).f2).length c245_2] 48 (0, 0)) (by (with_reducible repeat (first | refine blk_drewN ?_ _ | refine blk_drew ?_ | refine blk_alloc ?_ _)); refine blk_put (cs := #[.int .i64 ((rd_T48 l0_2 x16_1).f0), .slice A245_1 ((rd_T48 l0_2 x16_1).f1).length c245_1, .slice none 0 0]) ?_ 2 _ rfl; (with_reducible repeat (first | refine blk_drewN ?_ _ | refine blk_drew ?_ | refine blk_alloc ?_ _)); refine blk_put (cs := #[.int .i64 ((rd_T48 l0_2 x16_1).f0), .slice none 0 0, .slice none 0 0]) ?_ 1 _ rfl; (with_reducible repeat (first | refine blk_drewN ?_ _ | refine blk_drew ?_ | refine blk_alloc ?_ _)); refine blk_put (cs := #[.int .i64 0, .slice none 0 0, .slice none 0 0]) ?_ 0 _ rfl; (with_reducible repeat (first | refine blk_drewN ?_ _ | refine blk_drew ?_ | refine blk_alloc ?_ _)); exact BK246.out) hb); replace HB := Aside0.mk (below_step (by repeat (first | (with_reducible first | exact HB.out | apply below_alloc | apply pw_below_drewN | apply below_drew1 | refine below_set ?_ GE246.out) | exact HB.out)) hb); (try clear hb); (try clear hb2); (try clear hk); (try clear hi)))
      go_roundg k1
      case measure => have := HK1.out; omega
      case rel => exact ⟨(wrap64 (x3_1 + t247)), (wrap64 (x16_1 + 1)), (by first | rfl | (simp; done) | (simp [*]; done) | (refine congrArg (Value.int .i64) ?_; unfold wrap64; omega)), (by first | rfl | (simp; done) | (simp [*]; done) | (refine congrArg (Value.int .i64) ?_; unfold wrap64; omega)), H', ⟨by have := HK1.out; omega⟩, ⟨by exact HB.out⟩⟩
     ·
      rw [if_neg c6] at H; exact absurd H (by simp)
    ·
     rw [if_neg c5] at H; exact absurd H (by simp)
   ·
    rw [if_neg c4] at H; have c4b0 : decide (x16_1 < (l0_2.length : Int)) = false := decide_eq_false c4; clear c4; obtain rfl := Option.some.inj H
    go_wp2
    go_ret
    exact ⟨by first | rfl | (simp [errW_none, errW_some] <;> rfl) | (simp [*, errW_none, errW_some] <;> rfl), by exact HB.out⟩
/-! ### trustquorumref01_Valid: function 55 -/
def trustquorumref01_Valid.f (a0 : Int) : Option (Bool) := if a0 ≥ 0 then (some (decide (a0 ≤ 1023))) else (some false)
set_option maxHeartbeats 8000000 in
set_option maxRecDepth 100000 in
theorem trustquorumref01_Valid.calls (a0 : Int) (r : Bool) (w : World) (h : trustquorumref01_Valid.f a0 = some r) :
    Calls Try.prog 55 #[.int .i64 a0] w fun e w' => e = .returned (.bool r) ∧ Drawn0 w w' := by
 have H : (if a0 ≥ 0 then (some (decide (a0 ≤ 1023))) else (some false)) = some r := h; clear h
 by_cases c2 : a0 ≥ 0
 ·
  rw [if_pos c2] at H; have c2b0 : decide (0 ≤ a0) = true := decide_eq_true c2; clear c2; obtain rfl := Option.some.inj H
  go_enter Try.func55, Try.ntmps55
  go_wp2
  go_ret
  exact ⟨by first | rfl | (simp; done) | (simp [*]; done) | (refine congrArg (Value.int .i64) ?_; unfold wrap64; omega), by repeat (first | exact Drawn0.refl _ | apply Drawn0.step)⟩
 ·
  rw [if_neg c2] at H; have c2b0 : decide (0 ≤ a0) = false := decide_eq_false c2; clear c2; obtain rfl := Option.some.inj H
  go_enter Try.func55, Try.ntmps55
  go_wp2
  go_ret
  exact ⟨by first | rfl | (simp; done) | (simp [*]; done) | (refine congrArg (Value.int .i64) ?_; unfold wrap64; omega), by repeat (first | exact Drawn0.refl _ | apply Drawn0.step)⟩
end Go.Proofs.Ytmeamdklonmahaa.QFederatedView
