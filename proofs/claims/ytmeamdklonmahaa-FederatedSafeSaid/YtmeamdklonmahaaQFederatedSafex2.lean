/- Lean functions that answer as the Go functions do which the law reaches, and proofs that the Go code comes to exactly these answers. Conditions: those that each theorem names. -/
import Derived.Test.YtmeamdklonmahaaQFederatedSafex0
import Derived.Test.YtmeamdklonmahaaQFederatedSafex1
namespace Go.Proofs.Ytmeamdklonmahaa.QFederatedSafe
open Go.RowKit Go.Proofs.YtmeamdklonmahaaW.PrintWords Go.Proofs.YtmeamdklonmahaaW.PrintLast Go.Proofs.YtmeamdklonmahaaW.PrintMore
attribute [local go_sem] max2_int min2_int max_two min_two max_three min_three max_four min_four   -- for this text's walks alone
set_option linter.unusedVariables false
set_option linter.unusedSimpArgs false

/-! ### trustquorummake_trust: function 62 -/
mutual
def trustquorummake_trust.l0 : Nat → Int → Int → List Int → Int → Int → List Int → Int → Int → List Int → Option (Int × List Int × (List (S48)) × Int)
  | 0, _, _, _, _, _, _, _, _, _ => none
  | k + 1, x1, x2, x20, x21, x22, x1000, x1001, x120000, x120001 => if x22 < x21 then (if 0 ≤ x22 then (if x22 < (x20.length : Int) then (if x120001.length < 17592186044416 then (trustquorummake_trust.l0 k x1 x2 x20 x21 (wrap64 (x22 + 1)) x1000 x1001 x120000 (x120001 ++ [rd x20 x22])) else (none)) else (none)) else (none)) else (if x2 > 1 then ((trustquorummake_Tape_Pick.f x1000 x1001 (([0, 0, 1, 1, 2, 3] : List Int))).bind fun bt136 => (trustquorummake_trust.l1 k x1 x2 bt136.1 x1000 bt136.2 x120000 x120001 ([] : List (S48)))) else ((trustquorummake_Tape_Range.f x1000 x1001 1 (wrap64 ((x120001.length : Int)))).bind fun bt157 => (some (bt157.1, x120001, ([] : List (S48)), bt157.2))))
def trustquorummake_trust.l1 : Nat → Int → Int → Int → List Int → Int → Int → List Int → List (S48) → Option (Int × List Int × (List (S48)) × Int)
  | 0, _, _, _, _, _, _, _, _ => none
  | k + 1, x1, x2, x11, x1000, x1001, x120000, x120001, x120002 => if x11 > 0 then ((trustquorummake_trust.f k x1000 x1001 x1 (wrap64 (x2 - 1))).bind fun bt138 => (if x120002.length < 2513169434916 then (trustquorummake_trust.l1 k x1 x2 (wrap64 (x11 - 1)) x1000 bt138.2.2.2 x120000 x120001 (x120002 ++ [(⟨bt138.1, bt138.2.1, bt138.2.2.1⟩ : S48)])) else (none))) else (if (x120002.length : Int) > 0 then ((trustquorummake_Tape_N.f x1000 x1001 3).bind fun bt149 => (if bt149.1 = 0 then ((trustquorummake_Tape_Range.f x1000 bt149.2 1 (wrap64 ((x120002.length : Int)))).bind fun bt151 => (some (bt151.1, ([] : List Int), x120002, bt151.2))) else ((trustquorummake_Tape_Range.f x1000 bt149.2 1 (wrap64 ((x120001.length : Int) + (x120002.length : Int)))).bind fun bt153 => (some (bt153.1, x120001, x120002, bt153.2))))) else ((trustquorummake_Tape_Range.f x1000 x1001 1 (wrap64 ((x120001.length : Int) + (x120002.length : Int)))).bind fun bt155 => (some (bt155.1, x120001, x120002, bt155.2))))
def trustquorummake_trust.f : Nat → List Int → Int → Int → Int → Option (Int × List Int × (List (S48)) × Int)
  | 0, _, _, _, _ => none
  | k + 1, s0_0, s0_1, a1, a2 => (trustquorummake_Tape_Order.f k s0_0 s0_1 a1).bind fun bt120 => ((trustquorummake_Tape_Range.f s0_0 bt120.2 1 (mn a1 5)).bind fun bt124 => (if 0 ≤ bt124.1 then (if bt124.1 ≤ (bt120.1.length : Int) then ((some (bt120.1.take (bt124.1 : Int).toNat : List Int)).bind fun y126 => (trustquorummake_trust.l0 k a1 a2 y126 (y126.length : Int) 0 s0_0 bt124.2 0 ([] : List Int))) else (none)) else (none)))
end
theorem trustquorummake_trust.mono_l : ∀ k, (∀ y0 y1 y2 y3, LeO (trustquorummake_trust.f k y0 y1 y2 y3) (trustquorummake_trust.f (k + 1) y0 y1 y2 y3)) ∧ (∀ y0 y1 y2 y3 y4 y5 y6 y7 y8, LeO (trustquorummake_trust.l0 k y0 y1 y2 y3 y4 y5 y6 y7 y8) (trustquorummake_trust.l0 (k + 1) y0 y1 y2 y3 y4 y5 y6 y7 y8)) ∧ (∀ y0 y1 y2 y3 y4 y5 y6 y7, LeO (trustquorummake_trust.l1 k y0 y1 y2 y3 y4 y5 y6 y7) (trustquorummake_trust.l1 (k + 1) y0 y1 y2 y3 y4 y5 y6 y7))
  | 0 => ⟨fun _ _ _ _ r h => by simp [trustquorummake_trust.f] at h, fun _ _ _ _ _ _ _ _ _ r h => by simp [trustquorummake_trust.l0] at h, fun _ _ _ _ _ _ _ _ r h => by simp [trustquorummake_trust.l1] at h⟩
  | k + 1 => by
    obtain ⟨ih0, ih1, ih2⟩ := trustquorummake_trust.mono_l k
    refine ⟨?_, ?_, ?_⟩
    · intro y0 y1 y2 y3
      unfold trustquorummake_trust.f
      repeat' first
      | (with_reducible exact ih0 _ _ _ _)
      | (with_reducible exact ih1 _ _ _ _ _ _ _ _ _)
      | (with_reducible exact ih2 _ _ _ _ _ _ _ _)
      | (with_reducible exact trustquorummake_Tape_Order.mono _ _ _ _)
      | (with_reducible exact LeO.refl _)
      | (with_reducible exact LeO.none _)
      | (with_reducible refine LeO.ite ?_ ?_)
      | (with_reducible refine LeO.bind ?_ (fun _ => ?_))
      | exact ih0 _ _ _ _
      | exact ih1 _ _ _ _ _ _ _ _ _
      | exact ih2 _ _ _ _ _ _ _ _
      | exact trustquorummake_Tape_Order.mono _ _ _ _
      | exact LeO.none _
      | refine LeO.ite ?_ ?_
      | refine LeO.bind ?_ (fun _ => ?_)
    · intro y0 y1 y2 y3 y4 y5 y6 y7 y8
      unfold trustquorummake_trust.l0
      repeat' first
      | (with_reducible exact ih0 _ _ _ _)
      | (with_reducible exact ih1 _ _ _ _ _ _ _ _ _)
      | (with_reducible exact ih2 _ _ _ _ _ _ _ _)
      | (with_reducible exact trustquorummake_Tape_Order.mono _ _ _ _)
      | (with_reducible exact LeO.refl _)
      | (with_reducible exact LeO.none _)
      | (with_reducible refine LeO.ite ?_ ?_)
      | (with_reducible refine LeO.bind ?_ (fun _ => ?_))
      | exact ih0 _ _ _ _
      | exact ih1 _ _ _ _ _ _ _ _ _
      | exact ih2 _ _ _ _ _ _ _ _
      | exact trustquorummake_Tape_Order.mono _ _ _ _
      | exact LeO.none _
      | refine LeO.ite ?_ ?_
      | refine LeO.bind ?_ (fun _ => ?_)
    · intro y0 y1 y2 y3 y4 y5 y6 y7
      unfold trustquorummake_trust.l1
      repeat' first
      | (with_reducible exact ih0 _ _ _ _)
      | (with_reducible exact ih1 _ _ _ _ _ _ _ _ _)
      | (with_reducible exact ih2 _ _ _ _ _ _ _ _)
      | (with_reducible exact trustquorummake_Tape_Order.mono _ _ _ _)
      | (with_reducible exact LeO.refl _)
      | (with_reducible exact LeO.none _)
      | (with_reducible refine LeO.ite ?_ ?_)
      | (with_reducible refine LeO.bind ?_ (fun _ => ?_))
      | exact ih0 _ _ _ _
      | exact ih1 _ _ _ _ _ _ _ _ _
      | exact ih2 _ _ _ _ _ _ _ _
      | exact trustquorummake_Tape_Order.mono _ _ _ _
      | exact LeO.none _
      | refine LeO.ite ?_ ?_
      | refine LeO.bind ?_ (fun _ => ?_)
def trustquorummake_trust.T12 : Bool × List (List Nat × List Nat) := (true, [([], []), ([0], [0]), ([], []), ([], []), ([], []), ([4], [4]), ([2, 3, 5], [2, 3, 5]), ([6], [6]), ([1, 7, 6], [1, 7]), ([0, 1, 2, 3, 4, 5, 6, 7, 8], []), ([9, 8, 8, 0, 1, 2, 3, 4, 5, 6, 7, 8], [8, 9])])
def trustquorummake_trust.B12 : List Nat := [0, 1, 0, 0, 0, 16, 60, 124, 255, 511, 1023]
theorem trustquorummake_trust.tab12 : rtab .any (opsOf Try.f62 12) = trustquorummake_trust.T12 := by kernel_rfl
theorem trustquorummake_trust.bits12 : waitsOk trustquorummake_trust.T12.2 trustquorummake_trust.B12 = true := by kernel_rfl
set_option maxHeartbeats 8000000 in
set_option maxRecDepth 100000 in
theorem trustquorummake_trust.calls (k : Nat) : ∀ (g : Nat) (s0_0 : List Int) (s0_1 : Int) (a1 : Int) (a2 : Int) (r1 : Int) (r2 : List Int) (r3 : List (S48)) (r4 : Int) (w0 w : World) (hI : IsS78 w0 w g s0_0 s0_1) (hB : Below w0.heap.size w0 w) (h : trustquorummake_trust.f k s0_0 s0_1 a1 a2 = some (r1, r2, r3, r4)),
    Calls Try.prog 62 #[.pointer (some ⟨g, 0, none⟩), .int .i64 a1, .int .i64 a2] w fun e w' => ∃ v1_ v2_ : Value, e = .returned (.agg #[.int .i64 r1, v1_, v2_]) ∧ Kd.R (Kd.int .i64) 3 w' w.heap.size (fun _ => True) v1_ r2 ∧ Kd.R k48 48 w' w.heap.size (fun k_ => some k_ ≠ (v1_ : Value).ownBlock) v2_ r3 ∧ IsS78 w0 w' g s0_0 r4 ∧ Below w0.heap.size w0 w' ∧ KeepBut w w' g none := by
 induction k using Nat.strongRecOn with
 | _ k ih =>
 intro g s0_0 s0_1 a1 a2 r1 r2 r3 r4 w0 w hI hB h
 cases k with
 | zero => exact absurd h (by simp [trustquorummake_trust.f])
 | succ k =>
 simp only [trustquorummake_trust.f] at h; have hu48 := Try.underlying48; have HI0 := am hI; have HK := am (KeepBut.refl w g none); have HL := am hB.size; clear hI; have HW0 := am hB.size; have HB := am hB; clear hB; have H : ((trustquorummake_Tape_Order.f k s0_0 s0_1 a1).bind fun bt120 => ((trustquorummake_Tape_Range.f s0_0 bt120.2 1 (mn a1 5)).bind fun bt124 => (if 0 ≤ bt124.1 then (if bt124.1 ≤ (bt120.1.length : Int) then ((some (bt120.1.take (bt124.1 : Int).toNat : List Int)).bind fun y126 => (trustquorummake_trust.l0 k a1 a2 y126 (y126.length : Int) 0 s0_0 bt124.2 0 ([] : List Int))) else (none)) else (none)))) = some (r1, r2, r3, r4) := h; clear h; replace H := Option.bind_eq_some_iff.mp H; obtain ⟨⟨t120, t123⟩, A40, H⟩ := H; replace H : ((trustquorummake_Tape_Range.f s0_0 t123 1 (mn a1 5)).bind fun bt124 => (if 0 ≤ bt124.1 then (if bt124.1 ≤ (t120.length : Int) then ((some (t120.take (bt124.1 : Int).toNat : List Int)).bind fun y126 => (trustquorummake_trust.l0 k a1 a2 y126 (y126.length : Int) 0 s0_0 bt124.2 0 ([] : List Int))) else (none)) else (none))) = some (r1, r2, r3, r4) := H; have A4 := am A40; clear A40; obtain ⟨ji5, hji5⟩ : ∃ j_ : Int, (mn a1 5) = j_ := ⟨_, rfl⟩; replace H : ((trustquorummake_Tape_Range.f s0_0 t123 1 (ji5)).bind fun bt124 => (if 0 ≤ bt124.1 then (if bt124.1 ≤ (t120.length : Int) then ((some (t120.take (bt124.1 : Int).toNat : List Int)).bind fun y126 => (trustquorummake_trust.l0 k a1 a2 y126 (y126.length : Int) 0 s0_0 bt124.2 0 ([] : List Int))) else (none)) else (none))) = some (r1, r2, r3, r4) := by first | (rw [hji5] at H; exact H) | (simp only [hji5] at H ⊢; exact H)
 (try rw [hji5] at A4); (try (have hji5h : ji5 ≤ 5 := by (rw [← hji5]; unfold mn; (repeat' split) <;> omega))); (try (have hji5g : ji5 ≤ 64 := by omega)); have hji5_ : (if 5 < a1 then 5 else a1) = ji5 := hji5; replace H := Option.bind_eq_some_iff.mp H; obtain ⟨⟨t124, t125⟩, A60, H⟩ := H; replace H : (if 0 ≤ t124 then (if t124 ≤ (t120.length : Int) then ((some (t120.take (t124 : Int).toNat : List Int)).bind fun y126 => (trustquorummake_trust.l0 k a1 a2 y126 (y126.length : Int) 0 s0_0 t125 0 ([] : List Int))) else (none)) else (none)) = some (r1, r2, r3, r4) := H; have A6 := am A60; clear A60
 by_cases c7 : 0 ≤ t124
 ·
  rw [if_pos c7] at H; have c7b0 := eq_true c7; have c7b1 : decide (0 ≤ t124) = true := decide_eq_true c7; clear c7
  by_cases c8 : t124 ≤ (t120.length : Int)
  ·
   rw [if_pos c8] at H; have c8b0 := eq_true c8; have c8b1 : decide (t124 ≤ (t120.length : Int)) = true := decide_eq_true c8; clear c8; obtain ⟨y126, hy126⟩ : ∃ y_ : List Int, y_ = (t120.take (t124 : Int).toNat) := ⟨_, rfl⟩; replace H : (trustquorummake_trust.l0 k a1 a2 y126 (y126.length : Int) 0 s0_0 t125 0 ([] : List Int)) = some (r1, r2, r3, r4) := by first | (rw [hy126]; with_reducible exact H) | (have H2_ := (Option.bind_some _ _).symm.trans H; rw [hy126]; with_reducible exact H2_) | (have H2_ := (Option.bind_some _ _).symm.trans H; with_reducible exact H2_) | with_reducible exact H | (rw [hy126]; exact H) | exact H
   have Ny126 := am hy126; clear hy126; have H' := am H; clear H
   go_enter Try.func62, Try.ntmps62
   go_wp2_with (first | ((with_reducible refine gate_dst (N := 6) rfl ?_); refine box_event ?hg (N := 6) ?hd (cs := #[.int .i64 0, .slice none 0 0, .slice none 0 0]) (t := 48) ?hr ?_; (case hd => rfl); (case hg => rfl); (case hr => first | (go_simp; done) | (go_simp; rfl)); intro gb118 hg w9 hbox hb; replace HB := bs HB hb; have BK118 := am (hbox); have GW118 := am ((by rw [hg]; exact (keep_size (w := w) (g := g) (row := none) HK.out) : w.heap.size ≤ gb118)); have GE118 := am ((Nat.le_trans HW0.out (by rw [hg]; exact (keep_size (w := w) (g := g) (row := none) HK.out) : w.heap.size ≤ gb118) : w0.heap.size ≤ gb118)); replace HK := am (KeepBut.trans HK.out (KeepBut.of_below hb g none) (.inl rfl)); have NB0_118 := am ((by rw [hg]; exact Nat.ne_of_lt (IsS78.lt (show IsS78 w0 _ g s0_0 s0_1 from by exact HI0.out)) : g ≠ gb118)); have NB118_0 := am ((by rw [hg]; exact Nat.ne_of_gt (IsS78.lt (show IsS78 w0 _ g s0_0 s0_1 from by exact HI0.out)) : gb118 ≠ g)); replace HI0 := am (IsS78.below HI0.out hb); clear hb hg) | ((with_reducible refine gate_dst (N := 7) rfl ?_); refine box_event ?hg (N := 7) ?hd (cs := #[.int .i64 0, .slice none 0 0, .slice none 0 0]) (t := 48) ?hr ?_; (case hd => rfl); (case hg => rfl); (case hr => first | (go_simp; done) | (go_simp; rfl)); intro gb119 hg w10 hbox hb; replace HB := bs HB hb; have BK119 := am (hbox); have GW119 := am ((by rw [hg]; exact (keep_size (w := w) (g := g) (row := none) HK.out) : w.heap.size ≤ gb119)); have GE119 := am ((Nat.le_trans HW0.out (by rw [hg]; exact (keep_size (w := w) (g := g) (row := none) HK.out) : w.heap.size ≤ gb119) : w0.heap.size ≤ gb119)); replace HK := am (KeepBut.trans HK.out (KeepBut.of_below hb g none) (.inl rfl)); have NB118_119 := nl hg BK118; have NB119_118 := ng hg BK118; replace BK118 := bb BK118 hb; have NB0_119 := am ((by rw [hg]; exact Nat.ne_of_lt (IsS78.lt (show IsS78 w0 _ g s0_0 s0_1 from by exact HI0.out)) : g ≠ gb119)); have NB119_0 := am ((by rw [hg]; exact Nat.ne_of_gt (IsS78.lt (show IsS78 w0 _ g s0_0 s0_1 from by exact HI0.out)) : gb119 ≠ g)); replace HI0 := am (IsS78.below HI0.out hb); clear hb hg) | (refine gA (some 14) Try.func94 #[.pointer (some ⟨g, 0, none⟩), .int .i64 a1] ?_; (with_reducible refine (trustquorummake_Tape_Order.calls k g s0_0 s0_1 a1 t120 t123 w0 _ HI0.out HB.out A4.out).mono ?_); rintro e w11 ⟨v121, rfl, ho0, hi, hb, hk⟩; refine ⟨_, rfl, ?_⟩; replace BK118 := kb BK118 hk NB118_0; replace BK119 := kb BK119 hk NB119_0; have HO122 := am (Kd.R_lower ho0 (keep_size (w := w) (g := g) (row := none) HK.out)); replace HK := am (KeepBut.trans HK.out hk (.inl rfl)); replace HB := am (hb); replace HI0 := am (hi); (try clear hb); (try clear hk); (try clear hi); (try clear ho0)) | ((with_reducible refine gate_callee (f := 44) rfl ?_); refine goesL_ (some 19) rfl rfl Try.func44 (by kernel_rfl) rfl #[.pointer (some ⟨g, 0, none⟩), .int .i64 1, .int .i64 ji5] rfl (by (try simp only [List.map_toArray, List.map_cons, List.map_nil]); first | done | (simp only [hji5]; rfl) | rfl | (simp only [List.length_drop, List.length_take]; rfl)) ?_; (with_reducible refine (trustquorummake_Tape_Range.calls g s0_0 t123 1 ji5 t124 t125 w0 _ HI0.out HB.out A6.out).mono ?_); rintro e w12 ⟨rfl, hi, hb, hk⟩; refine ⟨_, rfl, ?_⟩; replace BK118 := kb BK118 hk NB118_0; replace BK119 := kb BK119 hk NB119_0; replace HO122 := am (Kd.R_mono (Kd.R_keep (IsS78.apart (show IsS78 w0 _ g s0_0 t123 from by exact HI0.out) HO122.out (by decide)) hk (fun _ h => h.2)) (fun _ h => h.1)); replace HK := am (KeepBut.trans HK.out hk (.inl rfl)); replace HB := am (hb); replace HI0 := am (hi); (try clear hb); (try clear hk); (try clear hi); obtain ⟨Ao13, co13, eo13⟩ := Kd.R_slice HO122.out; subst eo13; have q14 : (t124 : Int) ≤ ((t120.length : Int) : Int) := od; obtain ⟨i014, hi014, _, hsz14, _⟩ := info_parts info3; have hcut14 := cut_to (P := Try.prog) 22 3 .i64 Try.underlying22 hi014 Ao13 t120.length co13 t124 od q14 (Kd.R_reads' HO122.out).2.1; have hr14 := Kd.R_take (m := (t124 : Int).toNat) HO122.out (by omega); have hy14 : y126.length = (t124 : Int).toNat := (by rw [Ny126.out, List.length_take]; omega); rw [← Ny126.out] at hr14; rw [← hy14] at hr14 hcut14; clear hy14 hi014 hsz14 HO122; have HO128 := am hr14; clear hr14; replace q14 := eq_true q14))
   go_loopg [22] k (fun kq v22 w' => ∃ (x22_1 : Int) (x120001_1 : List Int) (u120001 : Value), v22 = .int .i64 x22_1 ∧ Aside0 (trustquorummake_trust.l0 kq a1 a2 y126 (y126.length : Int) x22_1 s0_0 t125 0 x120001_1 = some (r1, r2, r3, r4)) ∧ Aside0 (kq ≤ k) ∧ Aside0 (Kd.R (Kd.int .i64) 3 w' w.heap.size (fun k_ => some k_ ≠ (u120001 : Value).ownBlock) (.slice Ao13 y126.length co13) y126) ∧ Aside0 (Kd.R (Kd.int .i64) 3 w' w.heap.size (fun k_ => some k_ ≠ ((.slice Ao13 y126.length co13) : Value).ownBlock) u120001 x120001_1) ∧ Aside0 (w'.heap[gb118]? = some (.cells #[.int .i64 0, (.slice none 0 0), (.slice none 0 0)] 48 (0, 0))) ∧ Aside0 (w'.heap[gb119]? = some (.cells #[.int .i64 0, u120001, (.slice none 0 0)] 48 (0, 0))) ∧ Aside0 (IsS78 w0 w' g s0_0 t125) ∧ Aside0 (KeepBut w w' g none) ∧ Aside0 (Below w0.heap.size w0 w'))
   case atStart => exact ⟨(0), (([] : List Int)), (.slice none 0 0), ar, H', ⟨Nat.le_refl _⟩, ⟨by exact Kd.R_mono HO128.out (fun _ hk => (by simp [Value.ownBlock]))⟩, ⟨by first | exact Kd.R_nil _ _ _ _ _ | exact Kd.N_nil _ _ _ _ _ | exact Kd.V_nil _ _ _ _ _ | exact Kd.Q_nil _ _ _ _ _ | exact Kd.S_nil _ _ _ _ _⟩, ⟨by exact BK118.out⟩, ⟨by exact BK119.out⟩, ⟨by exact HI0.out⟩, ⟨by exact HK.out⟩, ⟨by exact HB.out⟩⟩
   case round =>
    clear H'; (try clear q1); (try clear p2); (try clear c4); (try clear c6); (try clear p6); (try clear c7); (try clear c7b0); (try clear c7b1); (try clear c8); (try clear c8b0); (try clear c8b1); (try clear c9); (try clear q14); (try clear q14); obtain ⟨x22_1, x120001_1, u120001, rfl, HA, HK1, HO_20, HO_120001, BK118, BK119, HI0, HK, HB⟩ := hrel
    cases gk with
    | zero => exact absurd HA.out (by simp [trustquorummake_trust.l0])
    | succ k1 =>
     have H := HA.out; clear HA; simp only [trustquorummake_trust.l0] at H
     by_cases c15 : x22_1 < (y126.length : Int)
     ·
      rw [if_pos c15] at H; have c15b0 : decide (x22_1 < (y126.length : Int)) = true := decide_eq_true c15; clear c15
      by_cases c16 : 0 ≤ x22_1
      ·
       rw [if_pos c16] at H; have c16b0 : decide (0 ≤ x22_1) = true := decide_eq_true c16; clear c16
       by_cases c17 : x22_1 < (y126.length : Int)
       ·
        rw [if_pos c17] at H; have c17b0 : decide (x22_1 < (y126.length : Int)) = true := decide_eq_true c17; clear c17
        by_cases c18 : x120001_1.length < 17592186044416
        ·
         rw [if_pos c18] at H; have LMc18 := am c18; clear c18; obtain ⟨y130, hy130⟩ : ∃ y_ : List Int, y_ = (x120001_1 ++ [rd y126 x22_1]) := ⟨_, rfl⟩; replace H : (trustquorummake_trust.l0 k1 a1 a2 y126 (y126.length : Int) (wrap64 (x22_1 + 1)) s0_0 t125 0 y130) = some (r1, r2, r3, r4) := by first | (rw [hy130]; with_reducible exact H) | (have H2_ := (Option.bind_some _ _).symm.trans H; rw [hy130]; with_reducible exact H2_) | (have H2_ := (Option.bind_some _ _).symm.trans H; with_reducible exact H2_) | with_reducible exact H | (rw [hy130]; exact H) | exact H
         have Ny130 := am hy130; clear hy130; have H' := am H; clear H; have p129 : 0 ≤ (x22_1 : Int) := od; have q129 : x22_1 < (y126.length : Int) := od; obtain ⟨ad129, e129, hx129_0⟩ := Kd.at_int (Kd.R_reads' HO_20.out).2.2 x22_1 p129 q129
         cases e129
         replace p129 := eq_true p129; replace q129 := eq_true q129; have hnb19 := NB119_118.out; have hnc19 := NB118_119.out; have hnb20 := NB119_0.out; have hnc20 := NB0_119.out; obtain ⟨hcz21_0, hcz21_1, hcz21_2, hfz21_0, hfz21_1, hfz21_2⟩ := blkC3 BK119.out
         go_wp2_with (first | ((with_reducible refine gate_builtin (b := .append) (xs := #[.tmp 27, .tmp 29]) rfl ?_); at_builtin; refine Kd.R_append (Kd.int .i64) w.heap.size rfl (.tmp 27) (.tmp 29) 22 3 (.int .i64 0) 8 rfl Try.underlying22 info3 rfl (by decide) (by omega) u120001 x120001_1 (rd y126 x22_1) [.int .i64 (rd y126 x22_1)] (fun k_ => some k_ ≠ (.slice (some ad129) y126.length co13 : Value).ownBlock) (fun _ => False) rfl rfl ?aP (fun _ hk => hk.elim) ?aF ?aO (Below.refl _ _) ?aS ?aL ?_; (case aP => exact rfl); (case aF => exact (fun k_ hk => Kd.fresh' (Kd.R_lt HO_20.out) k_ hk)); (case aO => exact HO_120001.out); (case aS => exact (keep_size (w := w) (g := g) (row := none) HK.out)); (case aL => have := LMc18.out; omega); intro v131 w22 ho hb hg hat; rw [← Ny130.out] at ho; replace HO_20 := am (Kd.R_after (ok := (fun _ => True)) (by exact Kd.R_mono HO_20.out (fun _ hk => ⟨trivial, hk⟩)) hg hat); replace BK118 := am (blk_grown BK118.out hg (Kd.R_ne HO_120001.out BK118.out (by decide))); replace BK119 := am (blk_grown BK119.out hg (Kd.R_ne HO_120001.out BK119.out (by decide))); replace HI0 := am (IsS78.grown HI0.out hg (IsS78.own_ne HI0.out HO_120001.out (by decide))); replace HB := am (below_weaken HB.out HL.out hb); replace HK := am (KeepBut.trans HK.out (KeepBut.of_grown hg g) (Kd.R_base2 HO_120001.out)); have HO132 := am (ho); clear HO_120001; clear ho hb hg hat; obtain ⟨Ao23, co23, eo23⟩ := Kd.R_slice HO132.out; subst eo23; obtain ⟨hcz24_0, hcz24_1, hcz24_2, hfz24_0, hfz24_1, hfz24_2⟩ := blkC3 BK119.out))
         go_roundg k1
         case measure => have := HK1.out; omega
         case rel => exact ⟨(wrap64 (x22_1 + 1)), (y130), (.slice Ao23 y130.length co23), ar, H', ⟨by have := HK1.out; omega⟩, ⟨by exact Kd.R_mono (Kd.R_far (p := ⟨gb119, 1, none⟩) (Kd.R_types HO_20.out BK119.out (by decide)) (fun _ hk => hk.2) (.slice Ao23 y130.length co23)) (fun _ hk => hk.1.2)⟩, ⟨by exact Kd.R_mono (Kd.R_far (p := ⟨gb119, 1, none⟩) (Kd.R_types HO132.out BK119.out (by decide)) (fun _ hk => hk.2) (.slice Ao23 y130.length co23)) (fun _ hk => hk.1)⟩, ⟨bo⟩, ⟨bo⟩, ⟨cl1⟩, ⟨cl2⟩, ⟨cl3⟩⟩
        ·
         rw [if_neg c18] at H; exact absurd H (by simp)
       ·
        rw [if_neg c17] at H; exact absurd H (by simp)
      ·
       rw [if_neg c16] at H; exact absurd H (by simp)
     ·
      rw [if_neg c15] at H; have c15b0 : decide (x22_1 < (y126.length : Int)) = false := decide_eq_false c15; clear c15
      by_cases c25 : a2 > 1
      ·
       rw [if_pos c25] at H; have c25b0 : decide (1 < a2) = true := decide_eq_true c25; clear c25; obtain ⟨y133, hy133⟩ : ∃ y_ : List Int, y_ = (([0, 0, 1, 1, 2, 3] : List Int)) := ⟨_, rfl⟩; replace H : ((trustquorummake_Tape_Pick.f s0_0 t125 y133).bind fun bt136 => (trustquorummake_trust.l1 k1 a1 a2 bt136.1 s0_0 bt136.2 0 x120001_1 ([] : List (S48)))) = some (r1, r2, r3, r4) := by first | (rw [hy133]; with_reducible exact H) | (have H2_ := (Option.bind_some _ _).symm.trans H; rw [hy133]; with_reducible exact H2_) | (have H2_ := (Option.bind_some _ _).symm.trans H; with_reducible exact H2_) | with_reducible exact H | (rw [hy133]; exact H) | exact H
       have Ny133 := am hy133; clear hy133; replace H := Option.bind_eq_some_iff.mp H; obtain ⟨⟨t136, t137⟩, A260, H⟩ := H; replace H : (trustquorummake_trust.l1 k1 a1 a2 t136 s0_0 t137 0 x120001_1 ([] : List (S48))) = some (r1, r2, r3, r4) := H; have A26 := am A260; clear A260; have H' := am H; clear H
       go_wp2_with (first | ((with_reducible refine gate_dst (N := 36) rfl ?_); refine Kd.R_lit (Kd.int .i64) _ 3 ?hg (N := 36) ?hd (xs := ([0, 0, 1, 1, 2, 3] : List Int)) (inner := [.int .i64 0, .int .i64 0, .int .i64 1, .int .i64 1, .int .i64 2, .int .i64 3]) (ok := fun _ => True) (okp := fun _ => True) ?hr ?hp (fun _ hk => hk) trivial (Below.refl _ _) (Nat.le_refl _) (by simp) ?_; (case hd => rfl); (case hg => rfl); (case hr => first | (go_simp; done) | (go_simp; rfl)); (case hp => exact (Reps.one (show Kd.M (Kd.int .i64) _ _ _ 0 [.int .i64 0] from rfl) (Reps.one (show Kd.M (Kd.int .i64) _ _ _ 0 [.int .i64 0] from rfl) (Reps.one (show Kd.M (Kd.int .i64) _ _ _ 1 [.int .i64 1] from rfl) (Reps.one (show Kd.M (Kd.int .i64) _ _ _ 1 [.int .i64 1] from rfl) (Reps.one (show Kd.M (Kd.int .i64) _ _ _ 2 [.int .i64 2] from rfl) (Reps.one (show Kd.M (Kd.int .i64) _ _ _ 3 [.int .i64 3] from rfl) (Reps.none _ _)))))))); intro v134 w27 ho28 hb hg_ hnew_; clear hg_ hnew_; (first | rw [← Ny133.out] at ho28 | (simp only [Int.reduceToNat] at ho28; rw [← Ny133.out] at ho28)); have HO135 := am (Kd.R_lower (Kd.R_new' (Kd.R_new' ho28 (Kd.R_lt HO_20.out)) (Kd.R_lt HO_120001.out)) (keep_size (w := w) (g := g) (row := none) HK.out)); replace HO_20 := am (Kd.R_elder' HO_20.out (Kd.R_base ho28) hb); replace HO_120001 := am (Kd.R_elder' HO_120001.out (Kd.R_base ho28) hb); replace BK118 := bb BK118 hb; replace BK119 := bb BK119 hb; replace HI0 := am (IsS78.below HI0.out hb); replace HK := am (KeepBut.trans HK.out (KeepBut.of_below hb g none) (.inl rfl)); replace HB := bs HB hb; clear hb ho28; obtain ⟨Ao29, co29, eo29⟩ := Kd.R_slice HO135.out; subst eo29) | (refine gA (some 37) Try.func51 #[.pointer (some ⟨g, 0, none⟩), .slice Ao29 y133.length co29] ?_; (with_reducible refine (trustquorummake_Tape_Pick.calls g s0_0 t125 _ _ y133 t136 t137 w0 _ HI0.out HB.out ((Kd.R_reads' HO135.out).2.2) ((Kd.R_reads' HO135.out).2.1) (far_slice (IsS78.own_ne HI0.out HO135.out (by decide))) A26.out).mono ?_); rintro e w30 ⟨rfl, hi, hb, hk⟩; refine ⟨_, rfl, ?_⟩; replace HO_20 := am (Kd.R_mono (Kd.R_keep (IsS78.apart (show IsS78 w0 _ g s0_0 t125 from by exact HI0.out) HO_20.out (by decide)) hk (fun _ h => h.2)) (fun _ h => h.1)); replace HO_120001 := am (Kd.R_mono (Kd.R_keep (IsS78.apart (show IsS78 w0 _ g s0_0 t125 from by exact HI0.out) HO_120001.out (by decide)) hk (fun _ h => h.2)) (fun _ h => h.1)); replace BK118 := kb BK118 hk NB118_0; replace BK119 := kb BK119 hk NB119_0; replace HO135 := am (Kd.R_mono (Kd.R_keep (IsS78.apart (show IsS78 w0 _ g s0_0 t125 from by exact HI0.out) HO135.out (by decide)) hk (fun _ h => h.2)) (fun _ h => h.1)); replace HK := am (KeepBut.trans HK.out hk (.inl rfl)); replace HB := am (hb); replace HI0 := am (hi); (try clear hb); (try clear hk); (try clear hi)))
       go_loopg [11] k1 (fun kq v11 w' => ∃ (x11_2 : Int) (x1001_2 : Int) (x120002_2 : List (S48)) (u120002 : Value), v11 = .int .i64 x11_2 ∧ Aside0 (trustquorummake_trust.l1 kq a1 a2 x11_2 s0_0 x1001_2 0 x120001_1 x120002_2 = some (r1, r2, r3, r4)) ∧ Aside0 (kq ≤ k1) ∧ Aside0 (Kd.R (Kd.int .i64) 3 w' w.heap.size (fun _ => True) u120001 x120001_1) ∧ Aside0 (Kd.R k48 48 w' w.heap.size (fun k_ => some k_ ≠ (u120001 : Value).ownBlock ∧ k_ ≠ gb118 ∧ k_ ≠ gb119) u120002 x120002_2) ∧ Aside0 (w'.heap[gb118]? = some (.cells #[.int .i64 0, (.slice none 0 0), (.slice none 0 0)] 48 (0, 0))) ∧ Aside0 (w'.heap[gb119]? = some (.cells #[.int .i64 0, u120001, u120002] 48 (0, 0))) ∧ Aside0 (IsS78 w0 w' g s0_0 x1001_2) ∧ Aside0 (KeepBut w w' g none) ∧ Aside0 (Below w0.heap.size w0 w'))
       case atStart => exact ⟨(t136), (t137), (([] : List (S48))), (.slice none 0 0), ar, H', ⟨Nat.le_refl _⟩, ⟨by exact Kd.R_mono HO_120001.out (fun _ hk => trivial)⟩, ⟨by first | exact Kd.R_nil _ _ _ _ _ | exact Kd.N_nil _ _ _ _ _ | exact Kd.V_nil _ _ _ _ _ | exact Kd.Q_nil _ _ _ _ _ | exact Kd.S_nil _ _ _ _ _⟩, ⟨by exact BK118.out⟩, ⟨by exact BK119.out⟩, ⟨by exact HI0.out⟩, ⟨by exact HK.out⟩, ⟨by exact HB.out⟩⟩
       case round =>
        clear H'; (try clear c1); (try clear p1); (try clear q1); (try clear hx1); (try clear c2); (try clear p2); (try clear c4); (try clear c5); (try clear c6); (try clear p6); (try clear c7); (try clear c7b0); (try clear c7b1); (try clear c8); (try clear c8b0); (try clear c8b1); (try clear c9); (try clear p12); (try clear q12); (try clear hx12); (try clear q14); (try clear c15); (try clear c15b0); (try clear c16); (try clear c16b0); (try clear c17); (try clear c17b0); (try clear c18); (try clear c19); (try clear c20); (try clear c25); (try clear c25b0); (try clear hcz21_0 hcz21_1 hcz21_2); (try clear hcz24_0 hcz24_1 hcz24_2); (try clear hfz21_0 hfz21_1 hfz21_2); (try clear hfz24_0 hfz24_1 hfz24_2); (try clear hx129_0); (try clear p129); (try clear p2); (try clear p6); (try clear q1); (try clear q129); (try clear q14); obtain ⟨x11_2, x1001_2, x120002_2, u120002, rfl, HA, HK2, HO_120001, HO_120002, BK118, BK119, HI0, HK, HB⟩ := hrel
        cases gk with
        | zero => exact absurd HA.out (by simp [trustquorummake_trust.l1])
        | succ k2 =>
         have H := HA.out; clear HA; simp only [trustquorummake_trust.l1] at H
         by_cases c31 : x11_2 > 0
         ·
          rw [if_pos c31] at H; have c31b0 : decide (0 < x11_2) = true := decide_eq_true c31; clear c31; replace H := Option.bind_eq_some_iff.mp H; obtain ⟨⟨t138, t139, t142, t145⟩, A320, H⟩ := H; replace H : (if x120002_2.length < 2513169434916 then (trustquorummake_trust.l1 k2 a1 a2 (wrap64 (x11_2 - 1)) s0_0 t145 0 x120001_1 (x120002_2 ++ [(⟨t138, t139, t142⟩ : S48)])) else (none)) = some (r1, r2, r3, r4) := H; have A32 := am A320; clear A320
          by_cases c33 : x120002_2.length < 2513169434916
          ·
           rw [if_pos c33] at H; have LMc33 := am c33; clear c33; obtain ⟨y146, hy146⟩ : ∃ y_ : List (S48), y_ = (x120002_2 ++ [(⟨t138, t139, t142⟩ : S48)]) := ⟨_, rfl⟩; replace H : (trustquorummake_trust.l1 k2 a1 a2 (wrap64 (x11_2 - 1)) s0_0 t145 0 x120001_1 y146) = some (r1, r2, r3, r4) := by first | (rw [hy146]; with_reducible exact H) | (have H2_ := (Option.bind_some _ _).symm.trans H; rw [hy146]; with_reducible exact H2_) | (have H2_ := (Option.bind_some _ _).symm.trans H; with_reducible exact H2_) | with_reducible exact H | (rw [hy146]; exact H) | exact H
           have Ny146 := am hy146; clear hy146; have H' := am H; clear H
           try go_wp2
           replace HO_120001 := am (Kd.R_drew HO_120001.out); replace HO_120002 := am (Kd.R_drew HO_120002.out); replace BK118 := am (blk_drew BK118.out); replace BK119 := am (blk_drew BK119.out); replace HI0 := am (IsS78.drew HI0.out); replace HK := am (keep_drew HK.out); replace HB := am (below_drew1 HB.out); refine start_ (n := 11) (S := fun w' => w'.cell? ⟨gb119, 0, none⟩ = some (.int .i64 0) ∧ w'.cell? ⟨gb119, 1, none⟩ = some (u120001) ∧ w'.cell? ⟨gb119, 2, none⟩ = some (u120002)) (ds := [10]) #[false, false, false, false, false, false, false, false, false, false, false] (by kernel_rfl) rfl rfl ⟨(blk_cell BK119.out 0).trans rfl, (blk_cell BK119.out 1).trans rfl, (blk_cell BK119.out 2).trans rfl⟩ (fun hHeld => ?_); refine with_tabW trustquorummake_trust.tab12 trustquorummake_trust.bits12 (fun HT_ HW_ => ?_); generalize wr.drew = w34 at HO_120001 HO_120002 BK118 BK119 HI0 HK HB hHeld ⊢; refine pq (i := 0) (N := some 42) HT_ ?_
           refine pq (i := 2) (N := some 44) HT_ ?_
           refine pq (i := 3) (N := some 45) HT_ ?_
           refine pq (i := 4) (N := some 46) HT_ ?_
           refine pq (i := 5) (N := some 47) HT_ ?_
           refine tq (i := 1) (N := some 43) HT_ HW_ hHeld ?_
           refine one_ (i := 6) (N := some 48) #[true, true, true, true, true, true, true, false, false, false, false] rfl rfl (one_of HT_.out (by kernel_rfl)) (by decide) (fun K hK => ?_); refine goes_ Try.func62 (by kernel_rfl) rfl #[.pointer (some ⟨g, 0, none⟩), .int .i64 a1, .int .i64 (wrap64 (a2 - 1))] (by rfl) rfl rfl ax ?_
           with_reducible refine (ih k2 (by have := HK1.out; have := HK2.out; omega) g s0_0 x1001_2 a1 (wrap64 (a2 - 1)) t138 t139 t142 t145 w0 _ ?side1 ?side2 A32.out).mono ?_
           (case side1 => exact HI0.out)
           (case side2 => exact HB.out)
           rintro e w35 ⟨v140, v143, rfl, ho0, ho1, hi, hb, hk⟩; refine ⟨_, rfl, ?_⟩; have HO141 := am (Kd.R_lower (Kd.R_new' ho0 (Kd.R_lt HO_120001.out)) (keep_size (w := w) (g := g) (row := none) HK.out)); have HO144 := am (Kd.R_lower (Kd.R_newB (Kd.R_newB (Kd.R_new' (Kd.R_new' ho1 (Kd.R_lt HO_120001.out)) (Kd.R_lt HO_120002.out)) BK118.out) BK119.out) (keep_size (w := w) (g := g) (row := none) HK.out)); replace HO_120001 := am (Kd.R_mono (Kd.R_told (Kd.R_oldK (IsS78.apart (show IsS78 w0 _ g s0_0 x1001_2 from by exact HI0.out) HO_120001.out (by decide)) hk) (Kd.R_base ho0)) (fun _ h_ => h_.1)); replace HO_120002 := am (Kd.R_mono (Kd.R_told (Kd.R_told (Kd.R_oldK (IsS78.apart (show IsS78 w0 _ g s0_0 x1001_2 from by exact HI0.out) HO_120002.out (by decide)) hk) (Kd.R_base ho0)) (Kd.R_base ho1)) (fun _ h_ => h_.1)); replace BK118 := kb BK118 hk NB118_0; replace BK119 := kb BK119 hk NB119_0; replace HK := am (KeepBut.trans HK.out hk (.inl rfl)); replace HB := am (hb); replace HI0 := am (hi); (try clear hb); (try clear hk); (try clear hi); (try clear ho0); (try clear ho1); obtain ⟨Ao37, co37, eo37⟩ := Kd.R_slice HO141.out; (first | subst eo37 | (injection eo37 with f1_ f2_ f3_; have f4_ := f1_.symm; have f5_ := f3_.symm; clear f1_ f2_ f3_; subst f4_; subst f5_)); obtain ⟨Ao38, co38, eo38⟩ := Kd.R_slice HO144.out
           (first | subst eo38 | (injection eo38 with f1_ f2_ f3_; have f4_ := f1_.symm; have f5_ := f3_.symm; clear f1_ f2_ f3_; subst f4_; subst f5_)); refine hK.out _ _ ⟨(blk_cell BK119.out 0).trans rfl, (blk_cell BK119.out 1).trans rfl, (blk_cell BK119.out 2).trans rfl⟩ (fun hHeld => ?_); clear hK K; refine norm_ (a' := ?_) ?_ ?_; rotate_left
           ·
            show Act.put _ (some 48) _ = _
            exact pu
           refine one_ (i := 7) (N := some 49) #[true, true, true, true, true, true, true, true, false, false, false] rfl rfl (one_of HT_.out (by kernel_rfl)) (by decide) (fun K hK => ?_); refine value_ (w1 := ?_) (v := ?_) (by rfl) rfl ?_ ?_; rotate_left 2
           ·
            go_simp
            constructor
            ·
             rfl
            ·
             rfl
           refine hK.out _ _ ⟨(blk_cell (blk_alloc BK119.out _) 0).trans rfl, (blk_cell (blk_alloc BK119.out _) 1).trans rfl, (blk_cell (blk_alloc BK119.out _) 2).trans rfl⟩ (fun hHeld => ?_); clear hK K; refine norm_ (a' := ?_) ?_ ?_; rotate_left
           ·
            show Act.put _ (some 49) _ = _
            exact pu
           refine one_ (i := 8) (N := some 50) #[true, true, true, true, true, true, true, true, true, false, false] rfl rfl (one_of HT_.out (by kernel_rfl)) (by decide) (fun K hK => ?_); refine Kd.R_append_step k48 w.heap.size (by rfl) (.tmp 43) (.tmp 49) 46 48 (.agg #[(.int .i64 0), (.slice none 0 0), (.slice none 0 0)]) 56 rfl Try.underlying46 info48 rfl (by decide) (by omega) u120002 x120002_2 (⟨t138, t139, t142⟩ : S48) [.int .i64 t138, .slice Ao37 t139.length co37, .slice Ao38 t142.length co38] (fun k_ => some k_ ≠ (u120001 : Value).ownBlock ∧ k_ ≠ gb118 ∧ k_ ≠ gb119) (fun k_ => ((fun k_ => some k_ ≠ (u120001 : Value).ownBlock ∧ k_ ≠ gb118 ∧ k_ ≠ gb119)) k_ ∧ some k_ ≠ (u120002 : Value).ownBlock) rfl rfl ?aP (fun _ hk => hk) ?aF ?aO (Below.refl _ _) ?aS ?aL ?_
           (case aP => exact k48_mkM _ _ _ (⟨t138, t139, t142⟩ : S48) (Kd.R_mono (Kd.R_types (Kd.R_types (Kd.R_apart' (HO141.out) (Kd.R_typed HO_120002.out) (by decide)) BK118.out (by decide)) BK119.out (by decide)) (fun k_ hk => ⟨⟨hk.1.1.1.2, ⟨hk.1.2, hk.2⟩⟩, hk.1.1.2⟩)) (Kd.R_mono (HO144.out) (fun k_ hk => ⟨⟨hk.1.1.1.2, ⟨hk.1.2, hk.2⟩⟩, hk.1.1.2⟩)))
           (case aF => exact (fun k_ hk => ⟨Kd.fresh' (Kd.R_lt HO_120001.out) k_ hk, Kd.freshB BK118.out k_ hk, Kd.freshB BK119.out k_ hk⟩))
           (case aO => exact (by exact Kd.R_mono HO_120002.out (fun _ hk => ⟨hk.1.1.1, ⟨hk.1.1.2.1, hk.1.1.2.2⟩⟩)))
           (case aS => exact (keep_size (w := w) (g := g) (row := none) HK.out))
           (case aL => have := LMc33.out; omega)
           intro v147 w36 ho hb hg hat; rw [← Ny146.out] at ho; replace HO_120001 := am (Kd.R_over' HO_120001.out (Kd.R_typed HO_120002.out) (by decide) hg); replace BK118 := am (blk_grown BK118.out hg (Kd.R_away HO_120002.out (fun _ hk => hk.1.1.2.1))); replace BK119 := am (blk_grown BK119.out hg (Kd.R_away HO_120002.out (fun _ hk => hk.1.1.2.2))); replace HI0 := am (IsS78.grown HI0.out hg (IsS78.own_ne HI0.out HO_120002.out (by decide))); replace HB := am (below_weaken HB.out HL.out hb); replace HK := am (KeepBut.trans HK.out (KeepBut.of_grown hg g) (Kd.R_base2 HO_120002.out)); have HO148 := am (ho); clear HO_120002 HO141 HO144; clear ho hb hg hat; obtain ⟨Ao39, co39, eo39⟩ := Kd.R_slice HO148.out; (first | subst eo39 | (injection eo39 with f1_ f2_ f3_; have f4_ := f1_.symm; have f5_ := f3_.symm; clear f1_ f2_ f3_; subst f4_; subst f5_)); refine hK.out _ _ ⟨(blk_cell BK119.out 0).trans rfl, (blk_cell BK119.out 1).trans rfl, (blk_cell BK119.out 2).trans rfl⟩ (fun hHeld => ?_); clear hK K; refine norm_ (a' := ?_) ?_ ?_; rotate_left
           ·
            show Act.put _ (some 50) _ = _
            exact pu
           refine pq (i := 9) (N := some 51) HT_ ?_
           refine last_ (i := 10) (N := none) #[true, true, true, true, true, true, true, true, true, true, true] rfl rfl (one_of HT_.out (by kernel_rfl)) (by decide) (fun K hK => ?_); have hs40 : w36.cell? ⟨gb119, 2, none⟩ = some (u120002) := (blk_cell BK119.out 2).trans rfl; have hfs40 := blk_frozen BK119.out 2; have hns40_0 := NB118_119.out; have hms40_0 := NB119_118.out; refine skip_ (w1 := ?_) (by rfl) rfl ?_ ?_; rotate_left
           ·
            go_simp; rfl
           refine hK.out _ _ ?_; clear hK K; refine done_ (done_of HT_.out (by kernel_rfl)) ?_
           try go_wp2
           go_roundg k2
           case measure => have := HK1.out; have := HK2.out; omega
           case rel => exact ⟨(wrap64 (x11_2 - 1)), (t145), (y146), (.slice Ao39 y146.length co39), ar, H', ⟨by have := HK1.out; have := HK2.out; omega⟩, ⟨by exact Kd.R_mono (Kd.R_far (p := ⟨gb119, 2, none⟩) (Kd.R_types HO_120001.out BK119.out (by decide)) (fun _ hk => hk.2) (.slice Ao39 y146.length co39)) (fun _ hk => trivial)⟩, ⟨by exact (Kd.R_far (p := ⟨gb119, 2, none⟩) HO148.out (fun _ hk => hk.2.2) (.slice Ao39 y146.length co39))⟩, ⟨bo⟩, ⟨bo⟩, ⟨cl1⟩, ⟨cl2⟩, ⟨cl3⟩⟩
          ·
           rw [if_neg c33] at H; exact absurd H (by simp)
         ·
          rw [if_neg c31] at H; have c31b0 : decide (0 < x11_2) = false := decide_eq_false c31; clear c31
          by_cases c41 : (x120002_2.length : Int) > 0
          ·
           rw [if_pos c41] at H; have c41b0 : decide (0 < (x120002_2.length : Int)) = true := decide_eq_true c41; have c41b1 : decide (0 < x120002_2.length) = true := decide_eq_true (by omega); clear c41; replace H := Option.bind_eq_some_iff.mp H; obtain ⟨⟨t149, t150⟩, A420, H⟩ := H; replace H : (if t149 = 0 then ((trustquorummake_Tape_Range.f s0_0 t150 1 (wrap64 ((x120002_2.length : Int)))).bind fun bt151 => (some (bt151.1, ([] : List Int), x120002_2, bt151.2))) else ((trustquorummake_Tape_Range.f s0_0 t150 1 (wrap64 ((x120001_1.length : Int) + (x120002_2.length : Int)))).bind fun bt153 => (some (bt153.1, x120001_1, x120002_2, bt153.2)))) = some (r1, r2, r3, r4) := H; have A42 := am A420; clear A420
           by_cases c43 : t149 = 0
           ·
            rw [if_pos c43] at H; have c43b0 : (t149 == 0) = true := beq_iff_eq.mpr c43; have c43b1 : (t149 != 0) = false := bne_eq_false_iff_eq.mpr c43; clear c43; replace H := Option.bind_eq_some_iff.mp H; obtain ⟨⟨t151, t152⟩, A440, H⟩ := H; replace H : (some (t151, ([] : List Int), x120002_2, t152)) = some (r1, r2, r3, r4) := H; have A44 := am A440; clear A440; simp only [Option.some.injEq, Prod.mk.injEq] at H; obtain ⟨rfl, rfl, rfl, rfl⟩ := H; have hnb45 := NB119_118.out; have hnc45 := NB118_119.out; have hnb46 := NB119_0.out; have hnc46 := NB0_119.out; obtain ⟨hcz47_0, hcz47_1, hcz47_2, hfz47_0, hfz47_1, hfz47_2⟩ := blkC3 BK119.out; obtain ⟨Ao48, co48, eo48⟩ := Kd.R_slice HO_120002.out; subst eo48
            go_wp2_with (first | (go_at_call 10; (with_reducible refine (trustquorummake_Tape_N.calls g s0_0 x1001_2 3 t149 t150 w0 _ HI0.out HB.out A42.out).mono ?_); rintro e w49 ⟨rfl, hi, hb, hk⟩; replace HO_120001 := am (Kd.R_mono (Kd.R_keep (IsS78.apart (show IsS78 w0 _ g s0_0 x1001_2 from by exact HI0.out) HO_120001.out (by decide)) hk (fun _ h => h.2)) (fun _ h => h.1)); replace HO_120002 := am (Kd.R_mono (Kd.R_keep (IsS78.apart (show IsS78 w0 _ g s0_0 x1001_2 from by exact HI0.out) HO_120002.out (by decide)) hk (fun _ h => h.2)) (fun _ h => h.1)); replace BK118 := kb BK118 hk NB118_0; replace BK119 := kb BK119 hk NB119_0; replace HK := am (KeepBut.trans HK.out hk (.inl rfl)); replace HB := am (hb); replace HI0 := am (hi); (try clear hb); (try clear hk); (try clear hi); obtain ⟨hcz50_0, hcz50_1, hcz50_2, hfz50_0, hfz50_1, hfz50_2⟩ := blkC3 BK119.out) | (refine gA (some 70) Try.func44 #[.pointer (some ⟨g, 0, none⟩), .int .i64 1, .int .i64 (wrap64 ((x120002_2.length : Int)))] ?_; (with_reducible refine (trustquorummake_Tape_Range.calls g s0_0 t150 1 (wrap64 ((x120002_2.length : Int))) t151 t152 w0 _ ?side1 ?side2 A44.out).mono ?_); (case side1 => repeat (first | (with_reducible first | exact HI0.out | apply IsS78.alloc | apply IsS78.drewN | apply IsS78.drew | apply IsS78.set_1 | refine IsS78.far ?_ NB0_118.out _ | refine IsS78.far ?_ NB0_119.out _) | exact HI0.out)); (case side2 => repeat (first | (with_reducible first | exact HB.out | apply below_alloc | apply pw_below_drewN | apply below_drew1 | refine below_set ?_ (IsS78.ge HI0.out) | refine below_set ?_ GE118.out | refine below_set ?_ GE119.out) | exact HB.out)); rintro e w51 ⟨rfl, hi, hb, hk⟩; refine ⟨_, rfl, ?_⟩; replace HO_120001 := am (Kd.R_mono (Kd.R_keep (IsS78.apart (show IsS78 w0 _ g s0_0 t150 from cl1) (by exact (Kd.R_mono (Kd.R_far (p := ⟨gb119, 1, none⟩) (Kd.R_types HO_120001.out BK119.out (by decide)) (fun _ hk => hk.2) (.slice none 0 0)) (fun _ h_ => h_.1))) (by decide)) hk (fun _ h => h.2)) (fun _ h => h.1)); replace HO_120002 := am (Kd.R_mono (Kd.R_keep (IsS78.apart (show IsS78 w0 _ g s0_0 t150 from cl1) (by exact (Kd.R_far (p := ⟨gb119, 1, none⟩) HO_120002.out (fun _ hk => hk.2.2) (.slice none 0 0))) (by decide)) hk (fun _ h => h.2)) (fun _ h => h.1)); replace BK118 := am (KeepBut.blk hk (g' := gb118) (o := .cells #[.int .i64 0, .slice none 0 0, .slice none 0 0] 48 (0, 0)) bo NB118_0.out (by simp)); replace BK119 := am (KeepBut.blk hk (g' := gb119) (o := .cells #[.int .i64 0, .slice none 0 0, .slice Ao48 x120002_2.length co48] 48 (0, 0)) bo NB119_0.out (by simp)); replace HK := am (KeepBut.trans (kk HK cl2) hk (.inl rfl)); replace HB := am (hb); replace HI0 := am (hi); (try clear hb); (try clear hk); (try clear hi); obtain ⟨hcz52_0, hcz52_1, hcz52_2, hfz52_0, hfz52_1, hfz52_2⟩ := blkC3 BK119.out; have hnb53 := NB118_0.out; have hnc53 := NB0_118.out; have hcz54_0 : w51.cell? ⟨gb118, 0, none⟩ = some (.int .i64 0) := (blk_cell BK118.out 0).trans rfl; have hcz54_1 : w51.cell? ⟨gb118, 1, none⟩ = some (.slice none 0 0) := (blk_cell BK118.out 1).trans rfl; have hcz54_2 : w51.cell? ⟨gb118, 2, none⟩ = some (.slice none 0 0) := (blk_cell BK118.out 2).trans rfl; have hfz54_0 := blk_frozen BK118.out 0; have hfz54_1 := blk_frozen BK118.out 1; have hfz54_2 := blk_frozen BK118.out 2))
            refine bodyPost_ret (results_cell_row rfl _ _ gb118 48 #[.int .i64 t151, .slice none 0 0, .slice Ao48 x120002_2.length co48] (0, 0) _ rfl bo Try.underlying48 rfl (by kernel_rfl)) rfl ?_
            exact ⟨_, _, by first | rfl | (simp [errW_none, errW_some] <;> rfl) | (simp only [← hji5]; first | rfl | (simp [errW_none, errW_some] <;> rfl)) | (simp [*, errW_none, errW_some] <;> rfl), by first | exact Kd.R_nil _ _ _ _ _ | exact Kd.N_nil _ _ _ _ _ | exact Kd.V_nil _ _ _ _ _ | exact Kd.Q_nil _ _ _ _ _ | exact Kd.S_nil _ _ _ _ _, by exact Kd.R_mono (Kd.R_far (p := ⟨gb118, 2, none⟩) (Kd.R_far (p := ⟨gb118, 1, none⟩) (Kd.R_far (p := ⟨gb118, 0, none⟩) (Kd.R_far (p := ⟨gb119, 0, none⟩) HO_120002.out (fun _ hk => hk.2.2) (.int .i64 t151)) (fun _ hk => hk.2.1) (.int .i64 t151)) (fun _ hk => hk.2.1) (.slice none 0 0)) (fun _ hk => hk.2.1) (.slice Ao48 x120002_2.length co48)) (fun _ hk => (by simp [Value.ownBlock])), cl1, cl3, cl2⟩
           ·
            rw [if_neg c43] at H; have c43b0 : (t149 == 0) = false := beq_eq_false_iff_ne.mpr c43; have c43b1 : (t149 != 0) = true := bne_iff_ne.mpr c43; replace H := Option.bind_eq_some_iff.mp H; obtain ⟨⟨t153, t154⟩, A550, H⟩ := H; replace H : (some (t153, x120001_1, x120002_2, t154)) = some (r1, r2, r3, r4) := H; have A55 := am A550; clear A550; simp only [Option.some.injEq, Prod.mk.injEq] at H; obtain ⟨rfl, rfl, rfl, rfl⟩ := H; have hnb56 := NB119_118.out; have hnc56 := NB118_119.out; have hnb57 := NB119_0.out; have hnc57 := NB0_119.out; obtain ⟨hcz58_0, hcz58_1, hcz58_2, hfz58_0, hfz58_1, hfz58_2⟩ := blkC3 BK119.out; obtain ⟨Ao59, co59, eo59⟩ := Kd.R_slice HO_120002.out; subst eo59
            go_wp2_with (first | (go_at_call 10; (with_reducible refine (trustquorummake_Tape_N.calls g s0_0 x1001_2 3 t149 t150 w0 _ HI0.out HB.out A42.out).mono ?_); rintro e w60 ⟨rfl, hi, hb, hk⟩; replace HO_120001 := am (Kd.R_mono (Kd.R_keep (IsS78.apart (show IsS78 w0 _ g s0_0 x1001_2 from by exact HI0.out) HO_120001.out (by decide)) hk (fun _ h => h.2)) (fun _ h => h.1)); replace HO_120002 := am (Kd.R_mono (Kd.R_keep (IsS78.apart (show IsS78 w0 _ g s0_0 x1001_2 from by exact HI0.out) HO_120002.out (by decide)) hk (fun _ h => h.2)) (fun _ h => h.1)); replace BK118 := kb BK118 hk NB118_0; replace BK119 := kb BK119 hk NB119_0; replace HK := am (KeepBut.trans HK.out hk (.inl rfl)); replace HB := am (hb); replace HI0 := am (hi); (try clear hb); (try clear hk); (try clear hi); obtain ⟨hcz61_0, hcz61_1, hcz61_2, hfz61_0, hfz61_1, hfz61_2⟩ := blkC3 BK119.out; obtain ⟨Ao62, co62, eo62⟩ := Kd.R_slice HO_120001.out; subst eo62) | (refine gA (some 70) Try.func44 #[.pointer (some ⟨g, 0, none⟩), .int .i64 1, .int .i64 (wrap64 ((x120001_1.length : Int) + (x120002_2.length : Int)))] ?_; (with_reducible refine (trustquorummake_Tape_Range.calls g s0_0 t150 1 (wrap64 ((x120001_1.length : Int) + (x120002_2.length : Int))) t153 t154 w0 _ HI0.out HB.out A55.out).mono ?_); rintro e w63 ⟨rfl, hi, hb, hk⟩; refine ⟨_, rfl, ?_⟩; replace HO_120001 := am (Kd.R_mono (Kd.R_keep (IsS78.apart (show IsS78 w0 _ g s0_0 t150 from by exact HI0.out) HO_120001.out (by decide)) hk (fun _ h => h.2)) (fun _ h => h.1)); replace HO_120002 := am (Kd.R_mono (Kd.R_keep (IsS78.apart (show IsS78 w0 _ g s0_0 t150 from by exact HI0.out) HO_120002.out (by decide)) hk (fun _ h => h.2)) (fun _ h => h.1)); replace BK118 := kb BK118 hk NB118_0; replace BK119 := kb BK119 hk NB119_0; replace HK := am (KeepBut.trans HK.out hk (.inl rfl)); replace HB := am (hb); replace HI0 := am (hi); (try clear hb); (try clear hk); (try clear hi); obtain ⟨hcz64_0, hcz64_1, hcz64_2, hfz64_0, hfz64_1, hfz64_2⟩ := blkC3 BK119.out; have hnb65 := NB118_0.out; have hnc65 := NB0_118.out; have hcz66_0 : w63.cell? ⟨gb118, 0, none⟩ = some (.int .i64 0) := (blk_cell BK118.out 0).trans rfl; have hcz66_1 : w63.cell? ⟨gb118, 1, none⟩ = some (.slice none 0 0) := (blk_cell BK118.out 1).trans rfl; have hcz66_2 : w63.cell? ⟨gb118, 2, none⟩ = some (.slice none 0 0) := (blk_cell BK118.out 2).trans rfl; have hfz66_0 := blk_frozen BK118.out 0; have hfz66_1 := blk_frozen BK118.out 1; have hfz66_2 := blk_frozen BK118.out 2))
            refine bodyPost_ret (results_cell_row rfl _ _ gb118 48 #[.int .i64 t153, .slice Ao62 x120001_1.length co62, .slice Ao59 x120002_2.length co59] (0, 0) _ rfl bo Try.underlying48 rfl (by kernel_rfl)) rfl ?_
            exact ⟨_, _, by first | rfl | (simp [errW_none, errW_some] <;> rfl) | (simp only [← hji5]; first | rfl | (simp [errW_none, errW_some] <;> rfl)) | (simp [*, errW_none, errW_some] <;> rfl), by exact Kd.R_mono (Kd.R_far (p := ⟨gb118, 2, none⟩) (Kd.R_far (p := ⟨gb118, 1, none⟩) (Kd.R_far (p := ⟨gb118, 0, none⟩) (Kd.R_far (p := ⟨gb119, 0, none⟩) (Kd.R_types (Kd.R_types HO_120001.out BK119.out (by decide)) BK118.out (by decide)) (fun _ hk => hk.1.2) (.int .i64 t153)) (fun _ hk => hk.2) (.int .i64 t153)) (fun _ hk => hk.2) (.slice Ao62 x120001_1.length co62)) (fun _ hk => hk.2) (.slice Ao59 x120002_2.length co59)) (fun _ hk => trivial), by exact Kd.R_mono (Kd.R_far (p := ⟨gb118, 2, none⟩) (Kd.R_far (p := ⟨gb118, 1, none⟩) (Kd.R_far (p := ⟨gb118, 0, none⟩) (Kd.R_far (p := ⟨gb119, 0, none⟩) HO_120002.out (fun _ hk => hk.2.2) (.int .i64 t153)) (fun _ hk => hk.2.1) (.int .i64 t153)) (fun _ hk => hk.2.1) (.slice Ao62 x120001_1.length co62)) (fun _ hk => hk.2.1) (.slice Ao59 x120002_2.length co59)) (fun _ hk => hk.1), cl1, cl3, cl2⟩
          ·
           rw [if_neg c41] at H; have c41b0 : decide (0 < (x120002_2.length : Int)) = false := decide_eq_false c41; have c41b1 : decide (0 < x120002_2.length) = false := decide_eq_false (by omega); clear c41; replace H := Option.bind_eq_some_iff.mp H; obtain ⟨⟨t155, t156⟩, A670, H⟩ := H; replace H : (some (t155, x120001_1, x120002_2, t156)) = some (r1, r2, r3, r4) := H; have A67 := am A670; clear A670; simp only [Option.some.injEq, Prod.mk.injEq] at H; obtain ⟨rfl, rfl, rfl, rfl⟩ := H; have hnb68 := NB119_118.out; have hnc68 := NB118_119.out; have hnb69 := NB119_0.out; have hnc69 := NB0_119.out; obtain ⟨hcz70_0, hcz70_1, hcz70_2, hfz70_0, hfz70_1, hfz70_2⟩ := blkC3 BK119.out; obtain ⟨Ao71, co71, eo71⟩ := Kd.R_slice HO_120002.out; subst eo71; obtain ⟨Ao72, co72, eo72⟩ := Kd.R_slice HO_120001.out; subst eo72
           go_wp2_with (first | (refine gA (some 70) Try.func44 #[.pointer (some ⟨g, 0, none⟩), .int .i64 1, .int .i64 (wrap64 ((x120001_1.length : Int) + (x120002_2.length : Int)))] ?_; (with_reducible refine (trustquorummake_Tape_Range.calls g s0_0 x1001_2 1 (wrap64 ((x120001_1.length : Int) + (x120002_2.length : Int))) t155 t156 w0 _ HI0.out HB.out A67.out).mono ?_); rintro e w73 ⟨rfl, hi, hb, hk⟩; refine ⟨_, rfl, ?_⟩; replace HO_120001 := am (Kd.R_mono (Kd.R_keep (IsS78.apart (show IsS78 w0 _ g s0_0 x1001_2 from by exact HI0.out) HO_120001.out (by decide)) hk (fun _ h => h.2)) (fun _ h => h.1)); replace HO_120002 := am (Kd.R_mono (Kd.R_keep (IsS78.apart (show IsS78 w0 _ g s0_0 x1001_2 from by exact HI0.out) HO_120002.out (by decide)) hk (fun _ h => h.2)) (fun _ h => h.1)); replace BK118 := kb BK118 hk NB118_0; replace BK119 := kb BK119 hk NB119_0; replace HK := am (KeepBut.trans HK.out hk (.inl rfl)); replace HB := am (hb); replace HI0 := am (hi); (try clear hb); (try clear hk); (try clear hi); obtain ⟨hcz74_0, hcz74_1, hcz74_2, hfz74_0, hfz74_1, hfz74_2⟩ := blkC3 BK119.out; have hnb75 := NB118_0.out; have hnc75 := NB0_118.out; have hcz76_0 : w73.cell? ⟨gb118, 0, none⟩ = some (.int .i64 0) := (blk_cell BK118.out 0).trans rfl; have hcz76_1 : w73.cell? ⟨gb118, 1, none⟩ = some (.slice none 0 0) := (blk_cell BK118.out 1).trans rfl; have hcz76_2 : w73.cell? ⟨gb118, 2, none⟩ = some (.slice none 0 0) := (blk_cell BK118.out 2).trans rfl; have hfz76_0 := blk_frozen BK118.out 0; have hfz76_1 := blk_frozen BK118.out 1; have hfz76_2 := blk_frozen BK118.out 2))
           refine bodyPost_ret (results_cell_row rfl _ _ gb118 48 #[.int .i64 t155, .slice Ao72 x120001_1.length co72, .slice Ao71 x120002_2.length co71] (0, 0) _ rfl bo Try.underlying48 rfl (by kernel_rfl)) rfl ?_
           exact ⟨_, _, by first | rfl | (simp [errW_none, errW_some] <;> rfl) | (simp only [← hji5]; first | rfl | (simp [errW_none, errW_some] <;> rfl)) | (simp [*, errW_none, errW_some] <;> rfl), by exact Kd.R_mono (Kd.R_far (p := ⟨gb118, 2, none⟩) (Kd.R_far (p := ⟨gb118, 1, none⟩) (Kd.R_far (p := ⟨gb118, 0, none⟩) (Kd.R_far (p := ⟨gb119, 0, none⟩) (Kd.R_types (Kd.R_types HO_120001.out BK119.out (by decide)) BK118.out (by decide)) (fun _ hk => hk.1.2) (.int .i64 t155)) (fun _ hk => hk.2) (.int .i64 t155)) (fun _ hk => hk.2) (.slice Ao72 x120001_1.length co72)) (fun _ hk => hk.2) (.slice Ao71 x120002_2.length co71)) (fun _ hk => trivial), by exact Kd.R_mono (Kd.R_far (p := ⟨gb118, 2, none⟩) (Kd.R_far (p := ⟨gb118, 1, none⟩) (Kd.R_far (p := ⟨gb118, 0, none⟩) (Kd.R_far (p := ⟨gb119, 0, none⟩) HO_120002.out (fun _ hk => hk.2.2) (.int .i64 t155)) (fun _ hk => hk.2.1) (.int .i64 t155)) (fun _ hk => hk.2.1) (.slice Ao72 x120001_1.length co72)) (fun _ hk => hk.2.1) (.slice Ao71 x120002_2.length co71)) (fun _ hk => hk.1), cl1, cl3, cl2⟩
      ·
       rw [if_neg c25] at H; have c25b0 : decide (1 < a2) = false := decide_eq_false c25; clear c25; replace H := Option.bind_eq_some_iff.mp H; obtain ⟨⟨t157, t158⟩, A770, H⟩ := H; replace H : (some (t157, x120001_1, ([] : List (S48)), t158)) = some (r1, r2, r3, r4) := H; have A77 := am A770; clear A770; simp only [Option.some.injEq, Prod.mk.injEq] at H; obtain ⟨rfl, rfl, rfl, rfl⟩ := H; have hnb78 := NB119_118.out; have hnc78 := NB118_119.out; have hnb79 := NB119_0.out; have hnc79 := NB0_119.out; obtain ⟨hcz80_0, hcz80_1, hcz80_2, hfz80_0, hfz80_1, hfz80_2⟩ := blkC3 BK119.out; obtain ⟨Ao81, co81, eo81⟩ := Kd.R_slice HO_120001.out; subst eo81
       go_wp2_with (first | (refine gA (some 70) Try.func44 #[.pointer (some ⟨g, 0, none⟩), .int .i64 1, .int .i64 (wrap64 ((x120001_1.length : Int)))] ?_; (with_reducible refine (trustquorummake_Tape_Range.calls g s0_0 t125 1 (wrap64 ((x120001_1.length : Int))) t157 t158 w0 _ HI0.out HB.out A77.out).mono ?_); rintro e w82 ⟨rfl, hi, hb, hk⟩; refine ⟨_, rfl, ?_⟩; replace HO_20 := am (Kd.R_mono (Kd.R_keep (IsS78.apart (show IsS78 w0 _ g s0_0 t125 from by exact HI0.out) HO_20.out (by decide)) hk (fun _ h => h.2)) (fun _ h => h.1)); replace HO_120001 := am (Kd.R_mono (Kd.R_keep (IsS78.apart (show IsS78 w0 _ g s0_0 t125 from by exact HI0.out) HO_120001.out (by decide)) hk (fun _ h => h.2)) (fun _ h => h.1)); replace BK118 := kb BK118 hk NB118_0; replace BK119 := kb BK119 hk NB119_0; replace HK := am (KeepBut.trans HK.out hk (.inl rfl)); replace HB := am (hb); replace HI0 := am (hi); (try clear hb); (try clear hk); (try clear hi); obtain ⟨hcz83_0, hcz83_1, hcz83_2, hfz83_0, hfz83_1, hfz83_2⟩ := blkC3 BK119.out; have hnb84 := NB118_0.out; have hnc84 := NB0_118.out; have hcz85_0 : w82.cell? ⟨gb118, 0, none⟩ = some (.int .i64 0) := (blk_cell BK118.out 0).trans rfl; have hcz85_1 : w82.cell? ⟨gb118, 1, none⟩ = some (.slice none 0 0) := (blk_cell BK118.out 1).trans rfl; have hcz85_2 : w82.cell? ⟨gb118, 2, none⟩ = some (.slice none 0 0) := (blk_cell BK118.out 2).trans rfl; have hfz85_0 := blk_frozen BK118.out 0; have hfz85_1 := blk_frozen BK118.out 1; have hfz85_2 := blk_frozen BK118.out 2))
       refine bodyPost_ret (results_cell_row rfl _ _ gb118 48 #[.int .i64 t157, .slice Ao81 x120001_1.length co81, .slice none 0 0] (0, 0) _ rfl bo Try.underlying48 rfl (by kernel_rfl)) rfl ?_
       exact ⟨_, _, by first | rfl | (simp [errW_none, errW_some] <;> rfl) | (simp only [← hji5]; first | rfl | (simp [errW_none, errW_some] <;> rfl)) | (simp [*, errW_none, errW_some] <;> rfl), by exact Kd.R_mono (Kd.R_far (p := ⟨gb118, 2, none⟩) (Kd.R_far (p := ⟨gb118, 1, none⟩) (Kd.R_far (p := ⟨gb118, 0, none⟩) (Kd.R_far (p := ⟨gb119, 0, none⟩) (Kd.R_types (Kd.R_types HO_120001.out BK119.out (by decide)) BK118.out (by decide)) (fun _ hk => hk.1.2) (.int .i64 t157)) (fun _ hk => hk.2) (.int .i64 t157)) (fun _ hk => hk.2) (.slice Ao81 x120001_1.length co81)) (fun _ hk => hk.2) (.slice none 0 0)) (fun _ hk => trivial), by first | exact Kd.R_nil _ _ _ _ _ | exact Kd.N_nil _ _ _ _ _ | exact Kd.V_nil _ _ _ _ _ | exact Kd.Q_nil _ _ _ _ _ | exact Kd.S_nil _ _ _ _ _, cl1, cl3, cl2⟩
  ·
   rw [if_neg c8] at H; exact absurd H (by simp)
 ·
  rw [if_neg c7] at H; exact absurd H (by simp)
/-! ### trustquorumref02_Depth: function 95 -/
mutual
def trustquorumref02_Depth.l0 : Nat → Int → List (S48) → Int → Int → Option (Int)
  | 0, _, _, _, _ => none
  | k + 1, x3, x7, x8, x9 => if x9 < x8 then (if 0 ≤ x9 then (if x9 < (x7.length : Int) then ((trustquorumref02_Depth.f k ((rd_T48 x7 x9).f0) ((rd_T48 x7 x9).f1) ((rd_T48 x7 x9).f2)).bind fun t162 => (trustquorumref02_Depth.l0 k (mx x3 t162) x7 x8 (wrap64 (x9 + 1)))) else (none)) else (none)) else (some (wrap64 (x3 + 1)))
def trustquorumref02_Depth.f : Nat → Int → List Int → List (S48) → Option (Int)
  | 0, _, _, _ => none
  | k + 1, a0_0, l0_1, l0_2 => trustquorumref02_Depth.l0 k 0 l0_2 (l0_2.length : Int) 0
end
set_option maxHeartbeats 8000000 in
set_option maxRecDepth 100000 in
theorem trustquorumref02_Depth.calls (k : Nat) : ∀ (a0_0 : Int) (A0_1 : Option Addr) (c0_1 : Nat) (l0_1 : List Int) (A0_2 : Option Addr) (c0_2 : Nat) (l0_2 : List (S48)) (r : Int) (w : World) (hr0_1 : Kd.C (Kd.int .i64) w A0_1 l0_1.length l0_1) (hc0_1 : l0_1.length ≤ c0_1) (hr0_2 : Kd.C k48 w A0_2 l0_2.length l0_2) (hc0_2 : l0_2.length ≤ c0_2) (h : trustquorumref02_Depth.f k a0_0 l0_1 l0_2 = some r),
    Calls Try.prog 95 #[.agg #[.int .i64 a0_0, .slice A0_1 l0_1.length c0_1, .slice A0_2 l0_2.length c0_2]] w fun e w' => e = .returned (.int .i64 r) ∧ Below w.heap.size w w' := by
 induction k using Nat.strongRecOn with
 | _ k ih =>
 intro a0_0 A0_1 c0_1 l0_1 A0_2 c0_2 l0_2 r w hr0_1 hc0_1 hr0_2 hc0_2 h
 cases k with
 | zero => exact absurd h (by simp [trustquorumref02_Depth.f])
 | succ k =>
 simp only [trustquorumref02_Depth.f] at h; have hu48 := Try.underlying48; have HR0_1 := am hr0_1; have HC0_1 := am hc0_1; clear hr0_1 hc0_1; have HR0_2 := am hr0_2; have HC0_2 := am hc0_2; clear hr0_2 hc0_2; have HB := am (Below.refl w.heap.size w); have H : (trustquorumref02_Depth.l0 k 0 l0_2 (l0_2.length : Int) 0) = some r := h; clear h; have H' := am H; clear H
 go_enter Try.func95, Try.ntmps95
 go_wp2_with (first | (refine bx 1 #[.int .i64 a0_0, .slice A0_1 l0_1.length c0_1, .slice A0_2 l0_2.length c0_2] 48 HB.out ?_; intro gb159 hg w2 BK159 GE159 hb; replace HB := bs HB hb; clear hb hg; obtain ⟨hcz3_0, hcz3_1, hcz3_2, hfz3_0, hfz3_1, hfz3_2⟩ := blkC3 BK159.out))
 go_loopg [3, 9] k (fun kq v3 v9 w' => ∃ (x3_1 : Int) (x9_1 : Int), v3 = .int .i64 x3_1 ∧ v9 = .int .i64 x9_1 ∧ Aside0 (trustquorumref02_Depth.l0 kq x3_1 l0_2 (l0_2.length : Int) x9_1 = some r) ∧ Aside0 (kq ≤ k) ∧ Aside0 (Below w.heap.size w w'))
 case atStart => exact ⟨(0), (0), ar, ar, H', ⟨Nat.le_refl _⟩, ⟨by exact HB.out⟩⟩
 case round =>
  clear H'; (try clear p2); (try clear hcz3_0 hcz3_1 hcz3_2 hfz3_0 hfz3_1 hfz3_2); obtain ⟨x3_1, x9_1, rfl, rfl, HA, HK1, HB⟩ := hrel
  cases gk with
  | zero => exact absurd HA.out (by simp [trustquorumref02_Depth.l0])
  | succ k1 =>
   have H := HA.out; clear HA; simp only [trustquorumref02_Depth.l0] at H
   by_cases c4 : x9_1 < (l0_2.length : Int)
   ·
    rw [if_pos c4] at H; have c4b0 : decide (x9_1 < (l0_2.length : Int)) = true := decide_eq_true c4; clear c4
    by_cases c5 : 0 ≤ x9_1
    ·
     rw [if_pos c5] at H; have c5b0 : decide (0 ≤ x9_1) = true := decide_eq_true c5; clear c5
     by_cases c6 : x9_1 < (l0_2.length : Int)
     ·
      rw [if_pos c6] at H; have c6b0 : decide (x9_1 < (l0_2.length : Int)) = true := decide_eq_true c6; clear c6; replace H := Option.bind_eq_some_iff.mp H; obtain ⟨t162, A70, H⟩ := H; replace H : (trustquorumref02_Depth.l0 k1 (mx x3_1 t162) l0_2 (l0_2.length : Int) (wrap64 (x9_1 + 1))) = some r := H; have A7 := am A70; clear A70; obtain ⟨ji8, hji8⟩ : ∃ j_ : Int, (mx x3_1 t162) = j_ := ⟨_, rfl⟩; replace H : (trustquorumref02_Depth.l0 k1 ji8 l0_2 (l0_2.length : Int) (wrap64 (x9_1 + 1))) = some r := by first | (rw [hji8] at H; exact H) | (simp only [hji8] at H ⊢; exact H)
      (try rw [hji8] at A7); have hji8_ : (if x3_1 < t162 then t162 else x3_1) = ji8 := hji8; have H' := am H; clear H; have p160 : 0 ≤ (x9_1 : Int) := od; have q160 : x9_1 < (l0_2.length : Int) := od; obtain ⟨ad160, A160_1, c160_1, A160_2, c160_2, e160, hx160_0, hx160_1, hx160_2, hl160_1, hi160_1, hl160_2, hi160_2⟩ := at_T48 HR0_2.out x9_1 p160 q160
      cases e160
      replace hx160_0 := (HB.out.cell (World.block_lt_of_cell? w _ hx160_0)).trans hx160_0; replace hx160_1 := (HB.out.cell (World.block_lt_of_cell? w _ hx160_1)).trans hx160_1; replace hx160_2 := (HB.out.cell (World.block_lt_of_cell? w _ hx160_2)).trans hx160_2; have HR160_1 := am hi160_1; have HC160_1 := am hl160_1; clear hi160_1 hl160_1; have HR160_2 := am hi160_2; have HC160_2 := am hl160_2; clear hi160_2 hl160_2; replace p160 := eq_true p160; replace q160 := eq_true q160
      go_wp2_with (first | (refine bx 5 #[.int .i64 0, .slice none 0 0, .slice none 0 0] 48 HB.out ?_; intro gb161 hg w9 BK161 GE161 hb; replace HB := bs HB hb; clear hb hg; obtain ⟨hcz10_0, hcz10_1, hcz10_2, hfz10_0, hfz10_1, hfz10_2⟩ := blkC3 BK161.out) | (refine gA (some 15) Try.func95 #[.agg #[.int .i64 ((rd_T48 l0_2 x9_1).f0), .slice A160_1 ((rd_T48 l0_2 x9_1).f1).length c160_1, .slice A160_2 ((rd_T48 l0_2 x9_1).f2).length c160_2]] ?_; (with_reducible refine (ih k1 (by have := HK1.out; omega) ((rd_T48 l0_2 x9_1).f0) _ _ ((rd_T48 l0_2 x9_1).f1) _ _ ((rd_T48 l0_2 x9_1).f2) t162 _ (Kd.C_below HR160_1.out cl0) HC160_1.out (Kd.C_below HR160_2.out cl0) HC160_2.out A7.out).mono ?_); rintro e w11 ⟨rfl, hb⟩; refine ⟨_, rfl, ?_⟩; replace BK161 := am (blk_below (g := gb161) (o := .cells #[.int .i64 ((rd_T48 l0_2 x9_1).f0), .slice A160_1 ((rd_T48 l0_2 x9_1).f1).length c160_1, .slice A160_2 ((rd_T48 l0_2 x9_1).f2).length c160_2] 48 (0, 0)) bo hb); replace HB := am (below_step (kw HB cl0) hb); (try clear hb); (try clear hi)))
      go_roundg k1
      case measure => have := HK1.out; omega
      case rel => exact ⟨(ji8), (wrap64 (x9_1 + 1)), (by first | rfl | (simp; done) | (simp only [← hji8] <;> (first | rfl | simp)) | (simp [*]; done)), ar, H', ⟨by have := HK1.out; omega⟩, ⟨by exact HB.out⟩⟩
     ·
      rw [if_neg c6] at H; exact absurd H (by simp)
    ·
     rw [if_neg c5] at H; exact absurd H (by simp)
   ·
    rw [if_neg c4] at H; have c4b0 : decide (x9_1 < (l0_2.length : Int)) = false := decide_eq_false c4; clear c4; obtain rfl := Option.some.inj H
    go_wp2
    go_ret
    exact ⟨er, by exact HB.out⟩
/-! ### trustquorumref02_Size: function 96 -/
mutual
def trustquorumref02_Size.l0 : Nat → Int → List (S48) → Int → Int → Option (Int)
  | 0, _, _, _, _ => none
  | k + 1, x3, x14, x15, x16 => if x16 < x15 then (if 0 ≤ x16 then (if x16 < (x14.length : Int) then ((trustquorumref02_Size.f k ((rd_T48 x14 x16).f0) ((rd_T48 x14 x16).f1) ((rd_T48 x14 x16).f2)).bind fun t166 => (trustquorumref02_Size.l0 k (wrap64 (x3 + t166)) x14 x15 (wrap64 (x16 + 1)))) else (none)) else (none)) else (some x3)
def trustquorumref02_Size.f : Nat → Int → List Int → List (S48) → Option (Int)
  | 0, _, _, _ => none
  | k + 1, a0_0, l0_1, l0_2 => trustquorumref02_Size.l0 k (wrap64 ((l0_1.length : Int) + (l0_2.length : Int))) l0_2 (l0_2.length : Int) 0
end
set_option maxHeartbeats 8000000 in
set_option maxRecDepth 100000 in
theorem trustquorumref02_Size.calls (k : Nat) : ∀ (a0_0 : Int) (A0_1 : Option Addr) (c0_1 : Nat) (l0_1 : List Int) (A0_2 : Option Addr) (c0_2 : Nat) (l0_2 : List (S48)) (r : Int) (w : World) (hr0_1 : Kd.C (Kd.int .i64) w A0_1 l0_1.length l0_1) (hc0_1 : l0_1.length ≤ c0_1) (hr0_2 : Kd.C k48 w A0_2 l0_2.length l0_2) (hc0_2 : l0_2.length ≤ c0_2) (h : trustquorumref02_Size.f k a0_0 l0_1 l0_2 = some r),
    Calls Try.prog 96 #[.agg #[.int .i64 a0_0, .slice A0_1 l0_1.length c0_1, .slice A0_2 l0_2.length c0_2]] w fun e w' => e = .returned (.int .i64 r) ∧ Below w.heap.size w w' := by
 induction k using Nat.strongRecOn with
 | _ k ih =>
 intro a0_0 A0_1 c0_1 l0_1 A0_2 c0_2 l0_2 r w hr0_1 hc0_1 hr0_2 hc0_2 h
 cases k with
 | zero => exact absurd h (by simp [trustquorumref02_Size.f])
 | succ k =>
 simp only [trustquorumref02_Size.f] at h; have hu48 := Try.underlying48; have HR0_1 := am hr0_1; have HC0_1 := am hc0_1; clear hr0_1 hc0_1; have HR0_2 := am hr0_2; have HC0_2 := am hc0_2; clear hr0_2 hc0_2; have HB := am (Below.refl w.heap.size w); have H : (trustquorumref02_Size.l0 k (wrap64 ((l0_1.length : Int) + (l0_2.length : Int))) l0_2 (l0_2.length : Int) 0) = some r := h; clear h; have H' := am H; clear H
 go_enter Try.func96, Try.ntmps96
 go_wp2_with (first | (refine bx 1 #[.int .i64 a0_0, .slice A0_1 l0_1.length c0_1, .slice A0_2 l0_2.length c0_2] 48 HB.out ?_; intro gb163 hg w2 BK163 GE163 hb; replace HB := bs HB hb; clear hb hg; obtain ⟨hcz3_0, hcz3_1, hcz3_2, hfz3_0, hfz3_1, hfz3_2⟩ := blkC3 BK163.out))
 go_loopg [3, 16] k (fun kq v3 v16 w' => ∃ (x3_1 : Int) (x16_1 : Int), v3 = .int .i64 x3_1 ∧ v16 = .int .i64 x16_1 ∧ Aside0 (trustquorumref02_Size.l0 kq x3_1 l0_2 (l0_2.length : Int) x16_1 = some r) ∧ Aside0 (kq ≤ k) ∧ Aside0 (Below w.heap.size w w'))
 case atStart => exact ⟨(wrap64 ((l0_1.length : Int) + (l0_2.length : Int))), (0), ar, ar, H', ⟨Nat.le_refl _⟩, ⟨by exact HB.out⟩⟩
 case round =>
  clear H'; (try clear p2); (try clear hcz3_0 hcz3_1 hcz3_2 hfz3_0 hfz3_1 hfz3_2); obtain ⟨x3_1, x16_1, rfl, rfl, HA, HK1, HB⟩ := hrel
  cases gk with
  | zero => exact absurd HA.out (by simp [trustquorumref02_Size.l0])
  | succ k1 =>
   have H := HA.out; clear HA; simp only [trustquorumref02_Size.l0] at H
   by_cases c4 : x16_1 < (l0_2.length : Int)
   ·
    rw [if_pos c4] at H; have c4b0 : decide (x16_1 < (l0_2.length : Int)) = true := decide_eq_true c4; clear c4
    by_cases c5 : 0 ≤ x16_1
    ·
     rw [if_pos c5] at H; have c5b0 : decide (0 ≤ x16_1) = true := decide_eq_true c5; clear c5
     by_cases c6 : x16_1 < (l0_2.length : Int)
     ·
      rw [if_pos c6] at H; have c6b0 : decide (x16_1 < (l0_2.length : Int)) = true := decide_eq_true c6; clear c6; replace H := Option.bind_eq_some_iff.mp H; obtain ⟨t166, A70, H⟩ := H; replace H : (trustquorumref02_Size.l0 k1 (wrap64 (x3_1 + t166)) l0_2 (l0_2.length : Int) (wrap64 (x16_1 + 1))) = some r := H; have A7 := am A70; clear A70; have H' := am H; clear H; have p164 : 0 ≤ (x16_1 : Int) := od; have q164 : x16_1 < (l0_2.length : Int) := od; obtain ⟨ad164, A164_1, c164_1, A164_2, c164_2, e164, hx164_0, hx164_1, hx164_2, hl164_1, hi164_1, hl164_2, hi164_2⟩ := at_T48 HR0_2.out x16_1 p164 q164
      cases e164
      replace hx164_0 := (HB.out.cell (World.block_lt_of_cell? w _ hx164_0)).trans hx164_0; replace hx164_1 := (HB.out.cell (World.block_lt_of_cell? w _ hx164_1)).trans hx164_1; replace hx164_2 := (HB.out.cell (World.block_lt_of_cell? w _ hx164_2)).trans hx164_2; have HR164_1 := am hi164_1; have HC164_1 := am hl164_1; clear hi164_1 hl164_1; have HR164_2 := am hi164_2; have HC164_2 := am hl164_2; clear hi164_2 hl164_2; replace p164 := eq_true p164; replace q164 := eq_true q164
      go_wp2_with (first | (refine bx 5 #[.int .i64 0, .slice none 0 0, .slice none 0 0] 48 HB.out ?_; intro gb165 hg w8 BK165 GE165 hb; replace HB := bs HB hb; clear hb hg; obtain ⟨hcz9_0, hcz9_1, hcz9_2, hfz9_0, hfz9_1, hfz9_2⟩ := blkC3 BK165.out) | (refine gA (some 22) Try.func96 #[.agg #[.int .i64 ((rd_T48 l0_2 x16_1).f0), .slice A164_1 ((rd_T48 l0_2 x16_1).f1).length c164_1, .slice A164_2 ((rd_T48 l0_2 x16_1).f2).length c164_2]] ?_; (with_reducible refine (ih k1 (by have := HK1.out; omega) ((rd_T48 l0_2 x16_1).f0) _ _ ((rd_T48 l0_2 x16_1).f1) _ _ ((rd_T48 l0_2 x16_1).f2) t166 _ (Kd.C_below HR164_1.out cl0) HC164_1.out (Kd.C_below HR164_2.out cl0) HC164_2.out A7.out).mono ?_); rintro e w10 ⟨rfl, hb⟩; refine ⟨_, rfl, ?_⟩; replace BK165 := am (blk_below (g := gb165) (o := .cells #[.int .i64 ((rd_T48 l0_2 x16_1).f0), .slice A164_1 ((rd_T48 l0_2 x16_1).f1).length c164_1, .slice A164_2 ((rd_T48 l0_2 x16_1).f2).length c164_2] 48 (0, 0)) bo hb); replace HB := am (below_step (kw HB cl0) hb); (try clear hb); (try clear hi)))
      go_roundg k1
      case measure => have := HK1.out; omega
      case rel => exact ⟨(wrap64 (x3_1 + t166)), (wrap64 (x16_1 + 1)), ar, ar, H', ⟨by have := HK1.out; omega⟩, ⟨by exact HB.out⟩⟩
     ·
      rw [if_neg c6] at H; exact absurd H (by simp)
    ·
     rw [if_neg c5] at H; exact absurd H (by simp)
   ·
    rw [if_neg c4] at H; have c4b0 : decide (x16_1 < (l0_2.length : Int)) = false := decide_eq_false c4; clear c4; obtain rfl := Option.some.inj H
    go_wp2
    go_ret
    exact ⟨er, by exact HB.out⟩
/-! ### trustquorumref01_Valid: function 55 -/
def trustquorumref01_Valid.f (a0 : Int) : Option (Bool) := if a0 ≥ 0 then (some (decide (a0 ≤ 1023))) else (some false)
set_option maxHeartbeats 8000000 in
set_option maxRecDepth 100000 in
theorem trustquorumref01_Valid.calls (a0 : Int) (r : Bool) (w : World) (h : trustquorumref01_Valid.f a0 = some r) :
    Calls Try.prog 55 #[.int .i64 a0] w fun e w' => e = .returned (.bool r) ∧ Drawn0 w w' := by
 have H : (if a0 ≥ 0 then (some (decide (a0 ≤ 1023))) else (some false)) = some r := h; clear h
 by_cases c2 : a0 ≥ 0
 ·
  rw [if_pos c2] at H; have c2b0 : decide (0 ≤ a0) = true := decide_eq_true c2; clear c2; obtain rfl := Option.some.inj H
  go_enter Try.func55, Try.ntmps55
  go_wp2
  go_ret
  exact ⟨by first | rfl | (simp; done) | (simp [*]; done) | (refine congrArg (Value.int .i64) ?_; unfold wrap64; omega), by repeat (first | exact Drawn0.refl _ | apply Drawn0.step)⟩
 ·
  rw [if_neg c2] at H; have c2b0 : decide (0 ≤ a0) = false := decide_eq_false c2; clear c2; obtain rfl := Option.some.inj H
  go_enter Try.func55, Try.ntmps55
  go_wp2
  go_ret
  exact ⟨by first | rfl | (simp; done) | (simp [*]; done) | (refine congrArg (Value.int .i64) ?_; unfold wrap64; omega), by repeat (first | exact Drawn0.refl _ | apply Drawn0.step)⟩
end Go.Proofs.Ytmeamdklonmahaa.QFederatedSafe
