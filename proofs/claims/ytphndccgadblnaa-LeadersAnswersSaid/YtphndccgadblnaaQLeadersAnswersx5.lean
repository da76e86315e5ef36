/- Lean functions that answer as the Go functions do which the law reaches, and proofs that the Go code comes to exactly these answers. Conditions: those that each theorem names. -/
import Derived.Test.YtphndccgadblnaaQLeadersAnswersx0
import Derived.Test.YtphndccgadblnaaQLeadersAnswersx2
import Derived.Test.YtphndccgadblnaaQLeadersAnswersx3
import Derived.Test.YtphndccgadblnaaQLeadersAnswersx4
namespace Go.Proofs.Ytphndccgadblnaa.QLeadersAnswers
open Go.RowKit Go.Proofs.YtphndccgadblnaaW.PrintWords Go.Proofs.YtphndccgadblnaaW.PrintLast Go.Proofs.YtphndccgadblnaaW.PrintMore
attribute [local go_sem] max2_int min2_int max_two min_two max_three min_three max_four min_four   -- for this text's walks alone
set_option linter.unusedVariables false
set_option linter.unusedSimpArgs false

/-! ### trustquorummake_Trust: function 9 -/
def trustquorummake_Trust.f (k : Nat) (s0_0 : List Int) (s0_1 : Int) (a1 : Int) (a2 : Int) : Option (Int × List Int × (List (S27)) × Int) := (trustquorummake_trust.f k s0_0 s0_1 a1 a2).bind fun bt182 => ((trustquorumref02_Valid.f k bt182.1 bt182.2.1 bt182.2.2.1).bind fun t191 => (if t191 = 0 then (some (bt182.1, bt182.2.1, bt182.2.2.1, bt182.2.2.2)) else ((trustquorummake_Tape_N.f s0_0 bt182.2.2.2 a1).bind fun bt192 => (some (1, (([bt192.1] : List Int)), ([] : List (S27)), bt192.2)))))
set_option maxHeartbeats 8000000 in
set_option maxRecDepth 100000 in
theorem trustquorummake_Trust.calls (k : Nat) (g : Nat) (s0_0 : List Int) (s0_1 : Int) (a1 : Int) (a2 : Int) (r1 : Int) (r2 : List Int) (r3 : List (S27)) (r4 : Int) (w0 w : World) (hI : IsS62 w0 w g s0_0 s0_1) (hB : Below w0.heap.size w0 w) (h : trustquorummake_Trust.f k s0_0 s0_1 a1 a2 = some (r1, r2, r3, r4)) :
    Calls Try.prog 9 #[.pointer (some ⟨g, 0, none⟩), .int .i64 a1, .int .i64 a2] w fun e w' => ∃ v1_ v2_ : Value, e = .returned (.agg #[.int .i64 r1, v1_, v2_]) ∧ Kd.R (Kd.int .i64) 3 w' w.heap.size (fun _ => True) v1_ r2 ∧ Kd.R k27 27 w' w.heap.size (fun k_ => some k_ ≠ (v1_ : Value).ownBlock) v2_ r3 ∧ IsS62 w0 w' g s0_0 r4 ∧ Below w0.heap.size w0 w' ∧ KeepBut w w' g none := by
 have hu27 := Try.underlying27; have HI0 := am hI; have HK := am (KeepBut.refl w g none); have HL := am hB.size; clear hI; have HW0 := am hB.size; have HB := am hB; clear hB; have H : ((trustquorummake_trust.f k s0_0 s0_1 a1 a2).bind fun bt182 => ((trustquorumref02_Valid.f k bt182.1 bt182.2.1 bt182.2.2.1).bind fun t191 => (if t191 = 0 then (some (bt182.1, bt182.2.1, bt182.2.2.1, bt182.2.2.2)) else ((trustquorummake_Tape_N.f s0_0 bt182.2.2.2 a1).bind fun bt192 => (some (1, (([bt192.1] : List Int)), ([] : List (S27)), bt192.2)))))) = some (r1, r2, r3, r4) := h; clear h; replace H := Option.bind_eq_some_iff.mp H; obtain ⟨⟨t182, t183, t186, t189⟩, A40, H⟩ := H; replace H : ((trustquorumref02_Valid.f k t182 t183 t186).bind fun t191 => (if t191 = 0 then (some (t182, t183, t186, t189)) else ((trustquorummake_Tape_N.f s0_0 t189 a1).bind fun bt192 => (some (1, (([bt192.1] : List Int)), ([] : List (S27)), bt192.2))))) = some (r1, r2, r3, r4) := H; have A4 := am A40; clear A40; replace H := Option.bind_eq_some_iff.mp H; obtain ⟨t191, A50, H⟩ := H; replace H : (if t191 = 0 then (some (t182, t183, t186, t189)) else ((trustquorummake_Tape_N.f s0_0 t189 a1).bind fun bt192 => (some (1, (([bt192.1] : List Int)), ([] : List (S27)), bt192.2)))) = some (r1, r2, r3, r4) := H; have A5 := am A50; clear A50
 by_cases c6 : t191 = 0
 ·
  rw [if_pos c6] at H; have c6b0 : (t191 == 0) = true := beq_iff_eq.mpr c6; have c6b1 : (t191 != 0) = false := bne_eq_false_iff_eq.mpr c6; clear c6; simp only [Option.some.injEq, Prod.mk.injEq] at H; obtain ⟨rfl, rfl, rfl, rfl⟩ := H
  go_enter Try.func9, Try.ntmps9
  go_wp2_with (first | ((with_reducible refine gate_dst (N := 6) rfl ?_); refine box_event ?hg (N := 6) ?hd (cs := #[.int .i64 0, .slice none 0 0, .slice none 0 0]) (t := 27) ?hr ?_; (case hd => rfl); (case hg => rfl); (case hr => first | (go_simp; done) | (go_simp; rfl)); intro gb181 hg w7 hbox hb; replace HB := bs HB hb; have BK181 := am (hbox); have GW181 := am ((by rw [hg]; exact (keep_size (w := w) (g := g) (row := none) HK.out) : w.heap.size ≤ gb181)); have GE181 := am ((Nat.le_trans HW0.out (by rw [hg]; exact (keep_size (w := w) (g := g) (row := none) HK.out) : w.heap.size ≤ gb181) : w0.heap.size ≤ gb181)); replace HK := am (KeepBut.trans HK.out (KeepBut.of_below hb g none) (.inl rfl)); have NB0_181 := am ((by rw [hg]; exact Nat.ne_of_lt (IsS62.lt (show IsS62 w0 _ g s0_0 s0_1 from by exact HI0.out)) : g ≠ gb181)); have NB181_0 := am ((by rw [hg]; exact Nat.ne_of_gt (IsS62.lt (show IsS62 w0 _ g s0_0 s0_1 from by exact HI0.out)) : gb181 ≠ g)); replace HI0 := am (IsS62.below HI0.out hb); clear hb hg) | (refine gA (some 11) Try.func33 #[.pointer (some ⟨g, 0, none⟩), .int .i64 a1, .int .i64 a2] ?_; (with_reducible refine (trustquorummake_trust.calls k g s0_0 s0_1 a1 a2 t182 t183 t186 t189 w0 _ HI0.out HB.out A4.out).mono ?_); rintro e w8 ⟨v184, v187, rfl, ho0, ho1, hi, hb, hk⟩; refine ⟨_, rfl, ?_⟩; have HO185 := am (Kd.R_lower ho0 (keep_size (w := w) (g := g) (row := none) HK.out)); have HO188 := am (Kd.R_lower (Kd.R_newB ho1 BK181.out) (keep_size (w := w) (g := g) (row := none) HK.out)); replace BK181 := kb BK181 hk NB181_0; replace HK := am (KeepBut.trans HK.out hk (.inl rfl)); replace HB := am (hb); replace HI0 := am (hi); (try clear hb); (try clear hk); (try clear hi); (try clear ho0); (try clear ho1)) | ((with_reducible refine gate_dst (N := 7) rfl ?_); refine box_event ?hg (N := 7) ?hd (cs := #[.int .i64 0, .slice none 0 0, .slice none 0 0]) (t := 27) ?hr ?_; (case hd => rfl); (case hg => rfl); (case hr => first | (go_simp; done) | (go_simp; rfl)); intro gb190 hg w9 hbox hb; replace HO185 := am (Kd.R_below HO185.out hb); replace HO188 := am (Kd.R_below (Kd.R_elderB HO188.out gb190 (Nat.le_of_eq hg.symm)) hb); replace HB := bs HB hb; have BK190 := am (hbox); have GW190 := am ((by rw [hg]; exact (keep_size (w := w) (g := g) (row := none) HK.out) : w.heap.size ≤ gb190)); have GE190 := am ((Nat.le_trans HW0.out (by rw [hg]; exact (keep_size (w := w) (g := g) (row := none) HK.out) : w.heap.size ≤ gb190) : w0.heap.size ≤ gb190)); replace HK := am (KeepBut.trans HK.out (KeepBut.of_below hb g none) (.inl rfl)); have NB181_190 := nl hg BK181; have NB190_181 := ng hg BK181; replace BK181 := bb BK181 hb; have NB0_190 := am ((by rw [hg]; exact Nat.ne_of_lt (IsS62.lt (show IsS62 w0 _ g s0_0 t189 from by exact HI0.out)) : g ≠ gb190)); have NB190_0 := am ((by rw [hg]; exact Nat.ne_of_gt (IsS62.lt (show IsS62 w0 _ g s0_0 t189 from by exact HI0.out)) : gb190 ≠ g)); replace HI0 := am (IsS62.below HI0.out hb); clear hb hg; have hnb10 := NB190_181.out; have hnc10 := NB181_190.out; have hnb11 := NB190_0.out; have hnc11 := NB0_190.out; obtain ⟨hcz12_0, hcz12_1, hcz12_2, hfz12_0, hfz12_1, hfz12_2⟩ := blkC3 BK190.out; obtain ⟨Ao13, co13, eo13⟩ := Kd.R_slice HO185.out; subst eo13; obtain ⟨Ao14, co14, eo14⟩ := Kd.R_slice HO188.out; subst eo14) | (refine gA (some 13) Try.func34 #[.agg #[.int .i64 t182, .slice Ao13 t183.length co13, .slice Ao14 t186.length co14]] ?_; (with_reducible refine (trustquorumref02_Valid.calls k t182 _ _ t183 _ _ t186 t191 _ ?side1 ?side2 ?side3 ?side4 A5.out).mono ?_); (case side1 => refine (Kd.R_reads' (e := 3) (base := w.heap.size) (ok := fun k_ => True) (n := t183.length) (c := co13) ?_).2.2; exact (by exact (Kd.R_mono (Kd.R_far (p := ⟨gb190, 2, none⟩) (Kd.R_far (p := ⟨gb190, 1, none⟩) (Kd.R_far (p := ⟨gb190, 0, none⟩) (Kd.R_types HO185.out BK190.out (by decide)) (fun _ hk => hk.2) (.int .i64 t182)) (fun _ hk => hk.2) (.slice Ao13 t183.length co13)) (fun _ hk => hk.2) (.slice Ao14 t186.length co14)) (fun _ h_ => h_.1)))); (case side2 => exact (Kd.R_reads' HO185.out).2.1); (case side3 => refine (Kd.R_reads' (e := 27) (base := w.heap.size) (ok := fun k_ => ((some k_ ≠ (.slice Ao13 t183.length co13 : Value).ownBlock ∧ k_ ≠ gb181) ∧ k_ ≠ gb190)) (n := t186.length) (c := co14) ?_).2.2; exact (by exact (Kd.R_far (p := ⟨gb190, 2, none⟩) (Kd.R_far (p := ⟨gb190, 1, none⟩) (Kd.R_far (p := ⟨gb190, 0, none⟩) HO188.out (fun _ hk => hk.2) (.int .i64 t182)) (fun _ hk => hk.2) (.slice Ao13 t183.length co13)) (fun _ hk => hk.2) (.slice Ao14 t186.length co14)))); (case side4 => exact (Kd.R_reads' HO188.out).2.1); rintro e w15 ⟨rfl, hb⟩; refine ⟨_, rfl, ?_⟩; replace HO185 := am (Kd.R_below (by exact (Kd.R_mono (Kd.R_far (p := ⟨gb190, 2, none⟩) (Kd.R_far (p := ⟨gb190, 1, none⟩) (Kd.R_far (p := ⟨gb190, 0, none⟩) (Kd.R_types HO185.out BK190.out (by decide)) (fun _ hk => hk.2) (.int .i64 t182)) (fun _ hk => hk.2) (.slice Ao13 t183.length co13)) (fun _ hk => hk.2) (.slice Ao14 t186.length co14)) (fun _ h_ => h_.1))) hb); replace HO188 := am (Kd.R_below (by exact (Kd.R_far (p := ⟨gb190, 2, none⟩) (Kd.R_far (p := ⟨gb190, 1, none⟩) (Kd.R_far (p := ⟨gb190, 0, none⟩) HO188.out (fun _ hk => hk.2) (.int .i64 t182)) (fun _ hk => hk.2) (.slice Ao13 t183.length co13)) (fun _ hk => hk.2) (.slice Ao14 t186.length co14))) hb); replace BK181 := am (blk_below (g := gb181) (o := .cells #[.int .i64 0, .slice none 0 0, .slice none 0 0] 27 (0, 0)) bo hb); replace BK190 := am (blk_below (g := gb190) (o := .cells #[.int .i64 t182, .slice Ao13 t183.length co13, .slice Ao14 t186.length co14] 27 (0, 0)) bo hb); replace HK := am (KeepBut.trans (kk HK cl2) (KeepBut.of_below hb g none) (.inl rfl)); replace HB := am (below_step (kw HB cl3) hb); replace HI0 := am (IsS62.below (show IsS62 w0 (((w9.setCell ⟨gb190, 0, none⟩ (.int .i64 t182)).setCell ⟨gb190, 1, none⟩ (.slice Ao13 t183.length co13)).setCell ⟨gb190, 2, none⟩ (.slice Ao14 t186.length co14)) g s0_0 t189 from cl1) hb); (try clear hb); (try clear hk); obtain ⟨hcz16_0, hcz16_1, hcz16_2, hfz16_0, hfz16_1, hfz16_2⟩ := blkC3 BK190.out; have hnb17 := NB181_0.out; have hnc17 := NB0_181.out; obtain ⟨hcz18_0, hcz18_1, hcz18_2, hfz18_0, hfz18_1, hfz18_2⟩ := blkC3 BK181.out))
  refine bodyPost_ret (results_cell_row rfl _ _ gb181 27 #[.int .i64 t182, .slice Ao13 t183.length co13, .slice Ao14 t186.length co14] (0, 0) _ rfl bo Try.underlying27 rfl (by kernel_rfl)) rfl ?_
  exact ⟨_, _, by first | rfl | (simp [errW_none, errW_some] <;> rfl) | (simp [*, errW_none, errW_some] <;> rfl), by exact Kd.R_mono (Kd.R_far (p := ⟨gb181, 2, none⟩) (Kd.R_far (p := ⟨gb181, 1, none⟩) (Kd.R_far (p := ⟨gb181, 0, none⟩) (Kd.R_types HO185.out BK181.out (by decide)) (fun _ hk => hk.2) (.int .i64 t182)) (fun _ hk => hk.2) (.slice Ao13 t183.length co13)) (fun _ hk => hk.2) (.slice Ao14 t186.length co14)) (fun _ hk => trivial), by exact Kd.R_mono (Kd.R_far (p := ⟨gb181, 2, none⟩) (Kd.R_far (p := ⟨gb181, 1, none⟩) (Kd.R_far (p := ⟨gb181, 0, none⟩) HO188.out (fun _ hk => hk.1.2) (.int .i64 t182)) (fun _ hk => hk.1.2) (.slice Ao13 t183.length co13)) (fun _ hk => hk.1.2) (.slice Ao14 t186.length co14)) (fun _ hk => hk.1.1), cl1, cl3, cl2⟩
 ·
  rw [if_neg c6] at H; have c6b0 : (t191 == 0) = false := beq_eq_false_iff_ne.mpr c6; have c6b1 : (t191 != 0) = true := bne_iff_ne.mpr c6; replace H := Option.bind_eq_some_iff.mp H; obtain ⟨⟨t192, t193⟩, A190, H⟩ := H; replace H : (some (1, (([t192] : List Int)), ([] : List (S27)), t193)) = some (r1, r2, r3, r4) := H; have A19 := am A190; clear A190; obtain ⟨y194, hy194⟩ : ∃ y_ : List Int, y_ = (([t192] : List Int)) := ⟨_, rfl⟩; replace H : (some (1, y194, ([] : List (S27)), t193)) = some (r1, r2, r3, r4) := by first | (rw [hy194]; with_reducible exact H) | (have H2_ := (Option.bind_some _ _).symm.trans H; rw [hy194]; with_reducible exact H2_) | (have H2_ := (Option.bind_some _ _).symm.trans H; with_reducible exact H2_) | with_reducible exact H | (rw [hy194]; exact H) | exact H
  have Ny194 := am hy194; clear hy194; simp only [Option.some.injEq, Prod.mk.injEq] at H; obtain ⟨rfl, rfl, rfl, rfl⟩ := H
  go_enter Try.func9, Try.ntmps9
  go_wp2_with (first | ((with_reducible refine gate_dst (N := 6) rfl ?_); refine box_event ?hg (N := 6) ?hd (cs := #[.int .i64 0, .slice none 0 0, .slice none 0 0]) (t := 27) ?hr ?_; (case hd => rfl); (case hg => rfl); (case hr => first | (go_simp; done) | (go_simp; rfl)); intro gb181 hg w20 hbox hb; replace HB := bs HB hb; have BK181 := am (hbox); have GW181 := am ((by rw [hg]; exact (keep_size (w := w) (g := g) (row := none) HK.out) : w.heap.size ≤ gb181)); have GE181 := am ((Nat.le_trans HW0.out (by rw [hg]; exact (keep_size (w := w) (g := g) (row := none) HK.out) : w.heap.size ≤ gb181) : w0.heap.size ≤ gb181)); replace HK := am (KeepBut.trans HK.out (KeepBut.of_below hb g none) (.inl rfl)); have NB0_181 := am ((by rw [hg]; exact Nat.ne_of_lt (IsS62.lt (show IsS62 w0 _ g s0_0 s0_1 from by exact HI0.out)) : g ≠ gb181)); have NB181_0 := am ((by rw [hg]; exact Nat.ne_of_gt (IsS62.lt (show IsS62 w0 _ g s0_0 s0_1 from by exact HI0.out)) : gb181 ≠ g)); replace HI0 := am (IsS62.below HI0.out hb); clear hb hg) | (refine gA (some 11) Try.func33 #[.pointer (some ⟨g, 0, none⟩), .int .i64 a1, .int .i64 a2] ?_; (with_reducible refine (trustquorummake_trust.calls k g s0_0 s0_1 a1 a2 t182 t183 t186 t189 w0 _ HI0.out HB.out A4.out).mono ?_); rintro e w21 ⟨v184, v187, rfl, ho0, ho1, hi, hb, hk⟩; refine ⟨_, rfl, ?_⟩; have HO185 := am (Kd.R_lower ho0 (keep_size (w := w) (g := g) (row := none) HK.out)); have HO188 := am (Kd.R_lower (Kd.R_newB ho1 BK181.out) (keep_size (w := w) (g := g) (row := none) HK.out)); replace BK181 := kb BK181 hk NB181_0; replace HK := am (KeepBut.trans HK.out hk (.inl rfl)); replace HB := am (hb); replace HI0 := am (hi); (try clear hb); (try clear hk); (try clear hi); (try clear ho0); (try clear ho1)) | ((with_reducible refine gate_dst (N := 7) rfl ?_); refine box_event ?hg (N := 7) ?hd (cs := #[.int .i64 0, .slice none 0 0, .slice none 0 0]) (t := 27) ?hr ?_; (case hd => rfl); (case hg => rfl); (case hr => first | (go_simp; done) | (go_simp; rfl)); intro gb190 hg w22 hbox hb; replace HO185 := am (Kd.R_below HO185.out hb); replace HO188 := am (Kd.R_below (Kd.R_elderB HO188.out gb190 (Nat.le_of_eq hg.symm)) hb); replace HB := bs HB hb; have BK190 := am (hbox); have GW190 := am ((by rw [hg]; exact (keep_size (w := w) (g := g) (row := none) HK.out) : w.heap.size ≤ gb190)); have GE190 := am ((Nat.le_trans HW0.out (by rw [hg]; exact (keep_size (w := w) (g := g) (row := none) HK.out) : w.heap.size ≤ gb190) : w0.heap.size ≤ gb190)); replace HK := am (KeepBut.trans HK.out (KeepBut.of_below hb g none) (.inl rfl)); have NB181_190 := nl hg BK181; have NB190_181 := ng hg BK181; replace BK181 := bb BK181 hb; have NB0_190 := am ((by rw [hg]; exact Nat.ne_of_lt (IsS62.lt (show IsS62 w0 _ g s0_0 t189 from by exact HI0.out)) : g ≠ gb190)); have NB190_0 := am ((by rw [hg]; exact Nat.ne_of_gt (IsS62.lt (show IsS62 w0 _ g s0_0 t189 from by exact HI0.out)) : gb190 ≠ g)); replace HI0 := am (IsS62.below HI0.out hb); clear hb hg; have hnb23 := NB190_181.out; have hnc23 := NB181_190.out; have hnb24 := NB190_0.out; have hnc24 := NB0_190.out; obtain ⟨hcz25_0, hcz25_1, hcz25_2, hfz25_0, hfz25_1, hfz25_2⟩ := blkC3 BK190.out; obtain ⟨Ao26, co26, eo26⟩ := Kd.R_slice HO185.out; subst eo26; obtain ⟨Ao27, co27, eo27⟩ := Kd.R_slice HO188.out; subst eo27) | (refine gA (some 13) Try.func34 #[.agg #[.int .i64 t182, .slice Ao26 t183.length co26, .slice Ao27 t186.length co27]] ?_; (with_reducible refine (trustquorumref02_Valid.calls k t182 _ _ t183 _ _ t186 t191 _ ?side1 ?side2 ?side3 ?side4 A5.out).mono ?_); (case side1 => refine (Kd.R_reads' (e := 3) (base := w.heap.size) (ok := fun k_ => True) (n := t183.length) (c := co26) ?_).2.2; exact (by exact (Kd.R_mono (Kd.R_far (p := ⟨gb190, 2, none⟩) (Kd.R_far (p := ⟨gb190, 1, none⟩) (Kd.R_far (p := ⟨gb190, 0, none⟩) (Kd.R_types HO185.out BK190.out (by decide)) (fun _ hk => hk.2) (.int .i64 t182)) (fun _ hk => hk.2) (.slice Ao26 t183.length co26)) (fun _ hk => hk.2) (.slice Ao27 t186.length co27)) (fun _ h_ => h_.1)))); (case side2 => exact (Kd.R_reads' HO185.out).2.1); (case side3 => refine (Kd.R_reads' (e := 27) (base := w.heap.size) (ok := fun k_ => ((some k_ ≠ (.slice Ao26 t183.length co26 : Value).ownBlock ∧ k_ ≠ gb181) ∧ k_ ≠ gb190)) (n := t186.length) (c := co27) ?_).2.2; exact (by exact (Kd.R_far (p := ⟨gb190, 2, none⟩) (Kd.R_far (p := ⟨gb190, 1, none⟩) (Kd.R_far (p := ⟨gb190, 0, none⟩) HO188.out (fun _ hk => hk.2) (.int .i64 t182)) (fun _ hk => hk.2) (.slice Ao26 t183.length co26)) (fun _ hk => hk.2) (.slice Ao27 t186.length co27)))); (case side4 => exact (Kd.R_reads' HO188.out).2.1); rintro e w28 ⟨rfl, hb⟩; refine ⟨_, rfl, ?_⟩; replace HO185 := am (Kd.R_below (by exact (Kd.R_mono (Kd.R_far (p := ⟨gb190, 2, none⟩) (Kd.R_far (p := ⟨gb190, 1, none⟩) (Kd.R_far (p := ⟨gb190, 0, none⟩) (Kd.R_types HO185.out BK190.out (by decide)) (fun _ hk => hk.2) (.int .i64 t182)) (fun _ hk => hk.2) (.slice Ao26 t183.length co26)) (fun _ hk => hk.2) (.slice Ao27 t186.length co27)) (fun _ h_ => h_.1))) hb); replace HO188 := am (Kd.R_below (by exact (Kd.R_far (p := ⟨gb190, 2, none⟩) (Kd.R_far (p := ⟨gb190, 1, none⟩) (Kd.R_far (p := ⟨gb190, 0, none⟩) HO188.out (fun _ hk => hk.2) (.int .i64 t182)) (fun _ hk => hk.2) (.slice Ao26 t183.length co26)) (fun _ hk => hk.2) (.slice Ao27 t186.length co27))) hb); replace BK181 := am (blk_below (g := gb181) (o := .cells #[.int .i64 0, .slice none 0 0, .slice none 0 0] 27 (0, 0)) bo hb); replace BK190 := am (blk_below (g := gb190) (o := .cells #[.int .i64 t182, .slice Ao26 t183.length co26, .slice Ao27 t186.length co27] 27 (0, 0)) bo hb); replace HK := am (KeepBut.trans (kk HK cl2) (KeepBut.of_below hb g none) (.inl rfl)); replace HB := am (below_step (kw HB cl3) hb); replace HI0 := am (IsS62.below (show IsS62 w0 (((w22.setCell ⟨gb190, 0, none⟩ (.int .i64 t182)).setCell ⟨gb190, 1, none⟩ (.slice Ao26 t183.length co26)).setCell ⟨gb190, 2, none⟩ (.slice Ao27 t186.length co27)) g s0_0 t189 from cl1) hb); (try clear hb); (try clear hk); (try clear hi)) | (refine gA (some 17) Try.func15 #[.pointer (some ⟨g, 0, none⟩), .int .i64 a1] ?_; (with_reducible refine (trustquorummake_Tape_N.calls g s0_0 t189 a1 t192 t193 w0 _ HI0.out HB.out A19.out).mono ?_); rintro e w29 ⟨rfl, hi, hb, hk⟩; refine ⟨_, rfl, ?_⟩; replace BK181 := kb BK181 hk NB181_0; replace HO185 := am (Kd.R_mono (Kd.R_keep (IsS62.apart (show IsS62 w0 _ g s0_0 t189 from by exact HI0.out) HO185.out (by decide)) hk (fun _ h => h.2)) (fun _ h => h.1)); replace HO188 := am (Kd.R_mono (Kd.R_keep (IsS62.apart (show IsS62 w0 _ g s0_0 t189 from by exact HI0.out) HO188.out (by decide)) hk (fun _ h => h.2)) (fun _ h => h.1)); replace BK190 := kb BK190 hk NB190_0; replace HK := am (KeepBut.trans HK.out hk (.inl rfl)); replace HB := am (hb); replace HI0 := am (hi); (try clear hb); (try clear hk); (try clear hi)) | ((with_reducible refine gate_dst (N := 18) rfl ?_); refine Kd.R_lit (Kd.int .i64) _ 3 ?hg (N := 18) ?hd (xs := ([t192] : List Int)) (inner := [.int .i64 t192]) (ok := fun _ => True) (okp := fun _ => True) ?hr ?hp (fun _ hk => hk) trivial (Below.refl _ _) (Nat.le_refl _) (by simp) ?_; (case hd => rfl); (case hg => rfl); (case hr => first | (go_simp; done) | (go_simp; rfl)); (case hp => exact (Reps.one (show Kd.M (Kd.int .i64) _ _ _ t192 [.int .i64 t192] from rfl) (Reps.none _ _))); intro v195 w30 ho31 hb hg_ hnew_; clear hg_ hnew_; (first | rw [← Ny194.out] at ho31 | (simp only [Int.reduceToNat] at ho31; rw [← Ny194.out] at ho31)); replace HO188 := am (Kd.R_elder' HO188.out (Kd.R_base ho31) hb); have HO196 := am (Kd.R_lower (Kd.R_new' ho31 (Kd.R_lt HO185.out)) (keep_size (w := w) (g := g) (row := none) HK.out)); replace HO185 := am (Kd.R_elder' HO185.out (Kd.R_base ho31) hb); replace HI0 := am (IsS62.below HI0.out hb); replace BK181 := bb BK181 hb; replace BK190 := bb BK190 hb; replace HK := am (KeepBut.trans HK.out (KeepBut.of_below hb g none) (.inl rfl)); replace HB := bs HB hb; clear hb ho31; obtain ⟨Ao32, co32, eo32⟩ := Kd.R_slice HO196.out; subst eo32; have hnb33 := NB181_0.out; have hnc33 := NB0_181.out; obtain ⟨hcz34_0, hcz34_1, hcz34_2, hfz34_0, hfz34_1, hfz34_2⟩ := blkC3 BK181.out))
  refine bodyPost_ret (results_cell_row rfl _ _ gb181 27 #[.int .i64 1, .slice Ao32 y194.length co32, .slice none 0 0] (0, 0) _ rfl bo Try.underlying27 rfl (by kernel_rfl)) rfl ?_
  exact ⟨_, _, by first | rfl | (simp [errW_none, errW_some] <;> rfl) | (simp [*, errW_none, errW_some] <;> rfl), by exact Kd.R_mono (Kd.R_far (p := ⟨gb181, 2, none⟩) (Kd.R_far (p := ⟨gb181, 1, none⟩) (Kd.R_far (p := ⟨gb181, 0, none⟩) (Kd.R_types HO196.out BK181.out (by decide)) (fun _ hk => hk.2) (.int .i64 1)) (fun _ hk => hk.2) (.slice Ao32 y194.length co32)) (fun _ hk => hk.2) (.slice none 0 0)) (fun _ hk => trivial), by first | exact Kd.R_nil _ _ _ _ _ | exact Kd.N_nil _ _ _ _ _ | exact Kd.V_nil _ _ _ _ _ | exact Kd.Q_nil _ _ _ _ _ | exact Kd.S_nil _ _ _ _ _, cl1, cl3, cl2⟩
/-! ### threshold_Depth: function 50 -/
mutual
def threshold_Depth.l0 : Nat → Int → List (S27) → Int → Int → Option (Int)
  | 0, _, _, _, _ => none
  | k + 1, x3, x7, x8, x9 => if x9 < x8 then (if 0 ≤ x9 then (if x9 < (x7.length : Int) then ((threshold_Depth.f k ((rd_T27 x7 x9).f0) ((rd_T27 x7 x9).f1) ((rd_T27 x7 x9).f2)).bind fun t200 => (threshold_Depth.l0 k (mx x3 t200) x7 x8 (wrap64 (x9 + 1)))) else (none)) else (none)) else (some (wrap64 (x3 + 1)))
def threshold_Depth.f : Nat → Int → List Int → List (S27) → Option (Int)
  | 0, _, _, _ => none
  | k + 1, a0_0, l0_1, l0_2 => threshold_Depth.l0 k 0 l0_2 (l0_2.length : Int) 0
end
set_option maxHeartbeats 8000000 in
set_option maxRecDepth 100000 in
theorem threshold_Depth.calls (k : Nat) : ∀ (a0_0 : Int) (A0_1 : Option Addr) (c0_1 : Nat) (l0_1 : List Int) (A0_2 : Option Addr) (c0_2 : Nat) (l0_2 : List (S27)) (r : Int) (w : World) (hr0_1 : Kd.C (Kd.int .i64) w A0_1 l0_1.length l0_1) (hc0_1 : l0_1.length ≤ c0_1) (hr0_2 : Kd.C k27 w A0_2 l0_2.length l0_2) (hc0_2 : l0_2.length ≤ c0_2) (h : threshold_Depth.f k a0_0 l0_1 l0_2 = some r),
    Calls Try.prog 50 #[.agg #[.int .i64 a0_0, .slice A0_1 l0_1.length c0_1, .slice A0_2 l0_2.length c0_2]] w fun e w' => e = .returned (.int .i64 r) ∧ Below w.heap.size w w' := by
 induction k using Nat.strongRecOn with
 | _ k ih =>
 intro a0_0 A0_1 c0_1 l0_1 A0_2 c0_2 l0_2 r w hr0_1 hc0_1 hr0_2 hc0_2 h
 cases k with
 | zero => exact absurd h (by simp [threshold_Depth.f])
 | succ k =>
 simp only [threshold_Depth.f] at h; have hu27 := Try.underlying27; have HR0_1 := am hr0_1; have HC0_1 := am hc0_1; clear hr0_1 hc0_1; have HR0_2 := am hr0_2; have HC0_2 := am hc0_2; clear hr0_2 hc0_2; have HB := am (Below.refl w.heap.size w); have H : (threshold_Depth.l0 k 0 l0_2 (l0_2.length : Int) 0) = some r := h; clear h; have H' := am H; clear H
 go_enter Try.func50, Try.ntmps50
 go_wp2_with (first | (refine bx 1 #[.int .i64 a0_0, .slice A0_1 l0_1.length c0_1, .slice A0_2 l0_2.length c0_2] 27 HB.out ?_; intro gb197 hg w2 BK197 GE197 hb; replace HB := bs HB hb; clear hb hg; obtain ⟨hcz3_0, hcz3_1, hcz3_2, hfz3_0, hfz3_1, hfz3_2⟩ := blkC3 BK197.out))
 go_loopg [3, 9] k (fun kq v3 v9 w' => ∃ (x3_1 : Int) (x9_1 : Int), v3 = .int .i64 x3_1 ∧ v9 = .int .i64 x9_1 ∧ Aside0 (threshold_Depth.l0 kq x3_1 l0_2 (l0_2.length : Int) x9_1 = some r) ∧ Aside0 (kq ≤ k) ∧ Aside0 (Below w.heap.size w w'))
 case atStart => exact ⟨(0), (0), ar, ar, H', ⟨Nat.le_refl _⟩, ⟨by exact HB.out⟩⟩
 case round =>
  clear H'; (try clear p2); (try clear hcz3_0 hcz3_1 hcz3_2 hfz3_0 hfz3_1 hfz3_2); obtain ⟨x3_1, x9_1, rfl, rfl, HA, HK1, HB⟩ := hrel
  cases gk with
  | zero => exact absurd HA.out (by simp [threshold_Depth.l0])
  | succ k1 =>
   have H := HA.out; clear HA; simp only [threshold_Depth.l0] at H
   by_cases c4 : x9_1 < (l0_2.length : Int)
   ·
    rw [if_pos c4] at H; have c4b0 : decide (x9_1 < (l0_2.length : Int)) = true := decide_eq_true c4; clear c4
    by_cases c5 : 0 ≤ x9_1
    ·
     rw [if_pos c5] at H; have c5b0 : decide (0 ≤ x9_1) = true := decide_eq_true c5; clear c5
     by_cases c6 : x9_1 < (l0_2.length : Int)
     ·
      rw [if_pos c6] at H; have c6b0 : decide (x9_1 < (l0_2.length : Int)) = true := decide_eq_true c6; clear c6; replace H := Option.bind_eq_some_iff.mp H; obtain ⟨t200, A70, H⟩ := H; replace H : (threshold_Depth.l0 k1 (mx x3_1 t200) l0_2 (l0_2.length : Int) (wrap64 (x9_1 + 1))) = some r := H; have A7 := am A70; clear A70; obtain ⟨ji8, hji8⟩ : ∃ j_ : Int, (mx x3_1 t200) = j_ := ⟨_, rfl⟩; replace H : (threshold_Depth.l0 k1 ji8 l0_2 (l0_2.length : Int) (wrap64 (x9_1 + 1))) = some r := by first | (rw [hji8] at H; exact H) | (simp only [hji8] at H ⊢; exact H)
      (try rw [hji8] at A7); have hji8_ : (if x3_1 < t200 then t200 else x3_1) = ji8 := hji8; have H' := am H; clear H; have p198 : 0 ≤ (x9_1 : Int) := od; have q198 : x9_1 < (l0_2.length : Int) := od; obtain ⟨ad198, A198_1, c198_1, A198_2, c198_2, e198, hx198_0, hx198_1, hx198_2, hl198_1, hi198_1, hl198_2, hi198_2⟩ := at_T27 HR0_2.out x9_1 p198 q198
      cases e198
      replace hx198_0 := (HB.out.cell (World.block_lt_of_cell? w _ hx198_0)).trans hx198_0; replace hx198_1 := (HB.out.cell (World.block_lt_of_cell? w _ hx198_1)).trans hx198_1; replace hx198_2 := (HB.out.cell (World.block_lt_of_cell? w _ hx198_2)).trans hx198_2; have HR198_1 := am hi198_1; have HC198_1 := am hl198_1; clear hi198_1 hl198_1; have HR198_2 := am hi198_2; have HC198_2 := am hl198_2; clear hi198_2 hl198_2; replace p198 := eq_true p198; replace q198 := eq_true q198
      go_wp2_with (first | (refine bx 5 #[.int .i64 0, .slice none 0 0, .slice none 0 0] 27 HB.out ?_; intro gb199 hg w9 BK199 GE199 hb; replace HB := bs HB hb; clear hb hg; obtain ⟨hcz10_0, hcz10_1, hcz10_2, hfz10_0, hfz10_1, hfz10_2⟩ := blkC3 BK199.out) | (refine gA (some 15) Try.func50 #[.agg #[.int .i64 ((rd_T27 l0_2 x9_1).f0), .slice A198_1 ((rd_T27 l0_2 x9_1).f1).length c198_1, .slice A198_2 ((rd_T27 l0_2 x9_1).f2).length c198_2]] ?_; (with_reducible refine (ih k1 (by have := HK1.out; omega) ((rd_T27 l0_2 x9_1).f0) _ _ ((rd_T27 l0_2 x9_1).f1) _ _ ((rd_T27 l0_2 x9_1).f2) t200 _ (Kd.C_below HR198_1.out cl0) HC198_1.out (Kd.C_below HR198_2.out cl0) HC198_2.out A7.out).mono ?_); rintro e w11 ⟨rfl, hb⟩; refine ⟨_, rfl, ?_⟩; replace BK199 := am (blk_below (g := gb199) (o := .cells #[.int .i64 ((rd_T27 l0_2 x9_1).f0), .slice A198_1 ((rd_T27 l0_2 x9_1).f1).length c198_1, .slice A198_2 ((rd_T27 l0_2 x9_1).f2).length c198_2] 27 (0, 0)) bo hb); replace HB := am (below_step (kw HB cl0) hb); (try clear hb); (try clear hi)))
      go_roundg k1
      case measure => have := HK1.out; omega
      case rel => exact ⟨(ji8), (wrap64 (x9_1 + 1)), (by first | rfl | (simp; done) | (simp only [← hji8] <;> (first | rfl | simp)) | (simp [*]; done)), ar, H', ⟨by have := HK1.out; omega⟩, ⟨by exact HB.out⟩⟩
     ·
      rw [if_neg c6] at H; exact absurd H (by simp)
    ·
     rw [if_neg c5] at H; exact absurd H (by simp)
   ·
    rw [if_neg c4] at H; have c4b0 : decide (x9_1 < (l0_2.length : Int)) = false := decide_eq_false c4; clear c4; obtain rfl := Option.some.inj H
    go_wp2
    go_ret
    exact ⟨er, by exact HB.out⟩
/-! ### threshold_Size: function 51 -/
mutual
def threshold_Size.l0 : Nat → Int → List (S27) → Int → Int → Option (Int)
  | 0, _, _, _, _ => none
  | k + 1, x3, x14, x15, x16 => if x16 < x15 then (if 0 ≤ x16 then (if x16 < (x14.length : Int) then ((threshold_Size.f k ((rd_T27 x14 x16).f0) ((rd_T27 x14 x16).f1) ((rd_T27 x14 x16).f2)).bind fun t204 => (threshold_Size.l0 k (wrap64 (x3 + t204)) x14 x15 (wrap64 (x16 + 1)))) else (none)) else (none)) else (some x3)
def threshold_Size.f : Nat → Int → List Int → List (S27) → Option (Int)
  | 0, _, _, _ => none
  | k + 1, a0_0, l0_1, l0_2 => threshold_Size.l0 k (wrap64 ((l0_1.length : Int) + (l0_2.length : Int))) l0_2 (l0_2.length : Int) 0
end
set_option maxHeartbeats 8000000 in
set_option maxRecDepth 100000 in
theorem threshold_Size.calls (k : Nat) : ∀ (a0_0 : Int) (A0_1 : Option Addr) (c0_1 : Nat) (l0_1 : List Int) (A0_2 : Option Addr) (c0_2 : Nat) (l0_2 : List (S27)) (r : Int) (w : World) (hr0_1 : Kd.C (Kd.int .i64) w A0_1 l0_1.length l0_1) (hc0_1 : l0_1.length ≤ c0_1) (hr0_2 : Kd.C k27 w A0_2 l0_2.length l0_2) (hc0_2 : l0_2.length ≤ c0_2) (h : threshold_Size.f k a0_0 l0_1 l0_2 = some r),
    Calls Try.prog 51 #[.agg #[.int .i64 a0_0, .slice A0_1 l0_1.length c0_1, .slice A0_2 l0_2.length c0_2]] w fun e w' => e = .returned (.int .i64 r) ∧ Below w.heap.size w w' := by
 induction k using Nat.strongRecOn with
 | _ k ih =>
 intro a0_0 A0_1 c0_1 l0_1 A0_2 c0_2 l0_2 r w hr0_1 hc0_1 hr0_2 hc0_2 h
 cases k with
 | zero => exact absurd h (by simp [threshold_Size.f])
 | succ k =>
 simp only [threshold_Size.f] at h; have hu27 := Try.underlying27; have HR0_1 := am hr0_1; have HC0_1 := am hc0_1; clear hr0_1 hc0_1; have HR0_2 := am hr0_2; have HC0_2 := am hc0_2; clear hr0_2 hc0_2; have HB := am (Below.refl w.heap.size w); have H : (threshold_Size.l0 k (wrap64 ((l0_1.length : Int) + (l0_2.length : Int))) l0_2 (l0_2.length : Int) 0) = some r := h; clear h; have H' := am H; clear H
 go_enter Try.func51, Try.ntmps51
 go_wp2_with (first | (refine bx 1 #[.int .i64 a0_0, .slice A0_1 l0_1.length c0_1, .slice A0_2 l0_2.length c0_2] 27 HB.out ?_; intro gb201 hg w2 BK201 GE201 hb; replace HB := bs HB hb; clear hb hg; obtain ⟨hcz3_0, hcz3_1, hcz3_2, hfz3_0, hfz3_1, hfz3_2⟩ := blkC3 BK201.out))
 go_loopg [3, 16] k (fun kq v3 v16 w' => ∃ (x3_1 : Int) (x16_1 : Int), v3 = .int .i64 x3_1 ∧ v16 = .int .i64 x16_1 ∧ Aside0 (threshold_Size.l0 kq x3_1 l0_2 (l0_2.length : Int) x16_1 = some r) ∧ Aside0 (kq ≤ k) ∧ Aside0 (Below w.heap.size w w'))
 case atStart => exact ⟨(wrap64 ((l0_1.length : Int) + (l0_2.length : Int))), (0), ar, ar, H', ⟨Nat.le_refl _⟩, ⟨by exact HB.out⟩⟩
 case round =>
  clear H'; (try clear p2); (try clear hcz3_0 hcz3_1 hcz3_2 hfz3_0 hfz3_1 hfz3_2); obtain ⟨x3_1, x16_1, rfl, rfl, HA, HK1, HB⟩ := hrel
  cases gk with
  | zero => exact absurd HA.out (by simp [threshold_Size.l0])
  | succ k1 =>
   have H := HA.out; clear HA; simp only [threshold_Size.l0] at H
   by_cases c4 : x16_1 < (l0_2.length : Int)
   ·
    rw [if_pos c4] at H; have c4b0 : decide (x16_1 < (l0_2.length : Int)) = true := decide_eq_true c4; clear c4
    by_cases c5 : 0 ≤ x16_1
    ·
     rw [if_pos c5] at H; have c5b0 : decide (0 ≤ x16_1) = true := decide_eq_true c5; clear c5
     by_cases c6 : x16_1 < (l0_2.length : Int)
     ·
      rw [if_pos c6] at H; have c6b0 : decide (x16_1 < (l0_2.length : Int)) = true := decide_eq_true c6; clear c6; replace H := Option.bind_eq_some_iff.mp H; obtain ⟨t204, A70, H⟩ := H; replace H : (threshold_Size.l0 k1 (wrap64 (x3_1 + t204)) l0_2 (l0_2.length : Int) (wrap64 (x16_1 + 1))) = some r := H; have A7 := am A70; clear A70; have H' := am H; clear H; have p202 : 0 ≤ (x16_1 : Int) := od; have q202 : x16_1 < (l0_2.length : Int) := od; obtain ⟨ad202, A202_1, c202_1, A202_2, c202_2, e202, hx202_0, hx202_1, hx202_2, hl202_1, hi202_1, hl202_2, hi202_2⟩ := at_T27 HR0_2.out x16_1 p202 q202
      cases e202
      replace hx202_0 := (HB.out.cell (World.block_lt_of_cell? w _ hx202_0)).trans hx202_0; replace hx202_1 := (HB.out.cell (World.block_lt_of_cell? w _ hx202_1)).trans hx202_1; replace hx202_2 := (HB.out.cell (World.block_lt_of_cell? w _ hx202_2)).trans hx202_2; have HR202_1 := am hi202_1; have HC202_1 := am hl202_1; clear hi202_1 hl202_1; have HR202_2 := am hi202_2; have HC202_2 := am hl202_2; clear hi202_2 hl202_2; replace p202 := eq_true p202; replace q202 := eq_true q202
      go_wp2_with (first | (refine bx 5 #[.int .i64 0, .slice none 0 0, .slice none 0 0] 27 HB.out ?_; intro gb203 hg w8 BK203 GE203 hb; replace HB := bs HB hb; clear hb hg; obtain ⟨hcz9_0, hcz9_1, hcz9_2, hfz9_0, hfz9_1, hfz9_2⟩ := blkC3 BK203.out) | (refine gA (some 22) Try.func51 #[.agg #[.int .i64 ((rd_T27 l0_2 x16_1).f0), .slice A202_1 ((rd_T27 l0_2 x16_1).f1).length c202_1, .slice A202_2 ((rd_T27 l0_2 x16_1).f2).length c202_2]] ?_; (with_reducible refine (ih k1 (by have := HK1.out; omega) ((rd_T27 l0_2 x16_1).f0) _ _ ((rd_T27 l0_2 x16_1).f1) _ _ ((rd_T27 l0_2 x16_1).f2) t204 _ (Kd.C_below HR202_1.out cl0) HC202_1.out (Kd.C_below HR202_2.out cl0) HC202_2.out A7.out).mono ?_); rintro e w10 ⟨rfl, hb⟩; refine ⟨_, rfl, ?_⟩; replace BK203 := am (blk_below (g := gb203) (o := .cells #[.int .i64 ((rd_T27 l0_2 x16_1).f0), .slice A202_1 ((rd_T27 l0_2 x16_1).f1).length c202_1, .slice A202_2 ((rd_T27 l0_2 x16_1).f2).length c202_2] 27 (0, 0)) bo hb); replace HB := am (below_step (kw HB cl0) hb); (try clear hb); (try clear hi)))
      go_roundg k1
      case measure => have := HK1.out; omega
      case rel => exact ⟨(wrap64 (x3_1 + t204)), (wrap64 (x16_1 + 1)), ar, ar, H', ⟨by have := HK1.out; omega⟩, ⟨by exact HB.out⟩⟩
     ·
      rw [if_neg c6] at H; exact absurd H (by simp)
    ·
     rw [if_neg c5] at H; exact absurd H (by simp)
   ·
    rw [if_neg c4] at H; have c4b0 : decide (x16_1 < (l0_2.length : Int)) = false := decide_eq_false c4; clear c4; obtain rfl := Option.some.inj H
    go_wp2
    go_ret
    exact ⟨er, by exact HB.out⟩
-- NOT PRINTED: function 60 (slices_IndexFunc_int_int)

-- NOT PRINTED: function 55 (slices_ContainsFunc_int_int)

/-! ### threshold_node: function 57 -/
def threshold_node.f (a0 : Int) : Option (Bool) := if a0 ≥ 0 then (some (decide (a0 < 10))) else (some false)
set_option maxHeartbeats 8000000 in
set_option maxRecDepth 100000 in
theorem threshold_node.calls (a0 : Int) (r : Bool) (w : World) (h : threshold_node.f a0 = some r) :
    Calls Try.prog 57 #[.int .i64 a0] w fun e w' => e = .returned (.bool r) ∧ Drawn0 w w' := by
 have H : (if a0 ≥ 0 then (some (decide (a0 < 10))) else (some false)) = some r := h; clear h
 by_cases c2 : a0 ≥ 0
 ·
  rw [if_pos c2] at H; have c2b0 : decide (0 ≤ a0) = true := decide_eq_true c2; clear c2; obtain rfl := Option.some.inj H
  go_enter Try.func57, Try.ntmps57
  go_wp2
  go_ret
  exact ⟨by first | rfl | (simp; done) | (simp [*]; done) | (refine congrArg (Value.int .i64) ?_; unfold wrap64; omega), by repeat (first | exact Drawn0.refl _ | apply Drawn0.step)⟩
 ·
  rw [if_neg c2] at H; have c2b0 : decide (0 ≤ a0) = false := decide_eq_false c2; clear c2; obtain rfl := Option.some.inj H
  go_enter Try.func57, Try.ntmps57
  go_wp2
  go_ret
  exact ⟨by first | rfl | (simp; done) | (simp [*]; done) | (refine congrArg (Value.int .i64) ?_; unfold wrap64; omega), by repeat (first | exact Drawn0.refl _ | apply Drawn0.step)⟩
/-! ### threshold_level_1: function 56 -/
def threshold_level_1.f (a0 : Int) : Option (Bool) := (threshold_node.f a0).bind fun t205 => (some (!t205))
set_option maxHeartbeats 8000000 in
set_option maxRecDepth 100000 in
theorem threshold_level_1.calls (a0 : Int) (r : Bool) (w : World) (h : threshold_level_1.f a0 = some r) :
    Calls Try.prog 56 #[.int .i64 a0] w fun e w' => e = .returned (.bool r) ∧ Drawn0 w w' := by
 have H : ((threshold_node.f a0).bind fun t205 => (some (!t205))) = some r := h; clear h; replace H := Option.bind_eq_some_iff.mp H; obtain ⟨t205, A20, H⟩ := H; replace H : (some (!t205)) = some r := H; have A2 := am A20; clear A20; obtain rfl := Option.some.inj H
 go_enter Try.func56, Try.ntmps56
 go_wp2_with (first | (refine gA (some 4) Try.func57 #[.int .i64 a0] ?_; (with_reducible refine (threshold_node.calls a0 t205 _ A2.out).mono ?_); rintro e w' ⟨rfl, ⟨nd, rfl⟩⟩; refine ⟨_, rfl, ?_⟩))
 go_ret
 exact ⟨by first | rfl | (simp; done) | (simp [*]; done) | (refine congrArg (Value.int .i64) ?_; unfold wrap64; omega), by repeat (first | exact Drawn0.refl _ | apply Drawn0.step)⟩
/-! ### nodeset_below: function 63 -/
def nodeset_below.f (a0 : Int) (a1 : Int) : Option (Bool) := if a0 ≥ 0 then (if 0 ≤ a1 then (some (decide (a0 < (shl .i64 1 a1)))) else (none)) else (some false)
set_option maxHeartbeats 8000000 in
set_option maxRecDepth 100000 in
theorem nodeset_below.calls (a0 : Int) (a1 : Int) (r : Bool) (w : World) (h : nodeset_below.f a0 a1 = some r) :
    Calls Try.prog 63 #[.int .i64 a0, .int .i64 a1] w fun e w' => e = .returned (.bool r) ∧ Drawn0 w w' := by
 have H : (if a0 ≥ 0 then (if 0 ≤ a1 then (some (decide (a0 < (shl .i64 1 a1)))) else (none)) else (some false)) = some r := h; clear h
 by_cases c3 : a0 ≥ 0
 ·
  rw [if_pos c3] at H; have c3b0 : decide (0 ≤ a0) = true := decide_eq_true c3; clear c3
  by_cases c4 : 0 ≤ a1
  ·
   rw [if_pos c4] at H; have c4b0 := eq_true c4; have c4b1 : decide (0 ≤ a1) = true := decide_eq_true c4; clear c4; obtain ⟨ji5, hji5⟩ : ∃ j_ : Int, (shl .i64 1 a1) = j_ := ⟨_, rfl⟩; replace H : (some (decide (a0 < (ji5)))) = some r := by first | (rw [hji5] at H; exact H) | (simp only [hji5] at H ⊢; exact H)
   have hji5_ : (IntKind.i64.wrap (1 * 2 ^ min a1.toNat 64)) = ji5 := hji5; have hji5z : a1 ≤ 64 → (IntKind.i64.wrap (1 * 2 ^ a1.toNat)) = ji5 := shl_small hji5; have hji5u : (IntKind.i64.wrap (2 ^ min a1.toNat 64)) = ji5 := by have h_ := hji5_; rw [Int.one_mul] at h_; exact h_
   have hji5v : a1 ≤ 64 → (IntKind.i64.wrap (2 ^ a1.toNat)) = ji5 := fun hle_ => by have h_ := hji5z hle_; rw [Int.one_mul] at h_; exact h_
   have hji5y : (wrap64 (1 * 2 ^ min a1.toNat 64)) = ji5 := (i64_w _).symm.trans hji5_; have hji5x : a1 ≤ 64 → (wrap64 (1 * 2 ^ a1.toNat)) = ji5 := fun h_ => (i64_w _).symm.trans (hji5z h_); obtain rfl := Option.some.inj H
   go_enter Try.func63, Try.ntmps63
   go_wp2
   go_ret
   exact ⟨by first | rfl | (simp; done) | (simp only [← hji5] <;> (first | rfl | simp)) | (simp [*]; done), by repeat (first | exact Drawn0.refl _ | apply Drawn0.step)⟩
  ·
   rw [if_neg c4] at H; exact absurd H (by simp)
 ·
  rw [if_neg c3] at H; have c3b0 : decide (0 ≤ a0) = false := decide_eq_false c3; clear c3; obtain rfl := Option.some.inj H
  go_enter Try.func63, Try.ntmps63
  go_wp2
  go_ret
  exact ⟨by first | rfl | (simp; done) | (simp [*]; done) | (refine congrArg (Value.int .i64) ?_; unfold wrap64; omega), by repeat (first | exact Drawn0.refl _ | apply Drawn0.step)⟩
/-! ### nodeset_Valid: function 62 -/
def nodeset_Valid.f (a0 : Int) : Option (Bool) := (nodeset_below.f a0 10).bind fun t206 => (some t206)
set_option maxHeartbeats 8000000 in
set_option maxRecDepth 100000 in
theorem nodeset_Valid.calls (a0 : Int) (r : Bool) (w : World) (h : nodeset_Valid.f a0 = some r) :
    Calls Try.prog 62 #[.int .i64 a0] w fun e w' => e = .returned (.bool r) ∧ Drawn0 w w' := by
 have H : ((nodeset_below.f a0 10).bind fun t206 => (some t206)) = some r := h; clear h; replace H := Option.bind_eq_some_iff.mp H; obtain ⟨t206, A20, H⟩ := H; replace H : (some t206) = some r := H; have A2 := am A20; clear A20; obtain rfl := Option.some.inj H
 go_enter Try.func62, Try.ntmps62
 go_wp2_with (first | (refine gA (some 4) Try.func63 #[.int .i64 a0, .int .i64 10] ?_; (with_reducible refine (nodeset_below.calls a0 10 t206 _ A2.out).mono ?_); rintro e w' ⟨rfl, ⟨nd, rfl⟩⟩; refine ⟨_, rfl, ?_⟩))
 go_ret
 exact ⟨by first | rfl | (simp; done) | (simp [*]; done) | (refine congrArg (Value.int .i64) ?_; unfold wrap64; omega), by repeat (first | exact Drawn0.refl _ | apply Drawn0.step)⟩
/-! ### nodeset_Has: function 61 -/
def nodeset_Has.f (a0 : Int) (a1 : Int) : Option (Bool) := (nodeset_Valid.f a0).bind fun t207 => (if t207 = true then (if a1 ≥ 0 then (if a1 < 10 then (if 0 ≤ a1 then (some ((Go.bits .and .i64 a0 (shl .i64 1 a1)) != 0)) else (none)) else (some false)) else (some false)) else (some false))
set_option maxHeartbeats 8000000 in
set_option maxRecDepth 100000 in
theorem nodeset_Has.calls (a0 : Int) (a1 : Int) (r : Bool) (w : World) (h : nodeset_Has.f a0 a1 = some r) :
    Calls Try.prog 61 #[.int .i64 a0, .int .i64 a1] w fun e w' => e = .returned (.bool r) ∧ Drawn0 w w' := by
 have H : ((nodeset_Valid.f a0).bind fun t207 => (if t207 = true then (if a1 ≥ 0 then (if a1 < 10 then (if 0 ≤ a1 then (some ((Go.bits .and .i64 a0 (shl .i64 1 a1)) != 0)) else (none)) else (some false)) else (some false)) else (some false))) = some r := h; clear h; replace H := Option.bind_eq_some_iff.mp H; obtain ⟨t207, A30, H⟩ := H; replace H : (if t207 = true then (if a1 ≥ 0 then (if a1 < 10 then (if 0 ≤ a1 then (some ((Go.bits .and .i64 a0 (shl .i64 1 a1)) != 0)) else (none)) else (some false)) else (some false)) else (some false)) = some r := H; have A3 := am A30; clear A30
 by_cases c4 : t207 = true
 ·
  subst c4; have H1 : (if a1 ≥ 0 then (if a1 < 10 then (if 0 ≤ a1 then (some ((Go.bits .and .i64 a0 (shl .i64 1 a1)) != 0)) else (none)) else (some false)) else (some false)) = some r := by rw [if_pos rfl] at H; exact H
  clear H; have H := H1; clear H1
  by_cases c5 : a1 ≥ 0
  ·
   rw [if_pos c5] at H; have c5b0 : decide (0 ≤ a1) = true := decide_eq_true c5; clear c5
   by_cases c6 : a1 < 10
   ·
    rw [if_pos c6] at H; have c6b0 : decide (a1 < 10) = true := decide_eq_true c6; clear c6
    by_cases c7 : 0 ≤ a1
    ·
     rw [if_pos c7] at H; have c7b0 := eq_true c7; have c7b1 : decide (0 ≤ a1) = true := decide_eq_true c7; clear c7; obtain ⟨ji8, hji8⟩ : ∃ j_ : Int, (shl .i64 1 a1) = j_ := ⟨_, rfl⟩; replace H : (some ((Go.bits .and .i64 a0 (ji8)) != 0)) = some r := by first | (rw [hji8] at H; exact H) | (simp only [hji8] at H ⊢; exact H)
     (try rw [hji8] at A3); have hji8_ : (IntKind.i64.wrap (1 * 2 ^ min a1.toNat 64)) = ji8 := hji8; have hji8z : a1 ≤ 64 → (IntKind.i64.wrap (1 * 2 ^ a1.toNat)) = ji8 := shl_small hji8; have hji8u : (IntKind.i64.wrap (2 ^ min a1.toNat 64)) = ji8 := by have h_ := hji8_; rw [Int.one_mul] at h_; exact h_
     have hji8v : a1 ≤ 64 → (IntKind.i64.wrap (2 ^ a1.toNat)) = ji8 := fun hle_ => by have h_ := hji8z hle_; rw [Int.one_mul] at h_; exact h_
     have hji8y : (wrap64 (1 * 2 ^ min a1.toNat 64)) = ji8 := (i64_w _).symm.trans hji8_; have hji8x : a1 ≤ 64 → (wrap64 (1 * 2 ^ a1.toNat)) = ji8 := fun h_ => (i64_w _).symm.trans (hji8z h_); obtain rfl := Option.some.inj H
     go_enter Try.func61, Try.ntmps61
     go_wp2_with (first | (refine gA (some 6) Try.func62 #[.int .i64 a0] ?_; (with_reducible refine (nodeset_Valid.calls a0 true _ A3.out).mono ?_); rintro e w' ⟨rfl, ⟨nd, rfl⟩⟩; refine ⟨_, rfl, ?_⟩))
     go_ret
     exact ⟨by first | rfl | (simp; done) | (simp only [← hji8] <;> (first | rfl | simp)) | (simp [*]; done), by repeat (first | exact Drawn0.refl _ | apply Drawn0.step)⟩
    ·
     rw [if_neg c7] at H; exact absurd H (by simp)
   ·
    rw [if_neg c6] at H; have c6b0 : decide (a1 < 10) = false := decide_eq_false c6; clear c6; obtain rfl := Option.some.inj H
    go_enter Try.func61, Try.ntmps61
    go_wp2_with (first | (refine gA (some 6) Try.func62 #[.int .i64 a0] ?_; (with_reducible refine (nodeset_Valid.calls a0 true _ A3.out).mono ?_); rintro e w' ⟨rfl, ⟨nd, rfl⟩⟩; refine ⟨_, rfl, ?_⟩))
    go_ret
    exact ⟨by first | rfl | (simp; done) | (simp [*]; done) | (refine congrArg (Value.int .i64) ?_; unfold wrap64; omega), by repeat (first | exact Drawn0.refl _ | apply Drawn0.step)⟩
  ·
   rw [if_neg c5] at H; have c5b0 : decide (0 ≤ a1) = false := decide_eq_false c5; clear c5; obtain rfl := Option.some.inj H
   go_enter Try.func61, Try.ntmps61
   go_wp2_with (first | (refine gA (some 6) Try.func62 #[.int .i64 a0] ?_; (with_reducible refine (nodeset_Valid.calls a0 true _ A3.out).mono ?_); rintro e w' ⟨rfl, ⟨nd, rfl⟩⟩; refine ⟨_, rfl, ?_⟩))
   go_ret
   exact ⟨by first | rfl | (simp; done) | (simp [*]; done) | (refine congrArg (Value.int .i64) ?_; unfold wrap64; omega), by repeat (first | exact Drawn0.refl _ | apply Drawn0.step)⟩
 ·
  replace c4 := Bool.eq_false_iff.mpr c4; subst c4; have H1 : (some false) = some r := by rw [if_neg (show ¬ (false = true) by decide)] at H; exact H
  clear H; have H := H1; clear H1; obtain rfl := Option.some.inj H
  go_enter Try.func61, Try.ntmps61
  go_wp2_with (first | (refine gA (some 6) Try.func62 #[.int .i64 a0] ?_; (with_reducible refine (nodeset_Valid.calls a0 false _ A3.out).mono ?_); rintro e w' ⟨rfl, ⟨nd, rfl⟩⟩; refine ⟨_, rfl, ?_⟩))
  go_ret
  exact ⟨by first | rfl | (simp; done) | (simp [*]; done) | (refine congrArg (Value.int .i64) ?_; unfold wrap64; omega), by repeat (first | exact Drawn0.refl _ | apply Drawn0.step)⟩
/-! ### nodeset_Of: function 58 -/
mutual
def nodeset_Of.l0 : Nat → Int → List Int → Int → Int → Option (Int × Int)
  | 0, _, _, _, _ => none
  | k + 1, x4, x7, x8, x9 => if x9 < x8 then (if 0 ≤ x9 then (if x9 < (x7.length : Int) then (if (rd x7 x9) < 0 then (nodeset_Of.j1 k x4 (rd x7 x9) x7 x8 x9 true) else (nodeset_Of.j1 k x4 (rd x7 x9) x7 x8 x9 (decide ((rd x7 x9) ≥ 10)))) else (none)) else (none)) else (some (x4, 0))
def nodeset_Of.j1 : Nat → Int → Int → List Int → Int → Int → Bool → Option (Int × Int)
  | 0, _, _, _, _, _, _ => none
  | k + 1, x4, x6, x7, x8, x9, x18 => if x18 = true then (some (0, 5)) else ((nodeset_Has.f x4 x6).bind fun t209 => (if t209 = true then (some (0, 6)) else (if 0 ≤ x6 then (nodeset_Of.l0 k (Go.bits .or .i64 x4 (shl .i64 1 x6)) x7 x8 (wrap64 (x9 + 1))) else (none))))
end
def nodeset_Of.f (k : Nat) (l0 : List Int) : Option (Int × Int) := nodeset_Of.l0 k 0 l0 (l0.length : Int) 0
set_option maxHeartbeats 8000000 in
set_option maxRecDepth 100000 in
theorem nodeset_Of.calls (k : Nat) (A0 : Option Addr) (c0 : Nat) (l0 : List Int) (r1 : Int) (r2 : Int) (w : World) (hr0 : Kd.C (Kd.int .i64) w A0 l0.length l0) (hc0 : l0.length ≤ c0) (h : nodeset_Of.f k l0 = some (r1, r2)) :
    Calls Try.prog 58 #[.slice A0 l0.length c0] w fun e w' => e = .returned (.tuple #[.int .i64 r1, .int .i64 r2]) ∧ Drawn0 w w' := by
 have HR0 := am hr0; have HC0 := am hc0; clear hr0 hc0; have H : (nodeset_Of.l0 k 0 l0 (l0.length : Int) 0) = some (r1, r2) := h; clear h; have H' := am H; clear H
 go_enter Try.func58, Try.ntmps58
 go_wp2
 go_loopg [4, 9] k (fun kq v4 v9 w' => ∃ (x4_1 : Int) (x9_1 : Int), v4 = .int .i64 x4_1 ∧ v9 = .int .i64 x9_1 ∧ Aside0 (nodeset_Of.l0 kq x4_1 l0 (l0.length : Int) x9_1 = some (r1, r2)) ∧ Aside0 (kq ≤ k) ∧ Drawn0 w w')
 case atStart => exact ⟨(0), (0), ar, ar, H', ⟨Nat.le_refl _⟩, by repeat (first | exact Drawn0.refl _ | apply Drawn0.step)⟩
 case round =>
  clear H'; obtain ⟨x4_1, x9_1, rfl, rfl, HA, HK1, ⟨m1, rfl⟩⟩ := hrel
  cases gk with
  | zero => exact absurd HA.out (by simp [nodeset_Of.l0])
  | succ k1 =>
   have H := HA.out; clear HA; simp only [nodeset_Of.l0] at H
   by_cases c2 : x9_1 < (l0.length : Int)
   ·
    rw [if_pos c2] at H; have c2b0 : decide (x9_1 < (l0.length : Int)) = true := decide_eq_true c2; clear c2
    by_cases c3 : 0 ≤ x9_1
    ·
     rw [if_pos c3] at H; have c3b0 : decide (0 ≤ x9_1) = true := decide_eq_true c3; clear c3
     by_cases c4 : x9_1 < (l0.length : Int)
     ·
      rw [if_pos c4] at H; have c4b0 : decide (x9_1 < (l0.length : Int)) = true := decide_eq_true c4; clear c4; have HC5 := am H; clear H; have p208 : 0 ≤ (x9_1 : Int) := od; have q208 : x9_1 < (l0.length : Int) := od; obtain ⟨ad208, e208, hx208_0⟩ := Kd.at_int HR0.out x9_1 p208 q208
      cases e208
      replace p208 := eq_true p208; replace q208 := eq_true q208
      go_upto_region 5 with (fail)
      go_cut [18] (fun v18 wc => ∃ (kq : Nat) (x18_4 : Bool), v18 = .bool x18_4 ∧ Aside0 (nodeset_Of.j1 kq x4_1 (rd l0 x9_1) l0 (l0.length : Int) x9_1 x18_4 = some (r1, r2)) ∧ Aside0 (kq ≤ k1) ∧ Drawn0 w wc)
      case first =>
       have H := HC5.out; clear HC5
       by_cases c6 : (rd l0 x9_1) < 0
       ·
        rw [if_pos c6] at H; have c6b0 : decide ((rd l0 x9_1) < 0) = true := decide_eq_true c6; clear c6; (first | rw [c6b0] | (simp only [i64_w, i32_w]; rw [c6b0]) | skip); have H' := am H; clear H
        go_wp2
        go_meet
        case rel => exact ⟨_, (true), ar, H', ⟨by have := HK1.out; first | omega | exact Nat.le_refl _⟩, by repeat (first | exact Drawn0.refl _ | apply Drawn0.step)⟩
       ·
        rw [if_neg c6] at H; have c6b0 : decide ((rd l0 x9_1) < 0) = false := decide_eq_false c6; clear c6; (first | rw [c6b0] | (simp only [i64_w, i32_w]; rw [c6b0]) | skip); have H' := am H; clear H
        go_wp2
        go_meet
        case rel => exact ⟨_, (decide ((rd l0 x9_1) ≥ 10)), ar, H', ⟨by have := HK1.out; first | omega | exact Nat.le_refl _⟩, by repeat (first | exact Drawn0.refl _ | apply Drawn0.step)⟩
      case rest =>
       clear HC5; (try clear c2); (try clear c2b0); (try clear p2); (try clear q2); (try clear hx2); (try clear c3); (try clear c3b0); (try clear c4); (try clear c4b0); (try clear c5); (try clear c6); (try clear c6b0); (try clear p6); (try clear hx208_0); (try clear p208); (try clear q208); obtain ⟨kq, x18_4, rfl, HA, HJ4, ⟨mc4, rfl⟩⟩ := hcut
       cases kq with
       | zero => exact absurd HA.out (by simp [nodeset_Of.j1])
       | succ kj4 =>
        have H := HA.out; clear HA; simp only [nodeset_Of.j1] at H
        by_cases c7 : x18_4 = true
        ·
         subst c7; have H1 : (some (0, 5)) = some (r1, r2) := by rw [if_pos rfl] at H; exact H
         clear H; have H := H1; clear H1; simp only [Option.some.injEq, Prod.mk.injEq] at H; obtain ⟨rfl, rfl⟩ := H
         go_wp2
         go_ret2
         exact ⟨by first | rfl | (simp; done) | (simp [*]; done) | (refine congrArg (Value.int .i64) ?_; unfold wrap64; omega), by repeat (first | exact Drawn0.refl _ | apply Drawn0.step)⟩
        ·
         replace c7 := Bool.eq_false_iff.mpr c7; subst c7; have H1 : ((nodeset_Has.f x4_1 (rd l0 x9_1)).bind fun t209 => (if t209 = true then (some (0, 6)) else (if 0 ≤ (rd l0 x9_1) then (nodeset_Of.l0 kj4 (Go.bits .or .i64 x4_1 (shl .i64 1 (rd l0 x9_1))) l0 (l0.length : Int) (wrap64 (x9_1 + 1))) else (none)))) = some (r1, r2) := by rw [if_neg (show ¬ (false = true) by decide)] at H; exact H
         clear H; have H := H1; clear H1; replace H := Option.bind_eq_some_iff.mp H; obtain ⟨t209, A80, H⟩ := H; replace H : (if t209 = true then (some (0, 6)) else (if 0 ≤ (rd l0 x9_1) then (nodeset_Of.l0 kj4 (Go.bits .or .i64 x4_1 (shl .i64 1 (rd l0 x9_1))) l0 (l0.length : Int) (wrap64 (x9_1 + 1))) else (none))) = some (r1, r2) := H; have A8 := am A80; clear A80
         by_cases c9 : t209 = true
         ·
          subst c9; have H1 : (some (0, 6)) = some (r1, r2) := by rw [if_pos rfl] at H; exact H
          clear H; have H := H1; clear H1; simp only [Option.some.injEq, Prod.mk.injEq] at H; obtain ⟨rfl, rfl⟩ := H
          go_wp2_with (first | (refine gA (some 21) Try.func61 #[.int .i64 x4_1, .int .i64 (rd l0 x9_1)] ?_; (with_reducible refine (nodeset_Has.calls x4_1 (rd l0 x9_1) true _ A8.out).mono ?_); rintro e w' ⟨rfl, ⟨nd, rfl⟩⟩; refine ⟨_, rfl, ?_⟩))
          go_ret2
          exact ⟨by first | rfl | (simp; done) | (simp [*]; done) | (refine congrArg (Value.int .i64) ?_; unfold wrap64; omega), by repeat (first | exact Drawn0.refl _ | apply Drawn0.step)⟩
         ·
          replace c9 := Bool.eq_false_iff.mpr c9; subst c9; have H1 : (if 0 ≤ (rd l0 x9_1) then (nodeset_Of.l0 kj4 (Go.bits .or .i64 x4_1 (shl .i64 1 (rd l0 x9_1))) l0 (l0.length : Int) (wrap64 (x9_1 + 1))) else (none)) = some (r1, r2) := by rw [if_neg (show ¬ (false = true) by decide)] at H; exact H
          clear H; have H := H1; clear H1
          by_cases c10 : 0 ≤ (rd l0 x9_1)
          ·
           rw [if_pos c10] at H; have c10b0 := eq_true c10; have c10b1 : decide (0 ≤ (rd l0 x9_1)) = true := decide_eq_true c10; clear c10; obtain ⟨ji11, hji11⟩ : ∃ j_ : Int, (shl .i64 1 (rd l0 x9_1)) = j_ := ⟨_, rfl⟩; replace H : (nodeset_Of.l0 kj4 (Go.bits .or .i64 x4_1 (ji11)) l0 (l0.length : Int) (wrap64 (x9_1 + 1))) = some (r1, r2) := by first | (rw [hji11] at H; exact H) | (simp only [hji11] at H ⊢; exact H)
           (try rw [hji11] at A8); have hji11_ : (IntKind.i64.wrap (1 * 2 ^ min (rd l0 x9_1).toNat 64)) = ji11 := hji11; have hji11z : (rd l0 x9_1) ≤ 64 → (IntKind.i64.wrap (1 * 2 ^ (rd l0 x9_1).toNat)) = ji11 := shl_small hji11; have hji11u : (IntKind.i64.wrap (2 ^ min (rd l0 x9_1).toNat 64)) = ji11 := by have h_ := hji11_; rw [Int.one_mul] at h_; exact h_
           have hji11v : (rd l0 x9_1) ≤ 64 → (IntKind.i64.wrap (2 ^ (rd l0 x9_1).toNat)) = ji11 := fun hle_ => by have h_ := hji11z hle_; rw [Int.one_mul] at h_; exact h_
           have hji11y : (wrap64 (1 * 2 ^ min (rd l0 x9_1).toNat 64)) = ji11 := (i64_w _).symm.trans hji11_; have hji11x : (rd l0 x9_1) ≤ 64 → (wrap64 (1 * 2 ^ (rd l0 x9_1).toNat)) = ji11 := fun h_ => (i64_w _).symm.trans (hji11z h_); have H' := am H; clear H
           go_wp2_with (first | (refine gA (some 21) Try.func61 #[.int .i64 x4_1, .int .i64 (rd l0 x9_1)] ?_; (with_reducible refine (nodeset_Has.calls x4_1 (rd l0 x9_1) false _ A8.out).mono ?_); rintro e w' ⟨rfl, ⟨nd, rfl⟩⟩; refine ⟨_, rfl, ?_⟩))
           go_roundg kj4
           case measure => have := HK1.out; have := HJ4.out; omega
           case rel => exact ⟨(Go.bits .or .i64 x4_1 (ji11)), (wrap64 (x9_1 + 1)), (by first | rfl | (simp; done) | (simp only [← hji11] <;> (first | rfl | simp)) | (simp [*]; done)), ar, H', ⟨by have := HK1.out; have := HJ4.out; omega⟩, by repeat (first | exact Drawn0.refl _ | apply Drawn0.step)⟩
          ·
           rw [if_neg c10] at H; exact absurd H (by simp)
     ·
      rw [if_neg c4] at H; exact absurd H (by simp)
    ·
     rw [if_neg c3] at H; exact absurd H (by simp)
   ·
    rw [if_neg c2] at H; have c2b0 : decide (x9_1 < (l0.length : Int)) = false := decide_eq_false c2; clear c2; simp only [Option.some.injEq, Prod.mk.injEq] at H; obtain ⟨rfl, rfl⟩ := H
    go_wp2
    go_ret2
    exact ⟨by first | rfl | (simp; done) | (simp [*]; done) | (refine congrArg (Value.int .i64) ?_; unfold wrap64; omega), by repeat (first | exact Drawn0.refl _ | apply Drawn0.step)⟩
/-! ### slices_IndexFunc_int_int__on_56: function 81 -/
def slices_IndexFunc_int_int__on_56.l0 : Nat → List Int → Int → Int → Option (Int)
  | 0, _, _, _ => none
  | k + 1, x0, x7, x8 => if x8 < x7 then (if 0 ≤ x8 then (if x8 < (x0.length : Int) then ((threshold_level_1.f (rd x0 x8)).bind fun t211 => (if t211 = true then (some x8) else (slices_IndexFunc_int_int__on_56.l0 k x0 x7 (wrap64 (x8 + 1))))) else (none)) else (none)) else (some (-1))
def slices_IndexFunc_int_int__on_56.f (k : Nat) (l0 : List Int)  : Option (Int) := slices_IndexFunc_int_int__on_56.l0 k l0 (l0.length : Int) 0
set_option maxHeartbeats 8000000 in
set_option maxRecDepth 100000 in
theorem slices_IndexFunc_int_int__on_56.calls (k : Nat) (A0 : Option Addr) (c0 : Nat) (l0 : List Int)  (r : Int) (w : World) (hr0 : Kd.C (Kd.int .i64) w A0 l0.length l0) (hc0 : l0.length ≤ c0) (h : slices_IndexFunc_int_int__on_56.f k l0 = some r) :
    Calls Try.prog 60 #[.slice A0 l0.length c0, .func (.func 56) #[] #[]] w fun e w' => e = .returned (.int .i64 r) ∧ Below w.heap.size w w' := by
 have HR0 := am hr0; have HC0 := am hc0; clear hr0 hc0; have HB := am (Below.refl w.heap.size w); have H : (slices_IndexFunc_int_int__on_56.l0 k l0 (l0.length : Int) 0) = some r := h; clear h; have H' := am H; clear H
 go_enter Try.func60, Try.ntmps60
 go_wp2
 go_loopg [8] k (fun kq v8 w' => ∃ (x8_1 : Int), v8 = .int .i64 x8_1 ∧ Aside0 (slices_IndexFunc_int_int__on_56.l0 kq l0 (l0.length : Int) x8_1 = some r) ∧ Aside0 (kq ≤ k) ∧ Aside0 (Below w.heap.size w w'))
 case atStart => exact ⟨(0), ar, H', ⟨Nat.le_refl _⟩, ⟨by exact HB.out⟩⟩
 case round =>
  clear H'; (try clear p2); obtain ⟨x8_1, rfl, HA, HK1, HB⟩ := hrel
  cases gk with
  | zero => exact absurd HA.out (by simp [slices_IndexFunc_int_int__on_56.l0])
  | succ k1 =>
   have H := HA.out; clear HA; simp only [slices_IndexFunc_int_int__on_56.l0] at H
   by_cases c3 : x8_1 < (l0.length : Int)
   ·
    rw [if_pos c3] at H; have c3b0 : decide (x8_1 < (l0.length : Int)) = true := decide_eq_true c3; clear c3
    by_cases c4 : 0 ≤ x8_1
    ·
     rw [if_pos c4] at H; have c4b0 : decide (0 ≤ x8_1) = true := decide_eq_true c4; clear c4
     by_cases c5 : x8_1 < (l0.length : Int)
     ·
      rw [if_pos c5] at H; have c5b0 : decide (x8_1 < (l0.length : Int)) = true := decide_eq_true c5; clear c5; replace H := Option.bind_eq_some_iff.mp H; obtain ⟨t211, A60, H⟩ := H; replace H : (if t211 = true then (some x8_1) else (slices_IndexFunc_int_int__on_56.l0 k1 l0 (l0.length : Int) (wrap64 (x8_1 + 1)))) = some r := H; have A6 := am A60; clear A60
      by_cases c7 : t211 = true
      ·
       subst c7; have H1 : (some x8_1) = some r := by rw [if_pos rfl] at H; exact H
       clear H; have H := H1; clear H1; obtain rfl := Option.some.inj H; have p210 : 0 ≤ (x8_1 : Int) := od; have q210 : x8_1 < (l0.length : Int) := od; obtain ⟨ad210, e210, hx210_0⟩ := Kd.at_int HR0.out x8_1 p210 q210
       cases e210
       replace hx210_0 := (HB.out.cell (World.block_lt_of_cell? w _ hx210_0)).trans hx210_0; replace p210 := eq_true p210; replace q210 := eq_true q210
       go_wp2_with (first | ((with_reducible refine gate_via (f := 56) (i := 11) rfl rfl ?_); refine goesV_ (some 16) rfl rfl Try.func56 (by kernel_rfl) rfl #[.int .i64 (rd l0 x8_1)] (s := .tmp 11) rfl rfl ax ?_; (with_reducible refine (threshold_level_1.calls (rd l0 x8_1) true _ A6.out).mono ?_); rintro e w' ⟨rfl, ⟨nd, rfl⟩⟩; refine ⟨_, rfl, ?_⟩))
       go_ret
       exact ⟨er, cl4⟩
      ·
       replace c7 := Bool.eq_false_iff.mpr c7; subst c7; have H1 : (slices_IndexFunc_int_int__on_56.l0 k1 l0 (l0.length : Int) (wrap64 (x8_1 + 1))) = some r := by rw [if_neg (show ¬ (false = true) by decide)] at H; exact H
       clear H; have H := H1; clear H1; have H' := am H; clear H; have p210 : 0 ≤ (x8_1 : Int) := od; have q210 : x8_1 < (l0.length : Int) := od; obtain ⟨ad210, e210, hx210_0⟩ := Kd.at_int HR0.out x8_1 p210 q210
       cases e210
       replace hx210_0 := (HB.out.cell (World.block_lt_of_cell? w _ hx210_0)).trans hx210_0; replace p210 := eq_true p210; replace q210 := eq_true q210
       go_wp2_with (first | ((with_reducible refine gate_via (f := 56) (i := 11) rfl rfl ?_); refine goesV_ (some 16) rfl rfl Try.func56 (by kernel_rfl) rfl #[.int .i64 (rd l0 x8_1)] (s := .tmp 11) rfl rfl ax ?_; (with_reducible refine (threshold_level_1.calls (rd l0 x8_1) false _ A6.out).mono ?_); rintro e w' ⟨rfl, ⟨nd, rfl⟩⟩; refine ⟨_, rfl, ?_⟩))
       go_roundg k1
       case measure => have := HK1.out; omega
       case rel => exact ⟨(wrap64 (x8_1 + 1)), ar, H', ⟨by have := HK1.out; omega⟩, ⟨cl4⟩⟩
     ·
      rw [if_neg c5] at H; exact absurd H (by simp)
    ·
     rw [if_neg c4] at H; exact absurd H (by simp)
   ·
    rw [if_neg c3] at H; have c3b0 : decide (x8_1 < (l0.length : Int)) = false := decide_eq_false c3; clear c3; obtain rfl := Option.some.inj H
    go_wp2
    go_ret
    exact ⟨er, by exact HB.out⟩
end Go.Proofs.Ytphndccgadblnaa.QLeadersAnswers
