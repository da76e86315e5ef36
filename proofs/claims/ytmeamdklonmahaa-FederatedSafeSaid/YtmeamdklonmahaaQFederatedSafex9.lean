/- Lean functions that answer as the Go functions do which the law reaches, and proofs that the Go code comes to exactly these answers. Conditions: those that each theorem names. -/
import Derived.Test.YtmeamdklonmahaaQFederatedSafex0
import Derived.Test.YtmeamdklonmahaaQFederatedSafex8
namespace Go.Proofs.Ytmeamdklonmahaa.QFederatedSafe
open Go.RowKit Go.Proofs.YtmeamdklonmahaaW.PrintWords Go.Proofs.YtmeamdklonmahaaW.PrintLast Go.Proofs.YtmeamdklonmahaaW.PrintMore
attribute [local go_sem] max2_int min2_int max_two min_two max_three min_three max_four min_four   -- for this text's walks alone
set_option linter.unusedVariables false
set_option linter.unusedSimpArgs false

/-! ### trustquorumref02_Same: function 25 -/
mutual
def trustquorumref02_Same.j0 : Nat → Bool → Int → List Int → List (S48) → Int → List Int → List (S48) → Option (Bool)
  | 0, _, _, _, _, _, _, _ => none
  | k + 1, x27, x385000, x385001, x385002, x386000, x386001, x386002 => if x27 = true then (some false) else (trustquorumref02_Same.l0 k (x385002.length : Int) 0 x385000 x385001 x385002 x386000 x386001 x386002)
def trustquorumref02_Same.l0 : Nat → Int → Int → Int → List Int → List (S48) → Int → List Int → List (S48) → Option (Bool)
  | 0, _, _, _, _, _, _, _, _ => none
  | k + 1, x30, x31, x385000, x385001, x385002, x386000, x386001, x386002 => if x31 < x30 then (if 0 ≤ x31 then (if x31 < (x385002.length : Int) then (if x31 < (x386002.length : Int) then ((trustquorumref02_Same.f k ((rd_T48 x385002 x31).f0) ((rd_T48 x385002 x31).f1) ((rd_T48 x385002 x31).f2) ((rd_T48 x386002 x31).f0) ((rd_T48 x386002 x31).f1) ((rd_T48 x386002 x31).f2)).bind fun t389 => (if t389 = true then (trustquorumref02_Same.l0 k x30 (wrap64 (x31 + 1)) x385000 x385001 x385002 x386000 x386001 x386002) else (some false))) else (none)) else (none)) else (none)) else (some true)
def trustquorumref02_Same.f : Nat → Int → List Int → List (S48) → Int → List Int → List (S48) → Option (Bool)
  | 0, _, _, _, _, _, _ => none
  | k + 1, a0_0, l0_1, l0_2, a1_0, l1_1, l1_2 => if a0_0 = a1_0 then ((trustquorumref01_Same.f k l0_1 l1_1).bind fun t386 => (if t386 = true then (trustquorumref02_Same.j0 k ((l0_2.length : Int) != (l1_2.length : Int)) a0_0 l0_1 l0_2 a1_0 l1_1 l1_2) else (trustquorumref02_Same.j0 k true a0_0 l0_1 l0_2 a1_0 l1_1 l1_2))) else (trustquorumref02_Same.j0 k true a0_0 l0_1 l0_2 a1_0 l1_1 l1_2)
end
def trustquorumref02_Same.T6 : Bool × List (List Nat × List Nat) := (true, [([], []), ([0], [0]), ([], []), ([1, 2], [1, 2]), ([3], [3]), ([], []), ([5], [5]), ([], []), ([6, 7], [6, 7]), ([8], [8]), ([4, 9], [4, 9]), ([10], [10])])
def trustquorumref02_Same.B6 : List Nat := [0, 1, 0, 7, 15, 0, 32, 0, 224, 480, 1023, 2047]
theorem trustquorumref02_Same.tab6 : rtab .any (opsOf Try.f25 6) = trustquorumref02_Same.T6 := by kernel_rfl
theorem trustquorumref02_Same.bits6 : waitsOk trustquorumref02_Same.T6.2 trustquorumref02_Same.B6 = true := by kernel_rfl
set_option maxHeartbeats 8000000 in
set_option maxRecDepth 100000 in
theorem trustquorumref02_Same.calls (k : Nat) : ∀ (a0_0 : Int) (A0_1 : Option Addr) (c0_1 : Nat) (l0_1 : List Int) (A0_2 : Option Addr) (c0_2 : Nat) (l0_2 : List (S48)) (a1_0 : Int) (A1_1 : Option Addr) (c1_1 : Nat) (l1_1 : List Int) (A1_2 : Option Addr) (c1_2 : Nat) (l1_2 : List (S48)) (r : Bool) (w : World) (hr0_1 : Kd.C (Kd.int .i64) w A0_1 l0_1.length l0_1) (hc0_1 : l0_1.length ≤ c0_1) (hr0_2 : Kd.C k48 w A0_2 l0_2.length l0_2) (hc0_2 : l0_2.length ≤ c0_2) (hr1_1 : Kd.C (Kd.int .i64) w A1_1 l1_1.length l1_1) (hc1_1 : l1_1.length ≤ c1_1) (hr1_2 : Kd.C k48 w A1_2 l1_2.length l1_2) (hc1_2 : l1_2.length ≤ c1_2) (h : trustquorumref02_Same.f k a0_0 l0_1 l0_2 a1_0 l1_1 l1_2 = some r),
    Calls Try.prog 25 #[.agg #[.int .i64 a0_0, .slice A0_1 l0_1.length c0_1, .slice A0_2 l0_2.length c0_2], .agg #[.int .i64 a1_0, .slice A1_1 l1_1.length c1_1, .slice A1_2 l1_2.length c1_2]] w fun e w' => e = .returned (.bool r) ∧ Below w.heap.size w w' := by
 induction k using Nat.strongRecOn with
 | _ k ih =>
 intro a0_0 A0_1 c0_1 l0_1 A0_2 c0_2 l0_2 a1_0 A1_1 c1_1 l1_1 A1_2 c1_2 l1_2 r w hr0_1 hc0_1 hr0_2 hc0_2 hr1_1 hc1_1 hr1_2 hc1_2 h
 cases k with
 | zero => exact absurd h (by simp [trustquorumref02_Same.f])
 | succ k =>
 simp only [trustquorumref02_Same.f] at h; have hu48 := Try.underlying48; have HR0_1 := am hr0_1; have HC0_1 := am hc0_1; clear hr0_1 hc0_1; have HR0_2 := am hr0_2; have HC0_2 := am hc0_2; clear hr0_2 hc0_2; have HR1_1 := am hr1_1; have HC1_1 := am hc1_1; clear hr1_1 hc1_1; have HR1_2 := am hr1_2; have HC1_2 := am hc1_2; clear hr1_2 hc1_2; have HB := am (Below.refl w.heap.size w); have H : (if a0_0 = a1_0 then ((trustquorumref01_Same.f k l0_1 l1_1).bind fun t386 => (if t386 = true then (trustquorumref02_Same.j0 k ((l0_2.length : Int) != (l1_2.length : Int)) a0_0 l0_1 l0_2 a1_0 l1_1 l1_2) else (trustquorumref02_Same.j0 k true a0_0 l0_1 l0_2 a1_0 l1_1 l1_2))) else (trustquorumref02_Same.j0 k true a0_0 l0_1 l0_2 a1_0 l1_1 l1_2)) = some r := h; clear h; have HC3 := am H; clear H
 go_enter Try.func25, Try.ntmps25
 go_upto_region 1 with (first | ((with_reducible refine gate_dst (N := 2) rfl ?_); (try (refine gate_guard (by rfl) ?_; dsimp only)); refine box_event ?hg (N := 2) ?hd (cs := #[.int .i64 a0_0, .slice A0_1 l0_1.length c0_1, .slice A0_2 l0_2.length c0_2]) (t := 48) ?hr ?_; (case hd => rfl); (case hg => rfl); (case hr => first | (go_simp; done) | (go_simp; rfl)); intro gb384 hg w4 hbox hb; have BK384 := am (hbox); have GW384 := am ((by rw [hg]; exact (below_size HB.out) : w.heap.size ≤ gb384)); have GE384 := am ((by rw [hg]; exact (below_size HB.out) : w.heap.size ≤ gb384)); replace HB := bs HB hb; clear hb hg) | ((with_reducible refine gate_dst (N := 3) rfl ?_); (try (refine gate_guard (by rfl) ?_; dsimp only)); refine box_event ?hg (N := 3) ?hd (cs := #[.int .i64 a1_0, .slice A1_1 l1_1.length c1_1, .slice A1_2 l1_2.length c1_2]) (t := 48) ?hr ?_; (case hd => rfl); (case hg => rfl); (case hr => first | (go_simp; done) | (go_simp; rfl)); intro gb385 hg w5 hbox hb; have BK385 := am (hbox); have GW385 := am ((by rw [hg]; exact (below_size HB.out) : w.heap.size ≤ gb385)); have GE385 := am ((by rw [hg]; exact (below_size HB.out) : w.heap.size ≤ gb385)); replace HB := bs HB hb; have NB384_385 := nl hg BK384; have NB385_384 := ng hg BK384; replace BK384 := bb BK384 hb; clear hb hg))
 (try simp only [Act.put, List.setIfInBounds_toArray, List.set_cons_zero, List.set_cons_succ])
 go_cut [27] (fun v27 wc => ∃ (kq : Nat) (x27_2 : Bool), v27 = .bool x27_2 ∧ Aside0 (trustquorumref02_Same.j0 kq x27_2 a0_0 l0_1 l0_2 a1_0 l1_1 l1_2 = some r) ∧ Aside0 (kq ≤ k) ∧ Aside0 (wc.heap[gb384]? = some (.cells #[.int .i64 a0_0, (.slice A0_1 l0_1.length c0_1), (.slice A0_2 l0_2.length c0_2)] 48 (0, 0))) ∧ Aside0 (wc.heap[gb385]? = some (.cells #[.int .i64 a1_0, (.slice A1_1 l1_1.length c1_1), (.slice A1_2 l1_2.length c1_2)] 48 (0, 0))) ∧ Aside0 (Below w.heap.size w wc))
 case first =>
  have H := HC3.out; clear HC3
  by_cases c6 : a0_0 = a1_0
  ·
   rw [if_pos c6] at H; have c6b0 : (a0_0 == a1_0) = true := beq_iff_eq.mpr c6; have c6b1 : (a0_0 != a1_0) = false := bne_eq_false_iff_eq.mpr c6; clear c6; (first | rw [c6b0] | (simp only [i64_w, i32_w]; rw [c6b0]) | skip); replace H := Option.bind_eq_some_iff.mp H; obtain ⟨t386, A70, H⟩ := H; replace H : (if t386 = true then (trustquorumref02_Same.j0 k ((l0_2.length : Int) != (l1_2.length : Int)) a0_0 l0_1 l0_2 a1_0 l1_1 l1_2) else (trustquorumref02_Same.j0 k true a0_0 l0_1 l0_2 a1_0 l1_1 l1_2)) = some r := H; have A7 := am A70; clear A70
   by_cases c8 : t386 = true
   ·
    subst c8; have H1 : (trustquorumref02_Same.j0 k ((l0_2.length : Int) != (l1_2.length : Int)) a0_0 l0_1 l0_2 a1_0 l1_1 l1_2) = some r := by rw [if_pos rfl] at H; exact H
    clear H; have H := H1; clear H1; have H' := am H; clear H; have hnb9 := NB384_385.out; have hnc9 := NB385_384.out; obtain ⟨hcz10_0, hcz10_1, hcz10_2, hfz10_0, hfz10_1, hfz10_2⟩ := blkC3 BK384.out; obtain ⟨hcz11_0, hcz11_1, hcz11_2, hfz11_0, hfz11_1, hfz11_2⟩ := blkC3 BK385.out
    go_wp2_with (first | (go_at_call 67; (with_reducible refine (trustquorumref01_Same.calls k _ _ l0_1 _ _ l1_1 true _ (Kd.C_below HR0_1.out HB.out) HC0_1.out (Kd.C_below HR1_1.out HB.out) HC1_1.out A7.out).mono ?_); rintro e w' ⟨rfl, ⟨nd, rfl⟩⟩))
    go_meet
    case rel => exact ⟨_, (((l0_2.length : Int) != (l1_2.length : Int))), ar, H', ⟨by first | omega | exact Nat.le_refl _⟩, ⟨by exact BK384.out⟩, ⟨by exact BK385.out⟩, ⟨cl0⟩⟩
   ·
    replace c8 := Bool.eq_false_iff.mpr c8; subst c8; have H1 : (trustquorumref02_Same.j0 k true a0_0 l0_1 l0_2 a1_0 l1_1 l1_2) = some r := by rw [if_neg (show ¬ (false = true) by decide)] at H; exact H
    clear H; have H := H1; clear H1; have H' := am H; clear H; have hnb12 := NB384_385.out; have hnc12 := NB385_384.out; obtain ⟨hcz13_0, hcz13_1, hcz13_2, hfz13_0, hfz13_1, hfz13_2⟩ := blkC3 BK384.out; obtain ⟨hcz14_0, hcz14_1, hcz14_2, hfz14_0, hfz14_1, hfz14_2⟩ := blkC3 BK385.out
    go_wp2_with (first | (go_at_call 67; (with_reducible refine (trustquorumref01_Same.calls k _ _ l0_1 _ _ l1_1 false _ (Kd.C_below HR0_1.out HB.out) HC0_1.out (Kd.C_below HR1_1.out HB.out) HC1_1.out A7.out).mono ?_); rintro e w' ⟨rfl, ⟨nd, rfl⟩⟩))
    go_meet
    case rel => exact ⟨_, (true), ar, H', ⟨by first | omega | exact Nat.le_refl _⟩, ⟨by exact BK384.out⟩, ⟨by exact BK385.out⟩, ⟨cl0⟩⟩
  ·
   rw [if_neg c6] at H; have c6b0 : (a0_0 == a1_0) = false := beq_eq_false_iff_ne.mpr c6; have c6b1 : (a0_0 != a1_0) = true := bne_iff_ne.mpr c6; (first | rw [c6b0] | (simp only [i64_w, i32_w]; rw [c6b0]) | skip); have H' := am H; clear H; have hnb15 := NB384_385.out; have hnc15 := NB385_384.out; obtain ⟨hcz16_0, hcz16_1, hcz16_2, hfz16_0, hfz16_1, hfz16_2⟩ := blkC3 BK384.out; obtain ⟨hcz17_0, hcz17_1, hcz17_2, hfz17_0, hfz17_1, hfz17_2⟩ := blkC3 BK385.out
   go_wp2
   go_meet
   case rel => exact ⟨_, (true), ar, H', ⟨by first | omega | exact Nat.le_refl _⟩, ⟨by exact BK384.out⟩, ⟨by exact BK385.out⟩, ⟨by exact HB.out⟩⟩
 case rest =>
  clear HC3; (try clear c1); (try clear c2); (try clear p2); (try clear c6); (try clear c6b0); (try clear c6b1); (try clear p6); (try clear c8); (try clear c9); (try clear c12); (try clear c15); (try clear hcz10_0 hcz10_1 hcz10_2); (try clear hcz11_0 hcz11_1 hcz11_2); (try clear hcz13_0 hcz13_1 hcz13_2); (try clear hcz14_0 hcz14_1 hcz14_2); (try clear hcz16_0 hcz16_1 hcz16_2); (try clear hcz17_0 hcz17_1 hcz17_2); (try clear hfz10_0 hfz10_1 hfz10_2); (try clear hfz11_0 hfz11_1 hfz11_2); (try clear hfz13_0 hfz13_1 hfz13_2); (try clear hfz14_0 hfz14_1 hfz14_2); (try clear hfz16_0 hfz16_1 hfz16_2); (try clear hfz17_0 hfz17_1 hfz17_2); obtain ⟨kq, x27_2, rfl, HA, HJ2, BK384, BK385, HB⟩ := hcut
  cases kq with
  | zero => exact absurd HA.out (by simp [trustquorumref02_Same.j0])
  | succ kj2 =>
   have H := HA.out; clear HA; simp only [trustquorumref02_Same.j0] at H
   by_cases c18 : x27_2 = true
   ·
    subst c18; have H1 : (some false) = some r := by rw [if_pos rfl] at H; exact H
    clear H; have H := H1; clear H1; obtain rfl := Option.some.inj H
    go_wp2
    go_ret
    exact ⟨er, by exact HB.out⟩
   ·
    replace c18 := Bool.eq_false_iff.mpr c18; subst c18; have H1 : (trustquorumref02_Same.l0 kj2 (l0_2.length : Int) 0 a0_0 l0_1 l0_2 a1_0 l1_1 l1_2) = some r := by rw [if_neg (show ¬ (false = true) by decide)] at H; exact H
    clear H; have H := H1; clear H1; have H' := am H; clear H; have hnb19 := NB384_385.out; have hnc19 := NB385_384.out; obtain ⟨hcz20_0, hcz20_1, hcz20_2, hfz20_0, hfz20_1, hfz20_2⟩ := blkC3 BK384.out
    go_wp2
    go_loopg [31] kj2 (fun kq v31 w' => ∃ (x31_2 : Int), v31 = .int .i64 x31_2 ∧ Aside0 (trustquorumref02_Same.l0 kq (l0_2.length : Int) x31_2 a0_0 l0_1 l0_2 a1_0 l1_1 l1_2 = some r) ∧ Aside0 (kq ≤ kj2) ∧ Aside0 (w'.heap[gb384]? = some (.cells #[.int .i64 a0_0, (.slice A0_1 l0_1.length c0_1), (.slice A0_2 l0_2.length c0_2)] 48 (0, 0))) ∧ Aside0 (w'.heap[gb385]? = some (.cells #[.int .i64 a1_0, (.slice A1_1 l1_1.length c1_1), (.slice A1_2 l1_2.length c1_2)] 48 (0, 0))) ∧ Aside0 (Below w.heap.size w w'))
    case atStart => exact ⟨(0), ar, H', ⟨Nat.le_refl _⟩, ⟨by exact BK384.out⟩, ⟨by exact BK385.out⟩, ⟨by exact HB.out⟩⟩
    case round =>
     clear H'; (try clear c1); (try clear c2); (try clear p2); (try clear c6); (try clear c6b0); (try clear c6b1); (try clear p6); (try clear c8); (try clear c9); (try clear c12); (try clear c15); (try clear c18); (try clear c19); (try clear hcz10_0 hcz10_1 hcz10_2); (try clear hcz11_0 hcz11_1 hcz11_2); (try clear hcz13_0 hcz13_1 hcz13_2); (try clear hcz14_0 hcz14_1 hcz14_2); (try clear hcz16_0 hcz16_1 hcz16_2); (try clear hcz17_0 hcz17_1 hcz17_2); (try clear hcz20_0 hcz20_1 hcz20_2); (try clear hfz10_0 hfz10_1 hfz10_2); (try clear hfz11_0 hfz11_1 hfz11_2); (try clear hfz13_0 hfz13_1 hfz13_2); (try clear hfz14_0 hfz14_1 hfz14_2); (try clear hfz16_0 hfz16_1 hfz16_2); (try clear hfz17_0 hfz17_1 hfz17_2); (try clear hfz20_0 hfz20_1 hfz20_2); (try clear p2); (try clear p6); obtain ⟨x31_2, rfl, HA, HK2, BK384, BK385, HB⟩ := hrel
     cases gk with
     | zero => exact absurd HA.out (by simp [trustquorumref02_Same.l0])
     | succ k2 =>
      have H := HA.out; clear HA; simp only [trustquorumref02_Same.l0] at H
      by_cases c21 : x31_2 < (l0_2.length : Int)
      ·
       rw [if_pos c21] at H; have c21b0 : decide (x31_2 < (l0_2.length : Int)) = true := decide_eq_true c21; clear c21
       by_cases c22 : 0 ≤ x31_2
       ·
        rw [if_pos c22] at H; have c22b0 : decide (0 ≤ x31_2) = true := decide_eq_true c22; clear c22
        by_cases c23 : x31_2 < (l0_2.length : Int)
        ·
         rw [if_pos c23] at H; have c23b0 : decide (x31_2 < (l0_2.length : Int)) = true := decide_eq_true c23; clear c23
         by_cases c24 : x31_2 < (l1_2.length : Int)
         ·
          rw [if_pos c24] at H; have c24b0 : decide (x31_2 < (l1_2.length : Int)) = true := decide_eq_true c24; clear c24; replace H := Option.bind_eq_some_iff.mp H; obtain ⟨t389, A250, H⟩ := H; replace H : (if t389 = true then (trustquorumref02_Same.l0 k2 (l0_2.length : Int) (wrap64 (x31_2 + 1)) a0_0 l0_1 l0_2 a1_0 l1_1 l1_2) else (some false)) = some r := H; have A25 := am A250; clear A250
          by_cases c26 : t389 = true
          ·
           subst c26; have H1 : (trustquorumref02_Same.l0 k2 (l0_2.length : Int) (wrap64 (x31_2 + 1)) a0_0 l0_1 l0_2 a1_0 l1_1 l1_2) = some r := by rw [if_pos rfl] at H; exact H
           clear H; have H := H1; clear H1; have H' := am H; clear H
           try go_wp2
           replace BK384 := am (blk_drew BK384.out); replace BK385 := am (blk_drew BK385.out); replace HB := am (below_drew1 HB.out); have p387 : 0 ≤ (x31_2 : Int) := od; have q387 : x31_2 < (l0_2.length : Int) := od; obtain ⟨ad387, A387_1, c387_1, A387_2, c387_2, e387, hx387_0, hx387_1, hx387_2, hl387_1, hi387_1, hl387_2, hi387_2⟩ := at_T48 HR0_2.out x31_2 p387 q387; have hw387_2 := hx387_2; have hw387_1 := hx387_1; have hw387_0 := hx387_0
           cases e387
           replace hx387_0 := (HB.out.cell (World.block_lt_of_cell? w _ hx387_0)).trans hx387_0; replace hx387_1 := (HB.out.cell (World.block_lt_of_cell? w _ hx387_1)).trans hx387_1; replace hx387_2 := (HB.out.cell (World.block_lt_of_cell? w _ hx387_2)).trans hx387_2; have HR387_1 := am hi387_1; have HC387_1 := am hl387_1; clear hi387_1 hl387_1; have HR387_2 := am hi387_2; have HC387_2 := am hl387_2; clear hi387_2 hl387_2; replace p387 := eq_true p387; replace q387 := eq_true q387; have p388 : 0 ≤ (x31_2 : Int) := od; have q388 : x31_2 < (l1_2.length : Int) := od; obtain ⟨ad388, A388_1, c388_1, A388_2, c388_2, e388, hx388_0, hx388_1, hx388_2, hl388_1, hi388_1, hl388_2, hi388_2⟩ := at_T48 HR1_2.out x31_2 p388 q388; have hw388_2 := hx388_2; have hw388_1 := hx388_1; have hw388_0 := hx388_0
           cases e388
           replace hx388_0 := (HB.out.cell (World.block_lt_of_cell? w _ hx388_0)).trans hx388_0; replace hx388_1 := (HB.out.cell (World.block_lt_of_cell? w _ hx388_1)).trans hx388_1; replace hx388_2 := (HB.out.cell (World.block_lt_of_cell? w _ hx388_2)).trans hx388_2; have HR388_1 := am hi388_1; have HC388_1 := am hl388_1; clear hi388_1 hl388_1; have HR388_2 := am hi388_2; have HC388_2 := am hl388_2; clear hi388_2 hl388_2; replace p388 := eq_true p388; replace q388 := eq_true q388; refine start_ (n := 12) (S := fun w' => w'.cell? ⟨gb384, 0, none⟩ = some (.int .i64 a0_0) ∧ w'.cell? ⟨gb384, 1, none⟩ = some (.slice A0_1 l0_1.length c0_1) ∧ w'.cell? ⟨gb384, 2, none⟩ = some (.slice (some ad387) l0_2.length c0_2) ∧ w'.cell? ⟨gb385, 0, none⟩ = some (.int .i64 a1_0) ∧ w'.cell? ⟨gb385, 1, none⟩ = some (.slice A1_1 l1_1.length c1_1) ∧ w'.cell? ⟨gb385, 2, none⟩ = some (.slice (some ad388) l1_2.length c1_2) ∧ w'.cell? (ad387.add ((x31_2).toNat * 3)) = some (.int .i64 ((rd_T48 l0_2 x31_2).f0)) ∧ w'.cell? ⟨(ad387.add ((x31_2).toNat * 3)).block, (ad387.add ((x31_2).toNat * 3)).off + 1, none⟩ = some (.slice A387_1 ((rd_T48 l0_2 x31_2).f1).length c387_1) ∧ w'.cell? ⟨(ad387.add ((x31_2).toNat * 3)).block, (ad387.add ((x31_2).toNat * 3)).off + 2, none⟩ = some (.slice A387_2 ((rd_T48 l0_2 x31_2).f2).length c387_2) ∧ w'.cell? (ad388.add ((x31_2).toNat * 3)) = some (.int .i64 ((rd_T48 l1_2 x31_2).f0)) ∧ w'.cell? ⟨(ad388.add ((x31_2).toNat * 3)).block, (ad388.add ((x31_2).toNat * 3)).off + 1, none⟩ = some (.slice A388_1 ((rd_T48 l1_2 x31_2).f1).length c388_1) ∧ w'.cell? ⟨(ad388.add ((x31_2).toNat * 3)).block, (ad388.add ((x31_2).toNat * 3)).off + 2, none⟩ = some (.slice A388_2 ((rd_T48 l1_2 x31_2).f2).length c388_2)) (ds := []) #[false, false, false, false, false, false, false, false, false, false, false, false] (by kernel_rfl) rfl rfl ⟨(blk_cell BK384.out 0).trans rfl, (blk_cell BK384.out 1).trans rfl, (blk_cell BK384.out 2).trans rfl, (blk_cell BK385.out 0).trans rfl, (blk_cell BK385.out 1).trans rfl, (blk_cell BK385.out 2).trans rfl, ((HB.out.cell (World.block_lt_of_cell? w _ hw387_0)).trans hw387_0), ((HB.out.cell (World.block_lt_of_cell? w _ hw387_1)).trans hw387_1), ((HB.out.cell (World.block_lt_of_cell? w _ hw387_2)).trans hw387_2), ((HB.out.cell (World.block_lt_of_cell? w _ hw388_0)).trans hw388_0), ((HB.out.cell (World.block_lt_of_cell? w _ hw388_1)).trans hw388_1), ((HB.out.cell (World.block_lt_of_cell? w _ hw388_2)).trans hw388_2)⟩ (fun hHeld => ?_); refine with_tabW trustquorumref02_Same.tab6 trustquorumref02_Same.bits6 (fun HT_ HW_ => ?_)
           generalize wr.drew = w27 at BK384 BK385 HB HR387_1 HR387_2 HR388_1 HR388_2 hx387_0 hx387_1 hx387_2 hx388_0 hx388_1 hx388_2 hHeld ⊢; refine pq (i := 0) (N := some 34) HT_ ?_
           refine pq (i := 2) (N := some 36) HT_ ?_
           refine pq (i := 5) (N := some 39) HT_ ?_
           refine pq (i := 7) (N := some 41) HT_ ?_
           refine tq (i := 1) (N := some 35) HT_ HW_ hHeld ?_
           refine pq (i := 3) (N := some 37) HT_ ?_
           refine tq (i := 4) (N := some 38) HT_ HW_ hHeld ?_
           refine tq (i := 6) (N := some 40) HT_ HW_ hHeld ?_
           refine pq (i := 8) (N := some 42) HT_ ?_
           refine tq (i := 9) (N := some 43) HT_ HW_ hHeld ?_
           refine one_ (i := 10) (N := some 44) #[true, true, true, true, true, true, true, true, true, true, true, false] rfl rfl (one_of HT_.out (by kernel_rfl)) (by decide) (fun K hK => ?_); refine goes_ Try.func25 (by kernel_rfl) rfl #[.agg #[.int .i64 ((rd_T48 l0_2 x31_2).f0), .slice A387_1 ((rd_T48 l0_2 x31_2).f1).length c387_1, .slice A387_2 ((rd_T48 l0_2 x31_2).f2).length c387_2], .agg #[.int .i64 ((rd_T48 l1_2 x31_2).f0), .slice A388_1 ((rd_T48 l1_2 x31_2).f1).length c388_1, .slice A388_2 ((rd_T48 l1_2 x31_2).f2).length c388_2]] (by rfl) rfl rfl ax ?_
           with_reducible refine (ih k2 (by have := HJ2.out; have := HK2.out; omega) ((rd_T48 l0_2 x31_2).f0) _ _ ((rd_T48 l0_2 x31_2).f1) _ _ ((rd_T48 l0_2 x31_2).f2) ((rd_T48 l1_2 x31_2).f0) _ _ ((rd_T48 l1_2 x31_2).f1) _ _ ((rd_T48 l1_2 x31_2).f2) true _ ?side1 ?side2 ?side3 ?side4 ?side5 ?side6 ?side7 ?side8 A25.out).mono ?_
           (case side1 => exact (Kd.C_below HR387_1.out HB.out))
           (case side2 => exact HC387_1.out)
           (case side3 => exact (Kd.C_below HR387_2.out HB.out))
           (case side4 => exact HC387_2.out)
           (case side5 => exact (Kd.C_below HR388_1.out HB.out))
           (case side6 => exact HC388_1.out)
           (case side7 => exact (Kd.C_below HR388_2.out HB.out))
           (case side8 => exact HC388_2.out)
           rintro e w28 ⟨rfl, hb⟩; refine ⟨_, rfl, ?_⟩; replace BK384 := bb BK384 hb; replace BK385 := bb BK385 hb; replace HB := bs HB hb; (try clear hb); refine hK.out _ _ ⟨(blk_cell BK384.out 0).trans rfl, (blk_cell BK384.out 1).trans rfl, (blk_cell BK384.out 2).trans rfl, (blk_cell BK385.out 0).trans rfl, (blk_cell BK385.out 1).trans rfl, (blk_cell BK385.out 2).trans rfl, ((HB.out.cell (World.block_lt_of_cell? w _ hw387_0)).trans hw387_0), ((HB.out.cell (World.block_lt_of_cell? w _ hw387_1)).trans hw387_1), ((HB.out.cell (World.block_lt_of_cell? w _ hw387_2)).trans hw387_2), ((HB.out.cell (World.block_lt_of_cell? w _ hw388_0)).trans hw388_0), ((HB.out.cell (World.block_lt_of_cell? w _ hw388_1)).trans hw388_1), ((HB.out.cell (World.block_lt_of_cell? w _ hw388_2)).trans hw388_2)⟩ (fun hHeld => ?_); clear hK K; refine norm_ (a' := ?_) ?_ ?_; rotate_left
           ·
            show Act.put _ (some 44) _ = _
            exact pu
           refine pq (i := 11) (N := some 45) HT_ ?_
           refine done_ (done_of HT_.out (by kernel_rfl)) ?_
           try go_wp2
           go_roundg k2
           case measure => have := HJ2.out; have := HK2.out; omega
           case rel => exact ⟨(wrap64 (x31_2 + 1)), ar, H', ⟨by have := HJ2.out; have := HK2.out; omega⟩, ⟨by exact BK384.out⟩, ⟨by exact BK385.out⟩, ⟨by exact HB.out⟩⟩
          ·
           replace c26 := Bool.eq_false_iff.mpr c26; subst c26; have H1 : (some false) = some r := by rw [if_neg (show ¬ (false = true) by decide)] at H; exact H
           clear H; have H := H1; clear H1; obtain rfl := Option.some.inj H
           try go_wp2
           replace BK384 := am (blk_drew BK384.out); replace BK385 := am (blk_drew BK385.out); replace HB := am (below_drew1 HB.out); have p387 : 0 ≤ (x31_2 : Int) := od; have q387 : x31_2 < (l0_2.length : Int) := od; obtain ⟨ad387, A387_1, c387_1, A387_2, c387_2, e387, hx387_0, hx387_1, hx387_2, hl387_1, hi387_1, hl387_2, hi387_2⟩ := at_T48 HR0_2.out x31_2 p387 q387; have hw387_2 := hx387_2; have hw387_1 := hx387_1; have hw387_0 := hx387_0
           cases e387
           replace hx387_0 := (HB.out.cell (World.block_lt_of_cell? w _ hx387_0)).trans hx387_0; replace hx387_1 := (HB.out.cell (World.block_lt_of_cell? w _ hx387_1)).trans hx387_1; replace hx387_2 := (HB.out.cell (World.block_lt_of_cell? w _ hx387_2)).trans hx387_2; have HR387_1 := am hi387_1; have HC387_1 := am hl387_1; clear hi387_1 hl387_1; have HR387_2 := am hi387_2; have HC387_2 := am hl387_2; clear hi387_2 hl387_2; replace p387 := eq_true p387; replace q387 := eq_true q387; have p388 : 0 ≤ (x31_2 : Int) := od; have q388 : x31_2 < (l1_2.length : Int) := od; obtain ⟨ad388, A388_1, c388_1, A388_2, c388_2, e388, hx388_0, hx388_1, hx388_2, hl388_1, hi388_1, hl388_2, hi388_2⟩ := at_T48 HR1_2.out x31_2 p388 q388; have hw388_2 := hx388_2; have hw388_1 := hx388_1; have hw388_0 := hx388_0
           cases e388
           replace hx388_0 := (HB.out.cell (World.block_lt_of_cell? w _ hx388_0)).trans hx388_0; replace hx388_1 := (HB.out.cell (World.block_lt_of_cell? w _ hx388_1)).trans hx388_1; replace hx388_2 := (HB.out.cell (World.block_lt_of_cell? w _ hx388_2)).trans hx388_2; have HR388_1 := am hi388_1; have HC388_1 := am hl388_1; clear hi388_1 hl388_1; have HR388_2 := am hi388_2; have HC388_2 := am hl388_2; clear hi388_2 hl388_2; replace p388 := eq_true p388; replace q388 := eq_true q388; refine start_ (n := 12) (S := fun w' => w'.cell? ⟨gb384, 0, none⟩ = some (.int .i64 a0_0) ∧ w'.cell? ⟨gb384, 1, none⟩ = some (.slice A0_1 l0_1.length c0_1) ∧ w'.cell? ⟨gb384, 2, none⟩ = some (.slice (some ad387) l0_2.length c0_2) ∧ w'.cell? ⟨gb385, 0, none⟩ = some (.int .i64 a1_0) ∧ w'.cell? ⟨gb385, 1, none⟩ = some (.slice A1_1 l1_1.length c1_1) ∧ w'.cell? ⟨gb385, 2, none⟩ = some (.slice (some ad388) l1_2.length c1_2) ∧ w'.cell? (ad387.add ((x31_2).toNat * 3)) = some (.int .i64 ((rd_T48 l0_2 x31_2).f0)) ∧ w'.cell? ⟨(ad387.add ((x31_2).toNat * 3)).block, (ad387.add ((x31_2).toNat * 3)).off + 1, none⟩ = some (.slice A387_1 ((rd_T48 l0_2 x31_2).f1).length c387_1) ∧ w'.cell? ⟨(ad387.add ((x31_2).toNat * 3)).block, (ad387.add ((x31_2).toNat * 3)).off + 2, none⟩ = some (.slice A387_2 ((rd_T48 l0_2 x31_2).f2).length c387_2) ∧ w'.cell? (ad388.add ((x31_2).toNat * 3)) = some (.int .i64 ((rd_T48 l1_2 x31_2).f0)) ∧ w'.cell? ⟨(ad388.add ((x31_2).toNat * 3)).block, (ad388.add ((x31_2).toNat * 3)).off + 1, none⟩ = some (.slice A388_1 ((rd_T48 l1_2 x31_2).f1).length c388_1) ∧ w'.cell? ⟨(ad388.add ((x31_2).toNat * 3)).block, (ad388.add ((x31_2).toNat * 3)).off + 2, none⟩ = some (.slice A388_2 ((rd_T48 l1_2 x31_2).f2).length c388_2)) (ds := []) #[false, false, false, false, false, false, false, false, false, false, false, false] (by kernel_rfl) rfl rfl ⟨(blk_cell BK384.out 0).trans rfl, (blk_cell BK384.out 1).trans rfl, (blk_cell BK384.out 2).trans rfl, (blk_cell BK385.out 0).trans rfl, (blk_cell BK385.out 1).trans rfl, (blk_cell BK385.out 2).trans rfl, ((HB.out.cell (World.block_lt_of_cell? w _ hw387_0)).trans hw387_0), ((HB.out.cell (World.block_lt_of_cell? w _ hw387_1)).trans hw387_1), ((HB.out.cell (World.block_lt_of_cell? w _ hw387_2)).trans hw387_2), ((HB.out.cell (World.block_lt_of_cell? w _ hw388_0)).trans hw388_0), ((HB.out.cell (World.block_lt_of_cell? w _ hw388_1)).trans hw388_1), ((HB.out.cell (World.block_lt_of_cell? w _ hw388_2)).trans hw388_2)⟩ (fun hHeld => ?_); refine with_tabW trustquorumref02_Same.tab6 trustquorumref02_Same.bits6 (fun HT_ HW_ => ?_)
           generalize wr.drew = w29 at BK384 BK385 HB HR387_1 HR387_2 HR388_1 HR388_2 hx387_0 hx387_1 hx387_2 hx388_0 hx388_1 hx388_2 hHeld ⊢; refine pq (i := 0) (N := some 34) HT_ ?_
           refine pq (i := 2) (N := some 36) HT_ ?_
           refine pq (i := 5) (N := some 39) HT_ ?_
           refine pq (i := 7) (N := some 41) HT_ ?_
           refine tq (i := 1) (N := some 35) HT_ HW_ hHeld ?_
           refine pq (i := 3) (N := some 37) HT_ ?_
           refine tq (i := 4) (N := some 38) HT_ HW_ hHeld ?_
           refine tq (i := 6) (N := some 40) HT_ HW_ hHeld ?_
           refine pq (i := 8) (N := some 42) HT_ ?_
           refine tq (i := 9) (N := some 43) HT_ HW_ hHeld ?_
           refine one_ (i := 10) (N := some 44) #[true, true, true, true, true, true, true, true, true, true, true, false] rfl rfl (one_of HT_.out (by kernel_rfl)) (by decide) (fun K hK => ?_); refine goes_ Try.func25 (by kernel_rfl) rfl #[.agg #[.int .i64 ((rd_T48 l0_2 x31_2).f0), .slice A387_1 ((rd_T48 l0_2 x31_2).f1).length c387_1, .slice A387_2 ((rd_T48 l0_2 x31_2).f2).length c387_2], .agg #[.int .i64 ((rd_T48 l1_2 x31_2).f0), .slice A388_1 ((rd_T48 l1_2 x31_2).f1).length c388_1, .slice A388_2 ((rd_T48 l1_2 x31_2).f2).length c388_2]] (by rfl) rfl rfl ax ?_
           with_reducible refine (ih k2 (by have := HJ2.out; have := HK2.out; omega) ((rd_T48 l0_2 x31_2).f0) _ _ ((rd_T48 l0_2 x31_2).f1) _ _ ((rd_T48 l0_2 x31_2).f2) ((rd_T48 l1_2 x31_2).f0) _ _ ((rd_T48 l1_2 x31_2).f1) _ _ ((rd_T48 l1_2 x31_2).f2) false _ ?side1 ?side2 ?side3 ?side4 ?side5 ?side6 ?side7 ?side8 A25.out).mono ?_
           (case side1 => exact (Kd.C_below HR387_1.out HB.out))
           (case side2 => exact HC387_1.out)
           (case side3 => exact (Kd.C_below HR387_2.out HB.out))
           (case side4 => exact HC387_2.out)
           (case side5 => exact (Kd.C_below HR388_1.out HB.out))
           (case side6 => exact HC388_1.out)
           (case side7 => exact (Kd.C_below HR388_2.out HB.out))
           (case side8 => exact HC388_2.out)
           rintro e w30 ⟨rfl, hb⟩; refine ⟨_, rfl, ?_⟩; replace BK384 := bb BK384 hb; replace BK385 := bb BK385 hb; replace HB := bs HB hb; (try clear hb); refine hK.out _ _ ⟨(blk_cell BK384.out 0).trans rfl, (blk_cell BK384.out 1).trans rfl, (blk_cell BK384.out 2).trans rfl, (blk_cell BK385.out 0).trans rfl, (blk_cell BK385.out 1).trans rfl, (blk_cell BK385.out 2).trans rfl, ((HB.out.cell (World.block_lt_of_cell? w _ hw387_0)).trans hw387_0), ((HB.out.cell (World.block_lt_of_cell? w _ hw387_1)).trans hw387_1), ((HB.out.cell (World.block_lt_of_cell? w _ hw387_2)).trans hw387_2), ((HB.out.cell (World.block_lt_of_cell? w _ hw388_0)).trans hw388_0), ((HB.out.cell (World.block_lt_of_cell? w _ hw388_1)).trans hw388_1), ((HB.out.cell (World.block_lt_of_cell? w _ hw388_2)).trans hw388_2)⟩ (fun hHeld => ?_); clear hK K; refine norm_ (a' := ?_) ?_ ?_; rotate_left
           ·
            show Act.put _ (some 44) _ = _
            exact pu
           refine pq (i := 11) (N := some 45) HT_ ?_
           refine done_ (done_of HT_.out (by kernel_rfl)) ?_
           try go_wp2
           go_ret
           exact ⟨er, by exact HB.out⟩
         ·
          rw [if_neg c24] at H; exact absurd H (by simp)
        ·
         rw [if_neg c23] at H; exact absurd H (by simp)
       ·
        rw [if_neg c22] at H; exact absurd H (by simp)
      ·
       rw [if_neg c21] at H; have c21b0 : decide (x31_2 < (l0_2.length : Int)) = false := decide_eq_false c21; clear c21; obtain rfl := Option.some.inj H
       go_wp2
       go_ret
       exact ⟨er, by exact HB.out⟩
end Go.Proofs.Ytmeamdklonmahaa.QFederatedSafe
