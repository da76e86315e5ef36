/- Lean functions that answer as the Go functions do which the law reaches, and proofs that the Go code comes to exactly these answers. Conditions: those that each theorem names. -/
import Derived.Test.YtphndccgadblnaaRows
import Derived.Test.YtphndccgadblnaaQLeadersAnswersx14
import Derived.Test.YtphndccgadblnaaPureLeadersAnswers
import Derived.WalkKit
import Derived.ProofKit
import Derived.OpenShut
import Derived.ShutString
import Derived.ChangeOld
import Derived.Below
import Derived.SizedLaws
import Derived.Test.YtphndccgadblnaaWSized
import Derived.Test.YtphndccgadblnaaLift
namespace Go.Proofs.Ytphndccgadblnaa.leadersAnswers
open Go.ChangeShapes Go.WideShapes Go.ChangeAt Go.RowKit
open Go.ChangeMaps (open_string shut_string)
set_option linter.unusedVariables false
theorem own : ownKnob Try.prog.godebug = none := by kernel_rfl
theorem laidOut : laidOutB Try.prog = true := by kernel_rfl
def IsRow (k : IntKind) (w : World) (a : Option Addr) (len cap : Nat) (zs : List Int) : Prop :=
  (a = none ∧ len = 0 ∧ cap = 0 ∧ zs = []) ∨
  ∃ x, a = some x ∧ len ≤ cap ∧ cap ≤ maxLen ∧ zs.length = cap ∧ (∀ i, i < zs.length → w.cell? (x.add i) = some (.int k (zs.getD i 0))) ∧ ∀ n ∈ zs, (Lit.int k n).wf = true
open Go.Proofs.YtphndccgadblnaaW.PrintLift
theorem opens_T27 (m : Nat) : OpensTo m Try.prog Go.Proofs.Ytphndccgadblnaa.QLeadersAnswers.k27 27 Go.Proofs.Ytphndccgadblnaa.QLeadersAnswers.g27 :=
  opens_fix Go.Proofs.Ytphndccgadblnaa.QLeadersAnswers.g27n (fun m d hsz hd => opens_struct (fun x : Go.Proofs.Ytphndccgadblnaa.QLeadersAnswers.S27 => (x.f0, x.f1, x.f2)) (fun p => ⟨p.1, p.2.1, p.2.2⟩) (fun _ => rfl) Try.underlying27 (by first | kernel_rfl | (show _ = (Kd.iso _ _).sz; rfl)) (opensAt_cons (by kernel_rfl) ((fun _ => opens_int Try.underlying3) m) (opensAt_cons (by kernel_rfl) ((opens_sliceB 3 8 Try.underlying22 (by kernel_rfl) (by kernel_rfl) (fun _ => opens_int Try.underlying3)) m) (opensAt_one (by kernel_rfl) ((opens_sliceB1 27 56 Try.underlying25 (by rw [hsz]; kernel_rfl) (by kernel_rfl) hd).le (Nat.le_succ _)))))) m
theorem opens_T71 (m : Nat) : OpensTo m Try.prog Go.Proofs.Ytphndccgadblnaa.QLeadersAnswers.k71 71 Go.Proofs.Ytphndccgadblnaa.QLeadersAnswers.g71 := by
  cases m with
  | zero => exact OpensTo.zero
  | succ m => exact opens_struct (fun x : Go.Proofs.Ytphndccgadblnaa.QLeadersAnswers.S71 => (x.f0, x.f1)) (fun p => ⟨p.1, p.2⟩) (fun _ => rfl) Try.underlying71 (by kernel_rfl) (opensAt_cons (by kernel_rfl) ((fun _ => opens_bool Try.underlying4) m) (opensAt_one (by kernel_rfl) (opens_T27 m)))
theorem opens_T47 (m : Nat) : OpensTo m Try.prog Go.Proofs.Ytphndccgadblnaa.QLeadersAnswers.k47 47 Go.Proofs.Ytphndccgadblnaa.QLeadersAnswers.g47 := by
  cases m with
  | zero => exact OpensTo.zero
  | succ m => exact opens_struct (fun x : Go.Proofs.Ytphndccgadblnaa.QLeadersAnswers.S47 => x.f0) (fun p => ⟨p⟩) (fun _ => rfl) Try.underlying47 (by kernel_rfl) (opensAt_one (by kernel_rfl) ((opens_sliceB 71 64 Try.underlying45 (by kernel_rfl) (by kernel_rfl) opens_T71) m))
set_option maxRecDepth 100000 in
theorem lifted (os : Os) (started : os.Started) (H : Type) (enc : TypeId × Value → H) :
    ReturnsInHanded {} Try.checked os 7 .any (Rows.leadersAnswersSpec.pre6 enc Try.prog Try.f7 Rows.leadersAnswersRow.domain false) (Rows.leadersAnswersSpec.post enc Try.prog Try.f7 false true false false) := by
  refine returnsInHanded_of_change_sized (C := Try.checked) own started (by kernel_rfl) Try.func7
    (ChangeSpec.witness6 (enc := enc) (C := Try.checked) false ⟨#[], #[.slice none 0 0, .agg #[.int .i64 0, .slice none 0 0, .slice none 0 0], .agg #[.slice none 0 0], .int .i64 0, .int .i64 0, .int .i64 0, .int .i64 0, .int .i64 0], []⟩ 8 (by kernel_rfl) (by kernel_rfl) (by kernel_rfl) (by kernel_rfl)) ?_
  intro W base args ds gs before hval0 hW hcnd hsz0 _
  have hsz : (DataW.weightsEach Try.prog (Try.f7.params.toList ++ Rows.leadersAnswersSpec.plain.varTypes Try.prog) (ds ++ gs)).all (· ≤ reachBytes) = true := hsz0
  have hval : ∀ (j : Nat) t v, Try.f7.params[j]? = some t → args[j]? = some v → Value.okWide Try.prog W .any base t v := hval0
  have hW' := hW
  obtain ⟨p, q, hA0, hV, rfl, hfz, hnd⟩ := hW
  have hA : DataW.TrodAll enc Try.prog W 0 (fun _ => true) true Try.f7.params.toList args.toList ds p := hA0
  rw [Try.params7] at hA hval hsz
  obtain ⟨v0, vs0, d0, ds0, p0, q0, hargs, rfl, rfl, h0, r0⟩ := trodAll_cons hA
  obtain ⟨v1, vs1, d1, ds1, p1, q1, rfl, rfl, rfl, h1, r1⟩ := trodAll_cons r0
  obtain ⟨v2, vs2, d2, ds2, p2, q2, rfl, rfl, rfl, h2, r2⟩ := trodAll_cons r1
  obtain ⟨v3, vs3, d3, ds3, p3, q3, rfl, rfl, rfl, h3, r3⟩ := trodAll_cons r2
  obtain ⟨v4, vs4, d4, ds4, p4, q4, rfl, rfl, rfl, h4, r4⟩ := trodAll_cons r3
  obtain ⟨v5, vs5, d5, ds5, p5, q5, rfl, rfl, rfl, h5, r5⟩ := trodAll_cons r4
  obtain ⟨v6, vs6, d6, ds6, p6, q6, rfl, rfl, rfl, h6, r6⟩ := trodAll_cons r5
  obtain ⟨v7, vs7, d7, ds7, p7, q7, rfl, rfl, rfl, h7, r7⟩ := trodAll_cons r6
  obtain ⟨rfl, rfl, rfl⟩ := trodAll_nil r7
  obtain rfl : args = #[v0, v1, v2, v3, v4, v5, v6, v7] := by cases args; simp_all
  obtain ⟨rfl, rfl⟩ := trodVars_none hV
  obtain ⟨a0, len0, cap0, rfl⟩ := okWide_slice Try.underlying22 (hval 0 22 v0 rfl rfl)
  have k0 := h0
  have lt0 : ∀ x ∈ p0, x.block < W.heap.size := by obtain ⟨m, hm⟩ := k0; exact DataW.trod_lt m _ _ _ hm
  obtain ⟨z0, w0⟩ : ∃ zs, IsRow .i64 W a0 len0 cap0 zs := by
    obtain ⟨fuel, hf⟩ := h0
    rcases open_ints Try.underlying22 Try.underlying3 (by kernel_rfl) hf with ⟨hcs, _⟩ | ⟨x, l, c, zs, hcs, _, hl, hm, hz, _, hcell, hwz⟩
    · simp [Value.cells] at hcs
      obtain ⟨rfl, rfl, rfl⟩ := hcs
      exact ⟨[], .inl ⟨rfl, rfl, rfl, rfl⟩⟩
    · simp [Value.cells] at hcs
      obtain ⟨rfl, rfl, rfl⟩ := hcs
      exact ⟨zs, .inr ⟨_, rfl, hl, hm, by simpa using hz, hcell, hwz⟩⟩
  have y0 : len0 * 8 ≤ 140737488351232 := Go.Proofs.YtphndccgadblnaaW.PrintWords.sized_ints hsz (j := 0) (t := 22) rfl rfl Try.underlying22 Try.underlying3 (by kernel_rfl) (by kernel_rfl) h0
  obtain ⟨cs1, rfl, _⟩ := okWide_struct Try.underlying27 (hval 1 27 v1 rfl rfl)
  have k1 := h1
  have lt1 : ∀ x ∈ p1, x.block < W.heap.size := by obtain ⟨m, hm⟩ := k1; exact DataW.trod_lt m _ _ _ hm
  obtain ⟨x1, w1, o1⟩ := opens_arg opens_T27 h1 (fun n_ hn_ => by have h_ := List.all_eq_true.1 hsz _ (DataW.weights_mem_each (j := 1) rfl rfl n_ hn_); simpa using h_)
  obtain ⟨A1_1, c1_1, A1_2, c1_2, hcs1, hc1_1, hr1_1, hc1_2, hr1_2⟩ := Go.Proofs.Ytphndccgadblnaa.QLeadersAnswers.k27_open o1
  obtain rfl : cs1 = #[.int .i64 x1.f0, .slice A1_1 x1.f1.length c1_1, .slice A1_2 x1.f2.length c1_2] := Array.toList_inj.1 hcs1
  obtain ⟨cs2, rfl, _⟩ := okWide_struct Try.underlying47 (hval 2 47 v2 rfl rfl)
  have k2 := h2
  have lt2 : ∀ x ∈ p2, x.block < W.heap.size := by obtain ⟨m, hm⟩ := k2; exact DataW.trod_lt m _ _ _ hm
  obtain ⟨x2, w2, o2⟩ := opens_arg opens_T47 h2 (fun n_ hn_ => by have h_ := List.all_eq_true.1 hsz _ (DataW.weights_mem_each (j := 2) rfl rfl n_ hn_); simpa using h_)
  obtain ⟨A2_0, c2_0, hcs2, hc2_0, hr2_0⟩ := Go.Proofs.Ytphndccgadblnaa.QLeadersAnswers.k47_open o2
  obtain rfl : cs2 = #[.slice A2_0 x2.f0.length c2_0] := Array.toList_inj.1 hcs2
  obtain ⟨a3, rfl, rfl, rfl, w3⟩ := open_int Try.underlying3 (hval 3 3 v3 rfl rfl) h3
  obtain ⟨a4, rfl, rfl, rfl, w4⟩ := open_int Try.underlying3 (hval 4 3 v4 rfl rfl) h4
  obtain ⟨a5, rfl, rfl, rfl, w5⟩ := open_int Try.underlying3 (hval 5 3 v5 rfl rfl) h5
  obtain ⟨a6, rfl, rfl, rfl, w6⟩ := open_int Try.underlying3 (hval 6 3 v6 rfl rfl) h6
  obtain ⟨a7, rfl, rfl, rfl, w7⟩ := open_int Try.underlying3 (hval 7 3 v7 rfl rfl) h7
  clear hA0 hval0 hsz0 hsz
  refine (QLeadersAnswers.trustquorumlaw21_LeadersAnswers.walk Pure.LeadersAnswers a0 len0 cap0 z0 x1.f0 _ _ x1.f1 _ _ x1.f2 _ _ x2.f0 a3 a4 a5 a6 a7 W w0 y0 hr1_1 hc1_1 hr1_2 hc1_2 (by first | exact w1 | (cases x1; exact w1)) hr2_0 hc2_0 (by first | exact w2 | (cases x2; exact w2)) w3 w4 w5 w6 w7).mono fun e W' ⟨he, bel⟩ => ?_
  subst he
  exact ⟨_, rfl, _, _, _, [], _, [], hW', trodAll_mk1 (shut_bool Try.underlying4 _), (trodAll_cons_mk (Below.trod laidOut (by kernel_rfl) (of_decide_eq_true (by kernel_rfl)) k0 bel lt0) (trodAll_cons_mk (Below.trod laidOut (by kernel_rfl) (of_decide_eq_true (by kernel_rfl)) k1 bel lt1) (trodAll_cons_mk (Below.trod laidOut (by kernel_rfl) (of_decide_eq_true (by kernel_rfl)) k2 bel lt2) (trodAll_cons_mk (shut_int Try.underlying3 w3) (trodAll_cons_mk (shut_int Try.underlying3 w4) (trodAll_cons_mk (shut_int Try.underlying3 w5) (trodAll_cons_mk (shut_int Try.underlying3 w6) (trodAll_cons_mk (shut_int Try.underlying3 w7) trodAll_mk0)))))))), rfl, bel.frame _, fun h => by cases h⟩
theorem over : Rows.leadersAnswersRow.holds Try.pinned (OpenSpec.ofChange Rows.leadersAnswersSpec) :=
  OpenClaim.holds_of_wide 7 Try.f7 rfl rfl rfl rfl rfl rfl rfl ⟨rfl, rfl, rfl, rfl, rfl⟩ rfl rfl rfl rfl rfl (by kernel_rfl) Try.func7 (by kernel_rfl)
    (of_decide_eq_true (by kernel_rfl)) (by unfold Func.isWrapper; first | (rw [if_pos (by decide +kernel)]; kernel_rfl) | (rw [if_neg (by decide +kernel)]; exact ⟨rfl, rfl⟩))
    (fun os started H enc _ => lifted os started H enc)
theorem proved : Rows.LeadersAnswersSaid := over
#print axioms proved
end Go.Proofs.Ytphndccgadblnaa.leadersAnswers
namespace Go.Proofs.Ytphndccgadblnaa
/-- The row, under a short name, for the claim. -/
theorem leadersAnswers_holds : Rows.LeadersAnswersSaid := leadersAnswers.proved
end Go.Proofs.Ytphndccgadblnaa
