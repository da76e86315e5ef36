/- For all numbers, rounding down and up differ by at most 1, agree where the division is exact, and what is changed forth and back is never more: the statement over numbers and lists that the row asks. No condition. -/
import Derived.Test.YtkiebhjbnnnikaaQAmountRoundsx3
import Derived.OpenShut
set_option linter.unusedSimpArgs false
set_option linter.unusedVariables false
namespace Go.Proofs.Ytkiebhjbnnnikaa.Pure
open Go.RowKit Go.Proofs.Ytkiebhjbnnnikaa.QAmountRounds Go.Proofs.YtkiebhjbnnnikaaW.PrintWords Go.Proofs.YtkiebhjbnnnikaaW.PrintLast Go.Proofs.YtkiebhjbnnnikaaW.PrintMore

theorem w64 {x : Int} (h : -9223372036854775808 ≤ x) (h' : x ≤ 9223372036854775807) : wrap64 x = x := by unfold wrap64; omega
theorem valid_eq (a : Int) : amount_Valid.f a = some (decide (0 ≤ a ∧ a ≤ 1000000000000)) := by
  unfold amount_Valid.f
  by_cases h : a ≥ 0
  · rw [if_pos h]; congr 1; rw [decide_eq_decide]; omega
  · rw [if_neg h]; congr 1; rw [eq_comm, decide_eq_false_iff_not]; omega
theorem price_eq (n d : Int) (h1 : 1 ≤ n) (h2 : n ≤ 1000000) (h3 : 1 ≤ d) (h4 : d ≤ 1000000) : amount_Price.f n d = some true := by
  unfold amount_Price.f amount_part.f
  rw [if_pos (by omega), if_pos (by omega), decide_eq_true h2, decide_eq_true h4]; rfl
/-- A list of numbers, all valid. -/
theorem checked_loop (a : Int) (l : List Int) (hl : l.length ≤ 10) (hv : ∀ x ∈ l, 0 ≤ x ∧ x ≤ 1000000000000) (r : Nat) : ∀ (s k : Nat), s + r = l.length → r < k → amount_checked.l0 k a l (l.length : Int) (s : Int) = some (a, 0) := by
  induction r with
  | zero =>
    intro s k h1 hk
    obtain ⟨k, rfl⟩ : ∃ m, k = m + 1 := ⟨k - 1, by omega⟩
    rw [amount_checked.l0, if_neg (by omega)]
  | succ r ih =>
    intro s k h1 hk
    obtain ⟨k, rfl⟩ : ∃ m, k = m + 1 := ⟨k - 1, by omega⟩
    have hs : s < l.length := by omega
    have hr : rd l (s : Int) = l[s] := by unfold rd; simp [List.getD, hs]
    have hx := hv _ (List.getElem_mem hs)
    have e1 : wrap64 ((s : Int) + 1) = ((s + 1 : Nat) : Int) := by rw [w64 (by omega) (by omega)]; omega
    rw [amount_checked.l0, if_pos (by omega), if_pos (by omega), if_pos (by omega), hr, valid_eq, e1, decide_eq_true hx]
    simp only [Option.bind_some, if_true]
    exact ih (s + 1) k (by omega) (by omega)
theorem checked_eq (a : Int) (l : List Int) (hl : l.length ≤ 5) (hv : ∀ x ∈ l, 0 ≤ x ∧ x ≤ 1000000000000) (h0 : 0 ≤ a) (h1 : a ≤ 1000000000000) {k : Nat} (hk : 10 ≤ k) : amount_checked.f k a l = some (a, 0) := by
  unfold amount_checked.f
  rw [if_pos (by omega)]
  simp only [Option.bind_some]
  refine checked_loop a (l ++ [a]) (by rw [List.length_append]; simp only [List.length_cons, List.length_nil]; omega) ?_ (l ++ [a]).length 0 k (by omega) (by rw [List.length_append]; simp only [List.length_cons, List.length_nil]; omega)
  intro x hx
  rcases List.mem_append.1 hx with h | h
  · exact hv x h
  · rw [List.mem_singleton.1 h]; exact ⟨h0, h1⟩
theorem scale_eq (x n d m : Int) (hx0 : 0 ≤ x) (hx1 : x ≤ 1000000000000) (hn0 : 1 ≤ n) (hn1 : n ≤ 1000000) (hd0 : 1 ≤ d) (hd1 : d ≤ 1000000) (hm0 : 0 ≤ m) (hm1 : m ≤ 1000000) (hr : (x * n + m) / d ≤ 1000000000000) {k : Nat} (hk : 10 ≤ k) :
    amount_scale.f k x n d m = some ((x * n + m) / d, 0) := by
  have hp0 : 0 ≤ x * n := Int.mul_nonneg hx0 (by omega)
  have hp1 : x * n ≤ 1000000000000 * 1000000 := Int.mul_le_mul hx1 hn1 (by omega) (by omega)
  have hq0 : 0 ≤ (x * n + m) / d := Int.ediv_nonneg (by omega) (by omega)
  unfold amount_scale.f
  rw [valid_eq, price_eq n d hn0 hn1 hd0 hd1, decide_eq_true ⟨hx0, hx1⟩]
  simp only [Option.bind_some, if_true]
  rw [if_neg (by omega), w64 (x := x * n) (by omega) (by omega), w64 (x := x * n + m) (by omega) (by omega), Int.tdiv_eq_ediv_of_nonneg (by omega), w64 (x := (x * n + m) / d) (by omega) (by omega)]
  rw [checked_eq _ [] (by simp) (by intro x hx; cases hx) hq0 hr hk]
  rfl
theorem down_eq (x n d : Int) (hx0 : 0 ≤ x) (hx1 : x ≤ 1000000000000) (hn0 : 1 ≤ n) (hn1 : n ≤ 1000000) (hd0 : 1 ≤ d) (hd1 : d ≤ 1000000) (hr : x * n / d ≤ 1000000000000) {k : Nat} (hk : 10 ≤ k) : amount_Down.f k x n d = some (x * n / d, 0) := by
  unfold amount_Down.f
  rw [scale_eq x n d 0 hx0 hx1 hn0 hn1 hd0 hd1 (by omega) (by omega) (by rw [Int.add_zero]; exact hr) hk, Int.add_zero]; rfl
theorem up_eq (x n d : Int) (hx0 : 0 ≤ x) (hx1 : x ≤ 1000000000000) (hn0 : 1 ≤ n) (hn1 : n ≤ 1000000) (hd0 : 1 ≤ d) (hd1 : d ≤ 1000000) (hr : (x * n + (d - 1)) / d ≤ 1000000000000) {k : Nat} (hk : 10 ≤ k) : amount_Up.f k x n d = some ((x * n + (d - 1)) / d, 0) := by
  unfold amount_Up.f
  rw [w64 (x := d - 1) (by omega) (by omega), scale_eq x n d (d - 1) hx0 hx1 hn0 hn1 hd0 hd1 (by omega) (by omega) hr hk]; rfl
/-- Division rounded up. -/
theorem ceil_eq (m d : Int) (hd : 0 < d) : (m + (d - 1)) / d = if m % d = 0 then m / d else m / d + 1 := by
  have h1 := Int.mul_ediv_add_emod m d
  have h2 := Int.emod_nonneg m (show d ≠ 0 by omega)
  have h3 := Int.emod_lt_of_pos m hd
  generalize m / d = q at h1
  generalize m % d = r at h1 h2 h3 ⊢
  by_cases h : r = 0
  · rw [if_pos h]
    exact ((Int.ediv_emod_unique (a := m + (d - 1)) (r := d - 1) (q := q) hd).2 ⟨by omega, by omega, by omega⟩).1
  · rw [if_neg h]
    refine ((Int.ediv_emod_unique (a := m + (d - 1)) (r := r - 1) (q := q + 1) hd).2 ⟨?_, by omega, by omega⟩).1
    rw [Int.mul_add]; omega
theorem sane_eq {k : Nat} (hk : 20 ≤ k) : trustquorumlaw35_sane.f k = some true := by
  obtain ⟨m, rfl⟩ : ∃ m, k = m + 20 := ⟨k - 20, by omega⟩
  have r1 : amount_Reduce.f (m + 20) 4 6 = some (2, 3) := by
    unfold amount_Reduce.f
    rw [price_eq 4 6 (by omega) (by omega) (by omega) (by omega)]
    simp only [Option.bind_some, if_true]
    have t1 : Int.tmod 4 6 = 4 := by decide
    have t2 : Int.tmod 6 4 = 2 := by decide
    have t3 : Int.tmod 4 2 = 0 := by decide
    show amount_Reduce.l0 ((m + 19) + 1) 4 6 4 6 = _
    rw [amount_Reduce.l0, if_pos (by omega), if_neg (by omega), t1]
    show amount_Reduce.l0 ((m + 18) + 1) 4 6 6 4 = _
    rw [amount_Reduce.l0, if_pos (by omega), if_neg (by omega), t2]
    show amount_Reduce.l0 ((m + 17) + 1) 4 6 4 2 = _
    rw [amount_Reduce.l0, if_pos (by omega), if_neg (by omega), t3]
    show amount_Reduce.l0 ((m + 16) + 1) 4 6 2 0 = _
    rw [amount_Reduce.l0, if_neg (by omega), if_neg (by omega)]
    decide +kernel
  unfold trustquorumlaw35_sane.f
  rw [down_eq 10 1 3 (by omega) (by omega) (by omega) (by omega) (by omega) (by omega) (by omega) (by omega), up_eq 10 1 3 (by omega) (by omega) (by omega) (by omega) (by omega) (by omega) (by omega) (by omega), r1]
  simp only [Option.bind_some]
  have c1 : amount_Compare.f 1 2 2 3 = some (-1) := by decide +kernel
  have c2 : amount_Asset.f (⟨#[]⟩ : ByteArray) 0 = some true := by decide +kernel
  have c3 : amount_Native.f (⟨#[]⟩ : ByteArray) 0 = some true := by decide +kernel
  rw [c1, c2, c3]
  decide

theorem AmountRounds : trustquorumlaw35_AmountRounds.Pure := by
  intro a0 a1 a2 h0 h1 h2
  obtain ⟨p0, p1⟩ := bounds_u16 h0
  obtain ⟨q0, q1⟩ := bounds_u16 h1
  obtain ⟨r0, r1⟩ := bounds_u16 h2
  have e1 : wrap64 ((wrap64 (a0)) * 15) = a0 * 15 := by rw [w64 (x := a0) (by omega) (by omega), w64 (by omega) (by omega)]
  have e2 : wrap64 (1 + (Int.tmod (wrap64 (a1)) 1000)) = 1 + a1 % 1000 := by rw [w64 (x := a1) (by omega) (by omega), Int.tmod_eq_emod_of_nonneg q0, w64 (by omega) (by omega)]
  have e3 : wrap64 (1 + (Int.tmod (wrap64 (a2)) 1000)) = 1 + a2 % 1000 := by rw [w64 (x := a2) (by omega) (by omega), Int.tmod_eq_emod_of_nonneg r0, w64 (by omega) (by omega)]
  have x0 : 0 ≤ a0 * 15 := by omega
  have x1 : a0 * 15 ≤ 983025 := by omega
  have n0 : 1 ≤ 1 + a1 % 1000 := by omega
  have n1 : 1 + a1 % 1000 ≤ 1000 := by omega
  have d0 : 1 ≤ 1 + a2 % 1000 := by omega
  have d1 : 1 + a2 % 1000 ≤ 1000 := by omega
  unfold trustquorumlaw35_AmountRounds.f
  simp only [e1, e2, e3]
  generalize a0 * 15 = x at x0 x1
  generalize 1 + a1 % 1000 = n at n0 n1
  generalize 1 + a2 % 1000 = d at d0 d1
  clear e1 e2 e3 h0 h1 h2 p0 p1 q0 q1 r0 r1
  have m0 : 0 ≤ x * n := Int.mul_nonneg x0 (by omega)
  have m1 : x * n ≤ 983025 * 1000 := Int.mul_le_mul x1 n1 (by omega) (by omega)
  have hu := Int.mul_ediv_add_emod (x * n) d
  have hr0 := Int.emod_nonneg (x * n) (show d ≠ 0 by omega)
  have hr1 := Int.emod_lt_of_pos (x * n) (show 0 < d by omega)
  have hc := ceil_eq (x * n) d (by omega)
  have u0 : 0 ≤ x * n / d := Int.ediv_nonneg m0 (by omega)
  have u1 : x * n / d ≤ x * n := Int.ediv_le_self _ m0
  have v1 : (x * n + (d - 1)) / d ≤ x * n / d + 1 := by rw [hc]; split <;> omega
  have v0 : x * n / d ≤ (x * n + (d - 1)) / d := by rw [hc]; split <;> omega
  refine ⟨100, ?_⟩
  rw [down_eq x n d x0 (by omega) n0 (by omega) d0 (by omega) (by omega) (by omega), up_eq x n d x0 (by omega) n0 (by omega) d0 (by omega) (by omega) (by omega)]
  simp only [Option.bind_some, if_true]
  rw [w64 (x := x * n) (by omega) (by omega), Int.tmod_eq_emod_of_nonneg m0]
  generalize hq : x * n / d = u at *
  generalize hv : (x * n + (d - 1)) / d = v at *
  generalize hrr : x * n % d = r at *
  have cm := Int.mul_comm d u
  have ud : u * d ≤ x * n := by omega
  have vd : x * n ≤ v * d := by
    by_cases h : r = 0
    · rw [if_pos h] at hc; rw [hc]; omega
    · rw [if_neg h] at hc; rw [hc, Int.add_mul]; omega
  have ud0 : 0 ≤ u * d := Int.mul_nonneg u0 (by omega)
  have vd1 : v * d ≤ 983025001 * 1000 := Int.mul_le_mul (by omega) d1 (by omega) (by omega)
  have heq : ((u == v) != (r == 0)) = false := by
    by_cases h : r = 0
    · rw [if_pos h] at hc
      have e : u = v := hc.symm
      rw [beq_iff_eq.2 e, beq_iff_eq.2 h]; rfl
    · rw [if_neg h] at hc
      have e : ¬ u = v := by omega
      rw [beq_eq_false_iff_ne.2 e, beq_eq_false_iff_ne.2 h]; rfl
  rw [if_neg (by omega), w64 (x := u + 1) (by omega) (by omega), if_neg (by omega), if_neg (by omega), heq]
  simp only [Bool.false_eq_true, if_false]
  rw [w64 (x := u * d) (by omega) (by omega), w64 (x := v * d) (by omega) (by omega), if_neg (by omega), decide_eq_false (by omega)]
  rw [trustquorumlaw35_AmountRounds.j0, if_neg (by decide)]
  have b0 : 0 ≤ u * d / n := Int.ediv_nonneg ud0 (by omega)
  have b1 : u * d / n ≤ x := Int.ediv_le_of_le_mul (by omega) ud
  have hc2 := ceil_eq (v * d) n (by omega)
  have hw := Int.mul_ediv_add_emod (v * d) n
  have hw0 := Int.emod_nonneg (v * d) (show n ≠ 0 by omega)
  have hw1 := Int.emod_lt_of_pos (v * d) (show 0 < n by omega)
  have c0 : x ≤ v * d / n := Int.le_ediv_of_mul_le (by omega) vd
  have c1 : v * d / n ≤ v * d := Int.ediv_le_self _ (by omega)
  have c2 : x ≤ (v * d + (n - 1)) / n := by rw [hc2]; split <;> omega
  have c3 : (v * d + (n - 1)) / n ≤ v * d + 1 := by rw [hc2]; split <;> omega
  rw [down_eq u d n u0 (by omega) d0 (by omega) n0 (by omega) (by omega) (by omega), up_eq v d n (by omega) (by omega) d0 (by omega) n0 (by omega) (by omega) (by omega)]
  simp only [Option.bind_some, if_true]
  rw [if_pos b1, if_pos (by omega), sane_eq (by omega)]; rfl

end Go.Proofs.Ytkiebhjbnnnikaa.Pure
