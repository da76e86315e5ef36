/- For all numbers, paying in two parts never costs less than at once and at most one unit more, and a greater amount never costs less: the statement over numbers and lists that the row asks. No condition. -/
import Derived.Test.YtkiebhjbnnnikaaQAmountPartsx3
import Derived.OpenShut
set_option linter.unusedSimpArgs false
set_option linter.unusedVariables false
namespace Go.Proofs.Ytkiebhjbnnnikaa.Pure
open Go.RowKit Go.Proofs.Ytkiebhjbnnnikaa.QAmountParts Go.Proofs.YtkiebhjbnnnikaaW.PrintWords Go.Proofs.YtkiebhjbnnnikaaW.PrintLast Go.Proofs.YtkiebhjbnnnikaaW.PrintMore

theorem w64 {x : Int} (h : -9223372036854775808 ≤ x) (h' : x ≤ 9223372036854775807) : wrap64 x = x := by unfold wrap64; omega
theorem valid_eq (a : Int) : amount_Valid.f a = some (decide (0 ≤ a ∧ a ≤ 1000000000000)) := by
  unfold amount_Valid.f
  by_cases h : a ≥ 0
  · rw [if_pos h]; congr 1; rw [decide_eq_decide]; omega
  · rw [if_neg h]; congr 1; rw [eq_comm, decide_eq_false_iff_not]; omega
theorem price_eq (n d : Int) (h1 : 1 ≤ n) (h2 : n ≤ 1000000) (h3 : 1 ≤ d) (h4 : d ≤ 1000000) : amount_Price.f n d = some true := by
  unfold amount_Price.f amount_part.f
  rw [if_pos (by omega), if_pos (by omega), decide_eq_true h2, decide_eq_true h4]; rfl
/-- A list of numbers, all valid. -/
theorem checked_loop (a : Int) (l : List Int) (hl : l.length ≤ 10) (hv : ∀ x ∈ l, 0 ≤ x ∧ x ≤ 1000000000000) (r : Nat) : ∀ (s k : Nat), s + r = l.length → r < k → amount_checked.l0 k a l (l.length : Int) (s : Int) = some (a, 0) := by
  induction r with
  | zero =>
    intro s k h1 hk
    obtain ⟨k, rfl⟩ : ∃ m, k = m + 1 := ⟨k - 1, by omega⟩
    rw [amount_checked.l0, if_neg (by omega)]
  | succ r ih =>
    intro s k h1 hk
    obtain ⟨k, rfl⟩ : ∃ m, k = m + 1 := ⟨k - 1, by omega⟩
    have hs : s < l.length := by omega
    have hr : rd l (s : Int) = l[s] := by unfold rd; simp [List.getD, hs]
    have hx := hv _ (List.getElem_mem hs)
    have e1 : wrap64 ((s : Int) + 1) = ((s + 1 : Nat) : Int) := by rw [w64 (by omega) (by omega)]; omega
    rw [amount_checked.l0, if_pos (by omega), if_pos (by omega), if_pos (by omega), hr, valid_eq, e1, decide_eq_true hx]
    simp only [Option.bind_some, if_true]
    exact ih (s + 1) k (by omega) (by omega)
theorem checked_eq (a : Int) (l : List Int) (hl : l.length ≤ 5) (hv : ∀ x ∈ l, 0 ≤ x ∧ x ≤ 1000000000000) (h0 : 0 ≤ a) (h1 : a ≤ 1000000000000) {k : Nat} (hk : 10 ≤ k) : amount_checked.f k a l = some (a, 0) := by
  unfold amount_checked.f
  rw [if_pos (by omega)]
  simp only [Option.bind_some]
  refine checked_loop a (l ++ [a]) (by rw [List.length_append]; simp only [List.length_cons, List.length_nil]; omega) ?_ (l ++ [a]).length 0 k (by omega) (by rw [List.length_append]; simp only [List.length_cons, List.length_nil]; omega)
  intro x hx
  rcases List.mem_append.1 hx with h | h
  · exact hv x h
  · rw [List.mem_singleton.1 h]; exact ⟨h0, h1⟩
theorem scale_eq (x n d m : Int) (hx0 : 0 ≤ x) (hx1 : x ≤ 1000000000000) (hn0 : 1 ≤ n) (hn1 : n ≤ 1000000) (hd0 : 1 ≤ d) (hd1 : d ≤ 1000000) (hm0 : 0 ≤ m) (hm1 : m ≤ 1000000) (hr : (x * n + m) / d ≤ 1000000000000) {k : Nat} (hk : 10 ≤ k) :
    amount_scale.f k x n d m = some ((x * n + m) / d, 0) := by
  have hp0 : 0 ≤ x * n := Int.mul_nonneg hx0 (by omega)
  have hp1 : x * n ≤ 1000000000000 * 1000000 := Int.mul_le_mul hx1 hn1 (by omega) (by omega)
  have hq0 : 0 ≤ (x * n + m) / d := Int.ediv_nonneg (by omega) (by omega)
  unfold amount_scale.f
  rw [valid_eq, price_eq n d hn0 hn1 hd0 hd1, decide_eq_true ⟨hx0, hx1⟩]
  simp only [Option.bind_some, if_true]
  rw [if_neg (by omega), w64 (x := x * n) (by omega) (by omega), w64 (x := x * n + m) (by omega) (by omega), Int.tdiv_eq_ediv_of_nonneg (by omega), w64 (x := (x * n + m) / d) (by omega) (by omega)]
  rw [checked_eq _ [] (by simp) (by intro x hx; cases hx) hq0 hr hk]
  rfl
theorem down_eq (x n d : Int) (hx0 : 0 ≤ x) (hx1 : x ≤ 1000000000000) (hn0 : 1 ≤ n) (hn1 : n ≤ 1000000) (hd0 : 1 ≤ d) (hd1 : d ≤ 1000000) (hr : x * n / d ≤ 1000000000000) {k : Nat} (hk : 10 ≤ k) : amount_Down.f k x n d = some (x * n / d, 0) := by
  unfold amount_Down.f
  rw [scale_eq x n d 0 hx0 hx1 hn0 hn1 hd0 hd1 (by omega) (by omega) (by rw [Int.add_zero]; exact hr) hk, Int.add_zero]; rfl
theorem up_eq (x n d : Int) (hx0 : 0 ≤ x) (hx1 : x ≤ 1000000000000) (hn0 : 1 ≤ n) (hn1 : n ≤ 1000000) (hd0 : 1 ≤ d) (hd1 : d ≤ 1000000) (hr : (x * n + (d - 1)) / d ≤ 1000000000000) {k : Nat} (hk : 10 ≤ k) : amount_Up.f k x n d = some ((x * n + (d - 1)) / d, 0) := by
  unfold amount_Up.f
  rw [w64 (x := d - 1) (by omega) (by omega), scale_eq x n d (d - 1) hx0 hx1 hn0 hn1 hd0 hd1 (by omega) (by omega) hr hk]; rfl
/-- Division rounded up. -/
theorem ceil_eq (m d : Int) (hd : 0 < d) : (m + (d - 1)) / d = if m % d = 0 then m / d else m / d + 1 := by
  have h1 := Int.mul_ediv_add_emod m d
  have h2 := Int.emod_nonneg m (show d ≠ 0 by omega)
  have h3 := Int.emod_lt_of_pos m hd
  generalize m / d = q at h1
  generalize m % d = r at h1 h2 h3 ⊢
  by_cases h : r = 0
  · rw [if_pos h]
    exact ((Int.ediv_emod_unique (a := m + (d - 1)) (r := d - 1) (q := q) hd).2 ⟨by omega, by omega, by omega⟩).1
  · rw [if_neg h]
    refine ((Int.ediv_emod_unique (a := m + (d - 1)) (r := r - 1) (q := q + 1) hd).2 ⟨?_, by omega, by omega⟩).1
    rw [Int.mul_add]; omega
theorem sane_eq {k : Nat} (hk : 20 ≤ k) : trustquorumlaw35_sane.f k = some true := by
  obtain ⟨m, rfl⟩ : ∃ m, k = m + 20 := ⟨k - 20, by omega⟩
  have r1 : amount_Reduce.f (m + 20) 4 6 = some (2, 3) := by
    unfold amount_Reduce.f
    rw [price_eq 4 6 (by omega) (by omega) (by omega) (by omega)]
    simp only [Option.bind_some, if_true]
    have t1 : Int.tmod 4 6 = 4 := by decide
    have t2 : Int.tmod 6 4 = 2 := by decide
    have t3 : Int.tmod 4 2 = 0 := by decide
    show amount_Reduce.l0 ((m + 19) + 1) 4 6 4 6 = _
    rw [amount_Reduce.l0, if_pos (by omega), if_neg (by omega), t1]
    show amount_Reduce.l0 ((m + 18) + 1) 4 6 6 4 = _
    rw [amount_Reduce.l0, if_pos (by omega), if_neg (by omega), t2]
    show amount_Reduce.l0 ((m + 17) + 1) 4 6 4 2 = _
    rw [amount_Reduce.l0, if_pos (by omega), if_neg (by omega), t3]
    show amount_Reduce.l0 ((m + 16) + 1) 4 6 2 0 = _
    rw [amount_Reduce.l0, if_neg (by omega), if_neg (by omega)]
    decide +kernel
  unfold trustquorumlaw35_sane.f
  rw [down_eq 10 1 3 (by omega) (by omega) (by omega) (by omega) (by omega) (by omega) (by omega) (by omega), up_eq 10 1 3 (by omega) (by omega) (by omega) (by omega) (by omega) (by omega) (by omega) (by omega), r1]
  simp only [Option.bind_some]
  have c1 : amount_Compare.f 1 2 2 3 = some (-1) := by decide +kernel
  have c2 : amount_Asset.f (⟨#[]⟩ : ByteArray) 0 = some true := by decide +kernel
  have c3 : amount_Native.f (⟨#[]⟩ : ByteArray) 0 = some true := by decide +kernel
  rw [c1, c2, c3]
  decide

theorem AmountParts : trustquorumlaw35_AmountParts.Pure := by
  intro a0 a1 a2 a3 h0 h1 h2 h3
  obtain ⟨p0, p1⟩ := bounds_u16 h0
  obtain ⟨q0, q1⟩ := bounds_u16 h1
  obtain ⟨r0, r1⟩ := bounds_u16 h2
  obtain ⟨s0, s1⟩ := bounds_u16 h3
  have e2 : wrap64 (1 + (Int.tmod (wrap64 (a2)) 500)) = 1 + a2 % 500 := by rw [w64 (x := a2) (by omega) (by omega), Int.tmod_eq_emod_of_nonneg r0, w64 (by omega) (by omega)]
  have e3 : wrap64 (1 + (Int.tmod (wrap64 (a3)) 500)) = 1 + a3 % 500 := by rw [w64 (x := a3) (by omega) (by omega), Int.tmod_eq_emod_of_nonneg s0, w64 (by omega) (by omega)]
  have n0 : 1 ≤ 1 + a2 % 500 := by omega
  have n1 : 1 + a2 % 500 ≤ 500 := by omega
  have d0 : 1 ≤ 1 + a3 % 500 := by omega
  have d1 : 1 + a3 % 500 ≤ 500 := by omega
  unfold trustquorumlaw35_AmountParts.f
  simp only [e2, e3, w64 (x := a0) (by omega) (by omega), w64 (x := a1) (by omega) (by omega), w64 (x := a0 + a1) (by omega) (by omega)]
  generalize 1 + a2 % 500 = n at n0 n1
  generalize 1 + a3 % 500 = d at d0 d1
  clear e2 e3 h0 h1 h2 h3 r0 r1 s0 s1
  have x0 : 0 ≤ a0 * n := Int.mul_nonneg p0 (by omega)
  have x1 : a0 * n ≤ 65535 * 500 := Int.mul_le_mul p1 n1 (by omega) (by omega)
  have y0 : 0 ≤ a1 * n := Int.mul_nonneg q0 (by omega)
  have y1 : a1 * n ≤ 65535 * 500 := Int.mul_le_mul q1 n1 (by omega) (by omega)
  have zz : (a0 + a1) * n = a0 * n + a1 * n := Int.add_mul ..
  have big : ∀ z : Int, 0 ≤ z → z ≤ 100000000 → 0 ≤ z / d ∧ z / d ≤ 1000000000000 := by
    intro z hz hz'
    have := Int.ediv_le_self d hz
    exact ⟨Int.ediv_nonneg hz (by omega), by omega⟩
  have bA := big (a0 * n + (d - 1)) (by omega) (by omega)
  have bB := big (a1 * n + (d - 1)) (by omega) (by omega)
  have bC := big ((a0 + a1) * n + (d - 1)) (by omega) (by omega)
  have bD := big (a0 * n) (by omega) (by omega)
  have bE := big ((a0 + a1) * n) (by omega) (by omega)
  refine ⟨100, ?_⟩
  rw [up_eq a0 n d p0 (by omega) n0 (by omega) d0 (by omega) bA.2 (by omega), up_eq a1 n d q0 (by omega) n0 (by omega) d0 (by omega) bB.2 (by omega), up_eq (a0 + a1) n d (by omega) (by omega) n0 (by omega) d0 (by omega) bC.2 (by omega), down_eq a0 n d p0 (by omega) n0 (by omega) d0 (by omega) bD.2 (by omega), down_eq (a0 + a1) n d (by omega) (by omega) n0 (by omega) d0 (by omega) bE.2 (by omega)]
  simp only [Option.bind_some, if_true]
  have mCA : (a0 * n + (d - 1)) / d ≤ ((a0 + a1) * n + (d - 1)) / d := Int.ediv_le_ediv (by omega) (by omega)
  have mED : a0 * n / d ≤ (a0 + a1) * n / d := Int.ediv_le_ediv (by omega) (by omega)
  have fA := Int.mul_ediv_add_emod (a0 * n + (d - 1)) d
  have fB := Int.mul_ediv_add_emod (a1 * n + (d - 1)) d
  have fC := Int.mul_ediv_add_emod ((a0 + a1) * n + (d - 1)) d
  have gA := Int.emod_nonneg (a0 * n + (d - 1)) (show d ≠ 0 by omega)
  have gB := Int.emod_nonneg (a1 * n + (d - 1)) (show d ≠ 0 by omega)
  have gC := Int.emod_nonneg ((a0 + a1) * n + (d - 1)) (show d ≠ 0 by omega)
  have iA := Int.emod_lt_of_pos (a0 * n + (d - 1)) (show 0 < d by omega)
  have iB := Int.emod_lt_of_pos (a1 * n + (d - 1)) (show 0 < d by omega)
  have iC := Int.emod_lt_of_pos ((a0 + a1) * n + (d - 1)) (show 0 < d by omega)
  generalize (a0 * n + (d - 1)) / d = A at *
  generalize (a1 * n + (d - 1)) / d = B at *
  generalize ((a0 + a1) * n + (d - 1)) / d = C at *
  generalize a0 * n / d = D at *
  generalize (a0 + a1) * n / d = E at *
  have ex : d * (A + B - C) = d * A + d * B - d * C := by rw [Int.mul_sub, Int.mul_add]
  have l1 : -1 < A + B - C := Int.lt_of_mul_lt_mul_left (a := d) (by rw [ex]; omega) (by omega)
  have l2 : A + B - C < 2 := Int.lt_of_mul_lt_mul_left (a := d) (by rw [ex]; omega) (by omega)
  rw [w64 (x := A + B) (by omega) (by omega), w64 (x := C + 1) (by omega) (by omega), if_pos (by omega), if_pos (by omega), if_pos (by omega), if_pos (by omega), sane_eq (by omega)]
  rfl

end Go.Proofs.Ytkiebhjbnnnikaa.Pure
