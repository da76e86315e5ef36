/- For every list of numbers and whatever numbers and assets whose codes are short, the functions of package amount answer as the reference does: the statement over numbers and lists that the row asks. No condition. -/
import Derived.Test.YtkiebhjbnnnikaaQAmountExactx6
import Derived.OpenShut
set_option linter.unusedSimpArgs false
set_option linter.unusedVariables false
namespace Go.Proofs.Ytkiebhjbnnnikaa.Pure
open Go.RowKit Go.Proofs.Ytkiebhjbnnnikaa.QAmountExact Go.Proofs.YtkiebhjbnnnikaaW.PrintWords Go.Proofs.YtkiebhjbnnnikaaW.PrintLast Go.Proofs.YtkiebhjbnnnikaaW.PrintMore

theorem w64 {x : Int} (h : -9223372036854775808 ≤ x) (h' : x ≤ 9223372036854775807) : wrap64 x = x := by unfold wrap64; omega
theorem valid_eq (a : Int) : amount_Valid.f a = some (decide (0 ≤ a ∧ a ≤ 1000000000000)) := by
  unfold amount_Valid.f
  by_cases h : a ≥ 0
  · rw [if_pos h]; congr 1; rw [decide_eq_decide]; omega
  · rw [if_neg h]; congr 1; rw [eq_comm, decide_eq_false_iff_not]; omega
theorem price_eq (n d : Int) (h1 : 1 ≤ n) (h2 : n ≤ 1000000) (h3 : 1 ≤ d) (h4 : d ≤ 1000000) : amount_Price.f n d = some true := by
  unfold amount_Price.f amount_part.f
  rw [if_pos (by omega), if_pos (by omega), decide_eq_true h2, decide_eq_true h4]; rfl
/-- A list of numbers, all valid. -/
theorem checked_loop (a : Int) (l : List Int) (hl : l.length ≤ 10) (hv : ∀ x ∈ l, 0 ≤ x ∧ x ≤ 1000000000000) (r : Nat) : ∀ (s k : Nat), s + r = l.length → r < k → amount_checked.l0 k a l (l.length : Int) (s : Int) = some (a, 0) := by
  induction r with
  | zero =>
    intro s k h1 hk
    obtain ⟨k, rfl⟩ : ∃ m, k = m + 1 := ⟨k - 1, by omega⟩
    rw [amount_checked.l0, if_neg (by omega)]
  | succ r ih =>
    intro s k h1 hk
    obtain ⟨k, rfl⟩ : ∃ m, k = m + 1 := ⟨k - 1, by omega⟩
    have hs : s < l.length := by omega
    have hr : rd l (s : Int) = l[s] := by unfold rd; simp [List.getD, hs]
    have hx := hv _ (List.getElem_mem hs)
    have e1 : wrap64 ((s : Int) + 1) = ((s + 1 : Nat) : Int) := by rw [w64 (by omega) (by omega)]; omega
    rw [amount_checked.l0, if_pos (by omega), if_pos (by omega), if_pos (by omega), hr, valid_eq, e1, decide_eq_true hx]
    simp only [Option.bind_some, if_true]
    exact ih (s + 1) k (by omega) (by omega)
theorem checked_eq (a : Int) (l : List Int) (hl : l.length ≤ 5) (hv : ∀ x ∈ l, 0 ≤ x ∧ x ≤ 1000000000000) (h0 : 0 ≤ a) (h1 : a ≤ 1000000000000) {k : Nat} (hk : 10 ≤ k) : amount_checked.f k a l = some (a, 0) := by
  unfold amount_checked.f
  rw [if_pos (by omega)]
  simp only [Option.bind_some]
  refine checked_loop a (l ++ [a]) (by rw [List.length_append]; simp only [List.length_cons, List.length_nil]; omega) ?_ (l ++ [a]).length 0 k (by omega) (by rw [List.length_append]; simp only [List.length_cons, List.length_nil]; omega)
  intro x hx
  rcases List.mem_append.1 hx with h | h
  · exact hv x h
  · rw [List.mem_singleton.1 h]; exact ⟨h0, h1⟩
theorem scale_eq (x n d m : Int) (hx0 : 0 ≤ x) (hx1 : x ≤ 1000000000000) (hn0 : 1 ≤ n) (hn1 : n ≤ 1000000) (hd0 : 1 ≤ d) (hd1 : d ≤ 1000000) (hm0 : 0 ≤ m) (hm1 : m ≤ 1000000) (hr : (x * n + m) / d ≤ 1000000000000) {k : Nat} (hk : 10 ≤ k) :
    amount_scale.f k x n d m = some ((x * n + m) / d, 0) := by
  have hp0 : 0 ≤ x * n := Int.mul_nonneg hx0 (by omega)
  have hp1 : x * n ≤ 1000000000000 * 1000000 := Int.mul_le_mul hx1 hn1 (by omega) (by omega)
  have hq0 : 0 ≤ (x * n + m) / d := Int.ediv_nonneg (by omega) (by omega)
  unfold amount_scale.f
  rw [valid_eq, price_eq n d hn0 hn1 hd0 hd1, decide_eq_true ⟨hx0, hx1⟩]
  simp only [Option.bind_some, if_true]
  rw [if_neg (by omega), w64 (x := x * n) (by omega) (by omega), w64 (x := x * n + m) (by omega) (by omega), Int.tdiv_eq_ediv_of_nonneg (by omega), w64 (x := (x * n + m) / d) (by omega) (by omega)]
  rw [checked_eq _ [] (by simp) (by intro x hx; cases hx) hq0 hr hk]
  rfl
theorem down_eq (x n d : Int) (hx0 : 0 ≤ x) (hx1 : x ≤ 1000000000000) (hn0 : 1 ≤ n) (hn1 : n ≤ 1000000) (hd0 : 1 ≤ d) (hd1 : d ≤ 1000000) (hr : x * n / d ≤ 1000000000000) {k : Nat} (hk : 10 ≤ k) : amount_Down.f k x n d = some (x * n / d, 0) := by
  unfold amount_Down.f
  rw [scale_eq x n d 0 hx0 hx1 hn0 hn1 hd0 hd1 (by omega) (by omega) (by rw [Int.add_zero]; exact hr) hk, Int.add_zero]; rfl
theorem up_eq (x n d : Int) (hx0 : 0 ≤ x) (hx1 : x ≤ 1000000000000) (hn0 : 1 ≤ n) (hn1 : n ≤ 1000000) (hd0 : 1 ≤ d) (hd1 : d ≤ 1000000) (hr : (x * n + (d - 1)) / d ≤ 1000000000000) {k : Nat} (hk : 10 ≤ k) : amount_Up.f k x n d = some ((x * n + (d - 1)) / d, 0) := by
  unfold amount_Up.f
  rw [w64 (x := d - 1) (by omega) (by omega), scale_eq x n d (d - 1) hx0 hx1 hn0 hn1 hd0 hd1 (by omega) (by omega) hr hk]; rfl
/-- Division rounded up. -/
theorem ceil_eq (m d : Int) (hd : 0 < d) : (m + (d - 1)) / d = if m % d = 0 then m / d else m / d + 1 := by
  have h1 := Int.mul_ediv_add_emod m d
  have h2 := Int.emod_nonneg m (show d ≠ 0 by omega)
  have h3 := Int.emod_lt_of_pos m hd
  generalize m / d = q at h1
  generalize m % d = r at h1 h2 h3 ⊢
  by_cases h : r = 0
  · rw [if_pos h]
    exact ((Int.ediv_emod_unique (a := m + (d - 1)) (r := d - 1) (q := q) hd).2 ⟨by omega, by omega, by omega⟩).1
  · rw [if_neg h]
    refine ((Int.ediv_emod_unique (a := m + (d - 1)) (r := r - 1) (q := q + 1) hd).2 ⟨?_, by omega, by omega⟩).1
    rw [Int.mul_add]; omega
theorem sane_eq {k : Nat} (hk : 20 ≤ k) : trustquorumlaw35_sane.f k = some true := by
  obtain ⟨m, rfl⟩ : ∃ m, k = m + 20 := ⟨k - 20, by omega⟩
  have r1 : amount_Reduce.f (m + 20) 4 6 = some (2, 3) := by
    unfold amount_Reduce.f
    rw [price_eq 4 6 (by omega) (by omega) (by omega) (by omega)]
    simp only [Option.bind_some, if_true]
    have t1 : Int.tmod 4 6 = 4 := by decide
    have t2 : Int.tmod 6 4 = 2 := by decide
    have t3 : Int.tmod 4 2 = 0 := by decide
    show amount_Reduce.l0 ((m + 19) + 1) 4 6 4 6 = _
    rw [amount_Reduce.l0, if_pos (by omega), if_neg (by omega), t1]
    show amount_Reduce.l0 ((m + 18) + 1) 4 6 6 4 = _
    rw [amount_Reduce.l0, if_pos (by omega), if_neg (by omega), t2]
    show amount_Reduce.l0 ((m + 17) + 1) 4 6 4 2 = _
    rw [amount_Reduce.l0, if_pos (by omega), if_neg (by omega), t3]
    show amount_Reduce.l0 ((m + 16) + 1) 4 6 2 0 = _
    rw [amount_Reduce.l0, if_neg (by omega), if_neg (by omega)]
    decide +kernel
  unfold trustquorumlaw35_sane.f
  rw [down_eq 10 1 3 (by omega) (by omega) (by omega) (by omega) (by omega) (by omega) (by omega) (by omega), up_eq 10 1 3 (by omega) (by omega) (by omega) (by omega) (by omega) (by omega) (by omega) (by omega), r1]
  simp only [Option.bind_some]
  have c1 : amount_Compare.f 1 2 2 3 = some (-1) := by decide +kernel
  have c2 : amount_Asset.f (⟨#[]⟩ : ByteArray) 0 = some true := by decide +kernel
  have c3 : amount_Native.f (⟨#[]⟩ : ByteArray) 0 = some true := by decide +kernel
  rw [c1, c2, c3]
  decide

-- the source of numbers, and the order of values (as for AmountAssets)
structure St (L : List Int) (p : Int) : Prop where
  len : L.length ≤ 800
  lo : 0 ≤ p
  hi : p ≤ 800
theorem New_eq (l : List Int) : ∃ L, trustquorumplay_New.f l = some (L, 0) ∧ St L 0 := by
  unfold trustquorumplay_New.f
  have h0 : 0 ≤ mn (l.length : Int) 800 := by unfold mn; split <;> omega
  have h1 : mn (l.length : Int) 800 ≤ l.length := by unfold mn; split <;> omega
  have h2 : mn (l.length : Int) 800 ≤ 800 := by unfold mn; split <;> omega
  rw [if_pos h0, if_pos h1]
  refine ⟨_, rfl, ⟨?_, by omega, by omega⟩⟩
  rw [List.length_take]; omega
theorem N_eq {L : List Int} {p n : Int} (h : St L p) (hn : 1 ≤ n) (hn2 : n ≤ 1000000) : ∃ r p', trustquorumplay_Src_N.f L p n = some (r, p') ∧ 0 ≤ r ∧ r < n ∧ St L p' := by
  unfold trustquorumplay_Src_N.f
  by_cases h1 : p ≥ (L.length : Int)
  · exact ⟨0, p, by rw [if_pos h1], by omega, by omega, h⟩
  · have hp : p < L.length := by omega
    have h3 := h.len
    have h4 := h.lo
    have e1 : wrap64 (p + 1) = p + 1 := w64 (by omega) (by omega)
    have e2 : wrap64 ((p + 1) - 1) = p := by unfold wrap64; omega
    rw [if_neg h1, if_neg (by omega), e1, e2, if_pos h.lo, if_pos hp, if_neg (by omega)]
    have b1 := Int.tmod_lt_of_pos (rd L p) (show 0 < n by omega)
    have b2 := Int.lt_tmod_of_pos (rd L p) (show 0 < n by omega)
    have e3 : wrap64 (Int.tmod (rd L p) n + n) = Int.tmod (rd L p) n + n := w64 (by omega) (by omega)
    rw [e3]
    refine ⟨_, _, rfl, Int.tmod_nonneg _ (by omega), Int.tmod_lt_of_pos _ (by omega), ⟨h.len, by omega, by omega⟩⟩
def cdOf : Nat → ByteArray
  | 0 => ⟨#[]⟩
  | 1 => ⟨#[85, 83, 68]⟩
  | _ => ⟨#[69, 85, 82]⟩
theorem Asset_eq {L : List Int} {p : Int} (h : St L p) : ∃ (i : Nat) (p' : Int), trustquorumplay_Src_Asset.f L p = some (cdOf i, (i : Int), p') ∧ i < 3 ∧ St L p' := by
  obtain ⟨r, p', hr, h0, h1, hs⟩ := N_eq (n := 3) h (by omega) (by omega)
  obtain ⟨i, rfl⟩ := Int.eq_ofNat_of_zero_le h0
  refine ⟨i, p', ?_, by omega, hs⟩
  unfold trustquorumplay_Src_Asset.f trustquorumplay_Usd.f trustquorumplay_Eur.f
  simp only [Option.bind_some]
  rw [hr]
  simp only [Option.bind_some, List.length_cons, List.length_nil]
  rw [if_pos h0, if_pos (by omega)]
  have : i = 0 ∨ i = 1 ∨ i = 2 := by omega
  rcases this with rfl | rfl | rfl <;> rfl
def cmi (a b : Int) : Int := if a < b then -1 else if b < a then 1 else 0
def cms (a b : ByteArray) : Int := if Op.bytesLess a.toList b.toList = true then -1 else if Op.bytesLess b.toList a.toList = true then 1 else 0
theorem cmi_eq (a b : Int) : cmp_Compare_int.f a b = some (cmi a b) := by
  unfold cmp_Compare_int.f cmp_isNaN_int.f cmi
  simp only [Option.bind_some, bne_self_eq_false, Bool.false_eq_true, if_false]
  split <;> (try rfl)
  split <;> (try rfl)
theorem cms_eq (a b : ByteArray) : cmp_Compare_string.f a b = some (cms a b) := by
  unfold cmp_Compare_string.f cmp_isNaN_string.f cms
  simp only [Option.bind_some, bne_self_eq_false, Bool.false_eq_true, if_false]
  split <;> (try rfl)
  split <;> (try rfl)
theorem or_eq (x y : Int) {k : Nat} (hk : 3 ≤ k) : cmp_Or_int.f k ([x, y] : List Int) = some (if x = 0 then y else x) := by
  obtain ⟨m, rfl⟩ : ∃ m, k = m + 3 := ⟨k - 3, by omega⟩
  have r0 : rd [x, y] 0 = x := rfl
  have r1 : rd [x, y] 1 = y := rfl
  have w1 : wrap64 (0 + 1) = 1 := by unfold wrap64; omega
  have w2 : wrap64 (1 + 1) = 2 := by unfold wrap64; omega
  have l2 : (([x, y] : List Int).length : Int) = 2 := rfl
  unfold cmp_Or_int.f
  rw [l2]
  simp only [cmp_Or_int.l0]
  rw [l2, w1, w2, r0, r1]
  simp only [show (0 : Int) < 2 from by omega, show (1 : Int) < 2 from by omega, show (0 : Int) ≤ 0 from by omega, show (0 : Int) ≤ 1 from by omega, if_true, show ¬ ((2 : Int) < 2) from by omega, if_false]
  by_cases hx : x = 0
  · rw [if_pos hx, if_pos hx]
    by_cases hy : y = 0
    · rw [if_pos hy, hy]
    · rw [if_neg hy]
  · rw [if_neg hx, if_neg hx]

def V (x : Int) : Bool := decide (0 ≤ x ∧ x ≤ 1000000000000)
def Pr (n d : Int) : Bool := decide (1 ≤ n ∧ n ≤ 1000000) && decide (1 ≤ d ∧ d ≤ 1000000)
theorem vV (a : Int) : amount_Valid.f a = some (V a) := valid_eq a
theorem rvV (a : Int) : trustquorumref35_Valid.f a = some (V a) := valid_eq a
theorem part_eq (a : Int) : amount_part.f a = some (decide (1 ≤ a ∧ a ≤ 1000000)) := by
  unfold amount_part.f
  by_cases h : a ≥ 1
  · rw [if_pos h]; congr 1; rw [decide_eq_decide]; omega
  · rw [if_neg h]; congr 1; rw [eq_comm, decide_eq_false_iff_not]; omega
theorem pP (n d : Int) : amount_Price.f n d = some (Pr n d) := by
  unfold amount_Price.f Pr
  rw [part_eq, part_eq]
  simp only [Option.bind_some]
  cases decide (1 ≤ n ∧ n ≤ 1000000) <;> rfl
theorem rpP (n d : Int) : trustquorumref35_Price.f n d = some (Pr n d) := by
  unfold trustquorumref35_Price.f Pr
  by_cases h1 : n ≥ 1
  · rw [if_pos h1]
    by_cases h2 : n ≤ 1000000
    · rw [if_pos h2, decide_eq_true (show 1 ≤ n ∧ n ≤ 1000000 from ⟨h1, h2⟩), Bool.true_and]
      by_cases h3 : d ≥ 1
      · rw [if_pos h3]; congr 1; rw [decide_eq_decide]; omega
      · rw [if_neg h3]; congr 1; rw [eq_comm, decide_eq_false_iff_not]; omega
    · rw [if_neg h2, decide_eq_false (show ¬ (1 ≤ n ∧ n ≤ 1000000) by omega), Bool.false_and]
  · rw [if_neg h1, decide_eq_false (show ¬ (1 ≤ n ∧ n ≤ 1000000) by omega), Bool.false_and]
theorem checkedG_loop (a : Int) (l : List Int) (hl : l.length ≤ 10) (r : Nat) : ∀ (s k : Nat), s + r = l.length → r < k → amount_checked.l0 k a l (l.length : Int) (s : Int) = some (if (l.drop s).all V = true then (a, 0) else (0, 65)) := by
  induction r with
  | zero =>
    intro s k h1 hk
    obtain ⟨k, rfl⟩ : ∃ m, k = m + 1 := ⟨k - 1, by omega⟩
    rw [amount_checked.l0, if_neg (by omega), List.drop_of_length_le (by omega), List.all_nil, if_pos rfl]
  | succ r ih =>
    intro s k h1 hk
    obtain ⟨k, rfl⟩ : ∃ m, k = m + 1 := ⟨k - 1, by omega⟩
    have hs : s < l.length := by omega
    have hr : rd l (s : Int) = l[s] := by unfold rd; simp [List.getD, hs]
    have e1 : wrap64 ((s : Int) + 1) = ((s + 1 : Nat) : Int) := by rw [w64 (by omega) (by omega)]; omega
    rw [amount_checked.l0, if_pos (by omega), if_pos (by omega), if_pos (by omega), hr, vV, e1, List.drop_eq_getElem_cons hs, List.all_cons]
    simp only [Option.bind_some]
    cases hv : V l[s]
    · rw [if_neg (by decide), Bool.false_and, if_neg (by decide)]
    · rw [if_pos rfl, Bool.true_and]; exact ih (s + 1) k (by omega) (by omega)
theorem checkedG (a : Int) (l : List Int) (hl : l.length ≤ 5) {k : Nat} (hk : 10 ≤ k) : amount_checked.f k a l = some (if (l.all V && V a) = true then (a, 0) else (0, 65)) := by
  unfold amount_checked.f
  rw [if_pos (by omega)]
  simp only [Option.bind_some]
  have := checkedG_loop a (l ++ [a]) (by rw [List.length_append]; simp only [List.length_cons, List.length_nil]; omega) (l ++ [a]).length 0 k (by omega) (by rw [List.length_append]; simp only [List.length_cons, List.length_nil]; omega)
  rw [List.drop_zero, List.all_append, List.all_cons, List.all_nil, Bool.and_true] at this
  exact this
theorem add_same (a b : Int) {k : Nat} (hk : 10 ≤ k) : ∃ u e, amount_Add.f k a b = some (u, e) ∧ trustquorumref35_Add.f a b = some (u, e) := by
  unfold amount_Add.f trustquorumref35_Add.f
  rw [checkedG _ _ (by simp) hk, rvV, rvV, rvV, List.all_cons, List.all_cons, List.all_nil, Bool.and_true]
  simp only [Option.bind_some]
  cases V a <;> cases V b <;> cases V (wrap64 (a + b)) <;> exact ⟨_, _, rfl, rfl⟩
theorem sub_same (a b : Int) {k : Nat} (hk : 10 ≤ k) : ∃ u e, amount_Sub.f k a b = some (u, e) ∧ trustquorumref35_Sub.f a b = some (u, e) := by
  unfold amount_Sub.f trustquorumref35_Sub.f
  rw [checkedG _ _ (by simp) hk, rvV, rvV, rvV, List.all_cons, List.all_cons, List.all_nil, Bool.and_true]
  simp only [Option.bind_some]
  cases V a <;> cases V b <;> cases V (wrap64 (a - b)) <;> exact ⟨_, _, rfl, rfl⟩
theorem V_of {a : Int} (h : V a = true) : 0 ≤ a ∧ a ≤ 1000000000000 := of_decide_eq_true h
theorem Pr_of {n d : Int} (h : Pr n d = true) : (1 ≤ n ∧ n ≤ 1000000) ∧ 1 ≤ d ∧ d ≤ 1000000 := by
  unfold Pr at h
  rw [Bool.and_eq_true] at h
  exact ⟨of_decide_eq_true h.1, of_decide_eq_true h.2⟩
theorem scaleG (a n d m : Int) {k : Nat} (hk : 10 ≤ k) : amount_scale.f k a n d m = some (if V a = true ∧ Pr n d = true ∧ V (wrap64 (Int.tdiv (wrap64 (wrap64 (a * n) + m)) d)) = true then (wrap64 (Int.tdiv (wrap64 (wrap64 (a * n) + m)) d), 0) else (0, 65)) := by
  unfold amount_scale.f
  rw [vV, pP]
  simp only [Option.bind_some]
  cases hv : V a
  · rw [if_neg (by decide), if_neg (by simp)]
  · rw [if_pos rfl]
    cases hp : Pr n d
    · rw [if_neg (by decide), if_neg (by simp)]
    · have := Pr_of hp
      rw [if_pos rfl, if_neg (by omega), checkedG _ _ (by simp) hk, List.all_nil, Bool.true_and]
      simp only [Option.bind_some]
      cases V (wrap64 (Int.tdiv (wrap64 (wrap64 (a * n) + m)) d))
      · rw [if_neg (by decide), if_neg (by simp)]
      · rw [if_pos rfl, if_pos (by simp)]
theorem wrap_idem (x : Int) : wrap64 (wrap64 x + 0) = wrap64 x := by unfold wrap64; omega
theorem down_same (a n d : Int) {k : Nat} (hk : 10 ≤ k) : ∃ u e, amount_Down.f k a n d = some (u, e) ∧ trustquorumref35_Down.f a n d = some (u, e) := by
  unfold amount_Down.f trustquorumref35_Down.f
  rw [scaleG a n d 0 hk, rvV, rpP, wrap_idem]
  simp only [Option.bind_some]
  cases hv : V a
  · rw [if_neg (by simp), if_neg (by decide)]; exact ⟨_, _, rfl, rfl⟩
  · rw [if_pos rfl]
    cases hp : Pr n d
    · rw [if_neg (by simp), if_neg (by decide)]; exact ⟨_, _, rfl, rfl⟩
    · have := Pr_of hp
      rw [if_pos rfl, if_neg (show ¬ d = 0 by omega), rvV]
      simp only [Option.bind_some]
      cases hq : V (wrap64 (Int.tdiv (wrap64 (a * n)) d))
      · rw [if_neg (by simp), if_neg (by decide)]; exact ⟨_, _, rfl, rfl⟩
      · rw [if_pos (by simp), if_pos rfl]; exact ⟨_, _, rfl, rfl⟩
theorem up_same (a n d : Int) {k : Nat} (hk : 10 ≤ k) : ∃ u e, amount_Up.f k a n d = some (u, e) ∧ trustquorumref35_Up.f a n d = some (u, e) := by
  unfold amount_Up.f trustquorumref35_Up.f
  rw [scaleG a n d _ hk, rvV, rpP]
  simp only [Option.bind_some]
  cases hv : V a
  · rw [if_neg (by simp), if_neg (by decide)]; exact ⟨_, _, rfl, rfl⟩
  · rw [if_pos rfl]
    cases hp : Pr n d
    · rw [if_neg (by simp), if_neg (by decide)]; exact ⟨_, _, rfl, rfl⟩
    · obtain ⟨hn, hd⟩ := Pr_of hp
      obtain ⟨v0, v1⟩ := V_of hv
      have hp0 : 0 ≤ a * n := Int.mul_nonneg v0 (by omega)
      have hp1 : a * n ≤ 1000000000000 * 1000000 := Int.mul_le_mul v1 hn.2 (by omega) (by omega)
      have e : wrap64 (wrap64 (wrap64 (a * n) + d) - 1) = wrap64 (wrap64 (a * n) + wrap64 (d - 1)) := by
        generalize a * n = z at hp0 hp1
        unfold wrap64; omega
      rw [if_pos rfl, if_neg (show ¬ d = 0 by omega), rvV, e]
      simp only [Option.bind_some]
      cases hq : V (wrap64 (Int.tdiv (wrap64 (wrap64 (a * n) + wrap64 (d - 1))) d))
      · rw [if_neg (by simp), if_neg (by decide)]; exact ⟨_, _, rfl, rfl⟩
      · rw [if_pos (by simp), if_pos rfl]; exact ⟨_, _, rfl, rfl⟩
theorem reduce_loop (a b : Int) (N : Nat) : ∀ (x y : Int) (k : Nat), 0 ≤ y → y ≤ N → 0 ≤ x → (0 < x ∨ 0 < y) → N + 1 ≤ k → ∃ u v, amount_Reduce.l0 k a b x y = some (u, v) ∧ trustquorumref35_Reduce.l0 k a b x y = some (u, v) := by
  induction N with
  | zero =>
    intro x y k h0 h1 h2 h3 hk
    obtain ⟨k, rfl⟩ : ∃ m, k = m + 1 := ⟨k - 1, by omega⟩
    rw [amount_Reduce.l0, trustquorumref35_Reduce.l0, if_neg (show ¬ y > 0 by omega), if_neg (show ¬ x = 0 by omega), if_pos (show y = 0 by omega)]
    exact ⟨_, _, rfl, rfl⟩
  | succ N ih =>
    intro x y k h0 h1 h2 h3 hk
    obtain ⟨k, rfl⟩ : ∃ m, k = m + 1 := ⟨k - 1, by omega⟩
    by_cases hy : y = 0
    · rw [amount_Reduce.l0, trustquorumref35_Reduce.l0, if_neg (show ¬ y > 0 by omega), if_neg (show ¬ x = 0 by omega), if_pos hy]
      exact ⟨_, _, rfl, rfl⟩
    · have b1 := Int.tmod_lt_of_pos x (show 0 < y by omega)
      have b2 := Int.tmod_nonneg y h2
      rw [amount_Reduce.l0, trustquorumref35_Reduce.l0, if_pos (show y > 0 by omega), if_neg hy, if_neg hy]
      exact ih y (Int.tmod x y) k b2 (by omega) (by omega) (.inl (by omega)) (by omega)
theorem reduce_same (a b : Int) {k : Nat} (hk : 1000001 ≤ k) : ∃ u v, amount_Reduce.f k a b = some (u, v) ∧ trustquorumref35_Reduce.f k a b = some (u, v) := by
  unfold amount_Reduce.f trustquorumref35_Reduce.f
  rw [pP, rpP]
  simp only [Option.bind_some]
  cases hp : Pr a b
  · exact ⟨0, 0, rfl, rfl⟩
  · obtain ⟨hn, hd⟩ := Pr_of hp
    rw [if_pos rfl]
    exact reduce_loop a b 1000000 a b k (by omega) (by omega) (by omega) (.inl (by omega)) hk
theorem compare_same (a b c d : Int) {k : Nat} (hk : 2 ≤ k) : ∃ u, amount_Compare.f a b c d = some u ∧ trustquorumref35_Compare.f k a b c d = some u := by
  obtain ⟨k, rfl⟩ : ∃ m, k = m + 1 := ⟨k - 1, by omega⟩
  unfold amount_Compare.f trustquorumref35_Compare.f
  rw [pP, rpP, pP, rpP]
  simp only [Option.bind_some]
  cases Pr a b
  · rw [if_neg (by decide), if_neg (by decide), trustquorumref35_Compare.j0, if_pos rfl]; exact ⟨_, rfl, rfl⟩
  · rw [if_pos rfl, if_pos rfl]
    cases Pr c d
    · rw [if_neg (by decide), trustquorumref35_Compare.j0, if_pos (by decide)]; exact ⟨_, rfl, rfl⟩
    · rw [if_pos rfl, trustquorumref35_Compare.j0, if_neg (by decide), cmi_eq]
      simp only [Option.bind_some]
      unfold cmi
      refine ⟨_, rfl, ?_⟩
      by_cases h : wrap64 (a * d) < wrap64 (c * b)
      · rw [if_pos h, if_pos h]
      · rw [if_neg h, if_neg h]
        by_cases h2 : wrap64 (c * b) < wrap64 (a * d)
        · rw [if_pos h2, if_pos h2]
        · rw [if_neg h2, if_neg h2]
theorem less_irr (x : List UInt8) : Op.bytesLess x x = false := by
  have := Go.mine_less_total x x
  rw [beq_self_eq_true, Bool.or_true, Bool.not_true] at this
  exact this.symm
theorem less_same (a : ByteArray) (i : Int) (b : ByteArray) (j : Int) {k : Nat} (hk : 5 ≤ k) : ∃ u, amount_Less.f k a i b j = some u ∧ trustquorumref35_Less.f a i b j = some u := by
  unfold amount_Less.f amount_Order.f trustquorumref35_Less.f
  rw [cms_eq, cmi_eq]
  simp only [Option.bind_some]
  rw [or_eq _ _ (by omega)]
  simp only [Option.bind_some]
  unfold cms cmi
  refine ⟨_, rfl, ?_⟩
  have ht := Go.mine_less_total a.toList b.toList
  cases h1 : Op.bytesLess a.toList b.toList
  · rw [h1, Bool.false_or] at ht
    by_cases h2 : a.toList = b.toList
    · have h3 : Op.bytesLess b.toList a.toList = false := by rw [h2, less_irr]
      simp only [h3, Bool.false_eq_true, if_false, if_pos h2, if_true]
      congr 1
      rw [decide_eq_decide]
      by_cases h4 : i < j
      · rw [if_pos h4]; omega
      · rw [if_neg h4]; split <;> omega
    · have h3 : Op.bytesLess b.toList a.toList = true := by rw [← ht, beq_eq_false_iff_ne.2 h2]; rfl
      simp only [h3, Bool.false_eq_true, if_false, if_neg h2, if_true]
      simp
  · simp only [if_true]
    simp
theorem native_same (a : ByteArray) (i : Int) : trustquorumref35_Native.f a i = amount_Native.f a i := rfl
theorem letters_loop (a : ByteArray) (i : Int) (hs : a.size ≤ 100) (r : Nat) : ∀ (s k : Nat), s + r = a.size → r < k → trustquorumref35_Asset.l0 k (s : Int) a i = some ((a.data.toList.drop s).all fun c => 65 ≤ c && c ≤ 90) := by
  have hsz : a.data.toList.length = a.size := Array.length_toList
  induction r with
  | zero =>
    intro s k h1 hk
    obtain ⟨k, rfl⟩ : ∃ m, k = m + 1 := ⟨k - 1, by omega⟩
    rw [trustquorumref35_Asset.l0, if_neg (by omega), List.drop_of_length_le (by omega)]; rfl
  | succ r ih =>
    intro s k h1 hk
    obtain ⟨k, rfl⟩ : ∃ m, k = m + 1 := ⟨k - 1, by omega⟩
    have hlt : s < a.data.toList.length := by omega
    have e1 : wrap64 ((s : Int) + 1) = ((s + 1 : Nat) : Int) := by rw [w64 (by omega) (by omega)]; omega
    have hb : bt a (s : Int) = ((a.data.toList[s]'hlt).toNat : Int) := by
      unfold bt
      rw [dif_pos (by rw [Int.toNat_natCast]; omega)]
      rfl
    rw [trustquorumref35_Asset.l0, if_pos (by omega), if_pos (by omega), hb, e1, List.drop_eq_getElem_cons hlt, List.all_cons]
    generalize hc : a.data.toList[s]'hlt = c
    have c1 : (decide (65 ≤ c)) = decide (65 ≤ c.toNat) := by rw [decide_eq_decide, UInt8.le_iff_toNat_le]; rfl
    have c2 : (decide (c ≤ 90)) = decide (c.toNat ≤ 90) := by rw [decide_eq_decide, UInt8.le_iff_toNat_le]; rfl
    rw [c1, c2]
    by_cases h2 : (c.toNat : Int) < 65
    · rw [if_pos h2, decide_eq_false (show ¬ 65 ≤ c.toNat by omega)]; rfl
    · rw [if_neg h2, decide_eq_true (show 65 ≤ c.toNat by omega)]
      by_cases h3 : (c.toNat : Int) > 90
      · rw [if_pos h3, decide_eq_false (show ¬ c.toNat ≤ 90 by omega)]; rfl
      · rw [if_neg h3, decide_eq_true (show c.toNat ≤ 90 by omega)]
        exact ih (s + 1) k (by omega) (by omega)
theorem asset_same (a : ByteArray) (i : Int) {k : Nat} (hk : 20 ≤ k) : ∃ u, amount_Asset.f a i = some u ∧ trustquorumref35_Asset.f k a i = some u := by
  obtain ⟨k, rfl⟩ : ∃ m, k = m + 1 := ⟨k - 1, by omega⟩
  refine ⟨_, rfl, ?_⟩
  unfold trustquorumref35_Asset.f trustquorumref35_Native.f
  simp only [Option.bind_some]
  cases hn : (a.toList == ([] : List UInt8) && (i == 0))
  · rw [if_neg (by decide), Bool.false_or]
    by_cases h1 : (a.size : Int) < 1
    · rw [if_pos h1, trustquorumref35_Asset.j0, if_pos rfl, decide_eq_false (show ¬ 1 ≤ a.size by omega)]
      simp
    · rw [if_neg h1]
      by_cases h2 : (a.size : Int) > 4
      · rw [if_pos h2, trustquorumref35_Asset.j0, if_pos rfl, decide_eq_false (show ¬ a.size ≤ 4 by omega)]
        simp
      · rw [if_neg h2]
        by_cases h3 : i < 1
        · rw [if_pos h3, trustquorumref35_Asset.j0, if_pos rfl, decide_eq_false (show ¬ 1 ≤ i by omega)]
          simp
        · rw [if_neg h3, trustquorumref35_Asset.j0]
          by_cases h4 : i > 1000
          · rw [decide_eq_true h4, if_pos rfl, decide_eq_false (show ¬ i ≤ 1000 by omega)]
            simp
          · have := letters_loop a i (by omega) a.size 0 k (by omega) (by omega)
            rw [decide_eq_false h4, if_neg (by decide), show (0 : Int) = ((0 : Nat) : Int) from rfl, this, decide_eq_true (show 1 ≤ a.size by omega), decide_eq_true (show a.size ≤ 4 by omega), decide_eq_true (show 1 ≤ i by omega), decide_eq_true (show i ≤ 1000 by omega), List.drop_zero]
            unfold amount_Asset.letters
            simp
  · rw [if_pos rfl, Bool.true_or]
theorem Pick_some {L : List Int} {p : Int} (h : St L p) (l : List Int) (h1 : 1 ≤ l.length) (h2 : l.length ≤ 100) : ∃ c p', trustquorumplay_Src_Pick.f L p l = some (c, p') ∧ St L p' := by
  obtain ⟨r, p', hr, r0, r1, hs⟩ := N_eq (n := (l.length : Int)) h (by omega) (by omega)
  unfold trustquorumplay_Src_Pick.f
  rw [hr]
  simp only [Option.bind_some]
  rw [if_pos r0, if_pos r1]
  exact ⟨_, _, rfl, hs⟩
theorem Odd_eq {L : List Int} {p : Int} (h : St L p) : ∃ c p', trustquorumplay_Src_Odd.f L p = some (c, p') ∧ St L p' := by
  obtain ⟨c, p', h1, hs⟩ := Pick_some h [(-1), 0, 1, 2, 9223372036854775807, (-9223372036854775808), 1000000000000, 1000000000001, 1000000, 1000001, 1000000, 1000, 1001, 1000, 1001] (by decide) (by decide)
  unfold trustquorumplay_Src_Odd.f
  rw [h1]
  exact ⟨_, _, rfl, hs⟩
theorem Range_eq {L : List Int} {p a b : Int} (h : St L p) (ha : -1000 ≤ a) (hab : a ≤ b) (hb : b ≤ 100000) : ∃ r p', trustquorumplay_Src_Range.f L p a b = some (r, p') ∧ a ≤ r ∧ r ≤ b ∧ St L p' := by
  have e1 : wrap64 (b - a) = b - a := w64 (by omega) (by omega)
  have e2 : wrap64 (b - a + 1) = b - a + 1 := w64 (by omega) (by omega)
  obtain ⟨r, p', hr, h0, h1, hs⟩ := N_eq (n := b - a + 1) h (by omega) (by omega)
  refine ⟨a + r, p', ?_, by omega, by omega, hs⟩
  unfold trustquorumplay_Src_Range.f
  rw [e1, e2, hr]
  simp only [Option.bind_some]
  rw [w64 (x := a + r) (by omega) (by omega)]
theorem OddAsset_eq {L : List Int} {p : Int} (h : St L p) : ∃ c i p', trustquorumplay_Src_OddAsset.f L p = some (c, i, p') ∧ St L p' := by
  obtain ⟨r, p', hr, h0, h1, hs⟩ := N_eq (n := 6) h (by omega) (by omega)
  unfold trustquorumplay_Src_OddAsset.f
  simp only [Option.bind_some]
  rw [hr]
  simp only [Option.bind_some, List.length_cons, List.length_nil]
  rw [if_pos h0, if_pos (by omega)]
  exact ⟨_, _, _, rfl, hs⟩
theorem exact_l1 (l : List S38) (x : S38) (r : Nat) : ∀ (s k : Nat), s + r = 4 → r + 30 ≤ k → trustquorumlaw35_AmountExact.l1 k l (s : Int) x.f0 x.f1 = some true := by
  induction r with
  | zero =>
    intro s k h1 hk
    obtain ⟨k, rfl⟩ : ∃ m, k = m + 1 := ⟨k - 1, by omega⟩
    rw [trustquorumlaw35_AmountExact.l1, if_neg (by omega), sane_eq (by omega)]; rfl
  | succ r ih =>
    intro s k h1 hk
    obtain ⟨k, rfl⟩ : ∃ m, k = m + 1 := ⟨k - 1, by omega⟩
    have e1 : wrap64 ((s : Int) + 1) = ((s + 1 : Nat) : Int) := by rw [w64 (by omega) (by omega)]; omega
    obtain ⟨u1, a1, b1⟩ := asset_same (rd_T38 l (s : Int)).f0 (rd_T38 l (s : Int)).f1 (k := k) (by omega)
    obtain ⟨u2, a2, b2⟩ := less_same (rd_T38 l (s : Int)).f0 (rd_T38 l (s : Int)).f1 x.f0 x.f1 (k := k) (by omega)
    obtain ⟨u3, a3, b3⟩ := less_same x.f0 x.f1 (rd_T38 l (s : Int)).f0 (rd_T38 l (s : Int)).f1 (k := k) (by omega)
    rw [trustquorumlaw35_AmountExact.l1, if_pos (by omega), if_pos (by omega), a1, b1, native_same, a2, b2, a3, b3, e1]
    unfold amount_Native.f
    simp only [Option.bind_some]
    rw [bne_self_eq_false, bne_self_eq_false, bne_self_eq_false, bne_self_eq_false, if_neg (by decide), if_neg (by decide), if_neg (by decide), if_neg (by decide)]
    exact ih (s + 1) k (by omega) (by omega)
theorem exact_l0 {L : List Int} (y : List Int) (hy : y.length = 7) (x z : S38) {M : Nat} (hM : 1000001 ≤ M) (r : Nat) : ∀ (s k : Nat) (p : Int), s + r = 7 → M + 4 * r + 100 ≤ k → St L p → trustquorumlaw35_AmountExact.l0 k y 7 (s : Int) x.f0 x.f1 z.f0 z.f1 L p = some true := by
  induction r with
  | zero =>
    intro s k p h1 hk hs
    obtain ⟨k, rfl⟩ : ∃ m, k = m + 1 := ⟨k - 1, by omega⟩
    obtain ⟨i, p1, h2, _, s1⟩ := Asset_eq hs
    obtain ⟨c, j, p2, h3, s2⟩ := OddAsset_eq s1
    rw [trustquorumlaw35_AmountExact.l0, if_neg (by omega), h2]
    simp only [Option.bind_some]
    rw [h3]
    simp only [Option.bind_some]
    exact exact_l1 _ x 4 0 k rfl (by omega)
  | succ r ih =>
    intro s k p h1 hk hs
    obtain ⟨k, rfl⟩ : ∃ m, k = m + 4 := ⟨k - 4, by omega⟩
    have e1 : wrap64 ((s : Int) + 1) = ((s + 1 : Nat) : Int) := by rw [w64 (by omega) (by omega)]; omega
    have e2 : wrap64 ((s : Int) + 2) = ((s + 2 : Nat) : Int) := by rw [w64 (by omega) (by omega)]; omega
    have e3 : wrap64 ((s : Int) + 3) = ((s + 3 : Nat) : Int) := by rw [w64 (by omega) (by omega)]; omega
    have hy7 : ((y.length : Nat) : Int) = 7 := by omega
    have t1 := Int.tmod_nonneg 7 (show (0 : Int) ≤ ((s + 1 : Nat) : Int) by omega)
    have t2 := Int.tmod_nonneg 7 (show (0 : Int) ≤ ((s + 2 : Nat) : Int) by omega)
    have t3 := Int.tmod_nonneg 7 (show (0 : Int) ≤ ((s + 3 : Nat) : Int) by omega)
    have g1 := Int.tmod_lt_of_pos ((s + 1 : Nat) : Int) (show (0 : Int) < 7 by omega)
    have g2 := Int.tmod_lt_of_pos ((s + 2 : Nat) : Int) (show (0 : Int) < 7 by omega)
    have g3 := Int.tmod_lt_of_pos ((s + 3 : Nat) : Int) (show (0 : Int) < 7 by omega)
    generalize hn : rd y (s : Int) = n
    generalize hm : rd y (Int.tmod ((s + 1 : Nat) : Int) 7) = m
    generalize hp : rd y (Int.tmod ((s + 2 : Nat) : Int) 7) = q
    generalize hq : rd y (Int.tmod ((s + 3 : Nat) : Int) 7) = o
    obtain ⟨u1, v1, a1, b1⟩ := add_same n m (k := k + 3) (by omega)
    obtain ⟨u2, v2, a2, b2⟩ := sub_same n m (k := k + 2) (by omega)
    obtain ⟨u3, v3, a3, b3⟩ := reduce_same n m (k := k + 2) (by omega)
    obtain ⟨u4, a4, b4⟩ := compare_same n m q o (k := k + 2) (by omega)
    obtain ⟨u5, v5, a5, b5⟩ := down_same n m q (k := k + 1) (by omega)
    obtain ⟨u6, v6, a6, b6⟩ := up_same n m q (k := k) (by omega)
    show trustquorumlaw35_AmountExact.l0 ((k + 3) + 1) _ _ _ _ _ _ _ _ _ = _
    rw [trustquorumlaw35_AmountExact.l0, hy7, if_pos (by omega), if_pos (by omega), if_pos (by omega), if_neg (by omega), e1, e2, e3, if_pos t1, if_pos g1, if_pos t2, if_pos g2, if_pos t3, if_pos g3, hn, hm, hp, hq, a1, b1, vV, rvV, pP, rpP]
    simp only [Option.bind_some]
    rw [bne_self_eq_false, bne_self_eq_false, bne_self_eq_false, if_neg (by decide), if_neg (by decide), if_pos trivial]
    show trustquorumlaw35_AmountExact.j2 ((k + 2) + 1) _ _ _ _ _ _ _ _ _ _ _ _ _ _ = _
    rw [trustquorumlaw35_AmountExact.j2, if_neg (by decide), a2, b2, a3, b3, a4, b4]
    simp only [Option.bind_some, if_true]
    rw [bne_self_eq_false]
    show trustquorumlaw35_AmountExact.j3 ((k + 1) + 1) _ _ _ _ _ _ _ _ _ _ _ _ _ = _
    rw [trustquorumlaw35_AmountExact.j3, if_neg (by decide), a5, b5]
    simp only [Option.bind_some, if_true]
    rw [bne_self_eq_false]
    show trustquorumlaw35_AmountExact.j4 (k + 1) _ _ _ _ _ _ _ _ _ _ _ _ _ = _
    rw [trustquorumlaw35_AmountExact.j4, if_neg (by decide), a6, b6]
    simp only [Option.bind_some, if_true]
    rw [e1]
    exact ih (s + 1) k p (by omega) (by omega) hs
theorem AmountExact : trustquorumlaw35_AmountExact.Pure := by
  intro l0 a b c d x1 x2 z1 z2 _ _ _ _ _ _ _ _ _
  obtain ⟨M, hM⟩ : ∃ M : Nat, 1000001 ≤ M := ⟨_, Nat.le_refl _⟩
  obtain ⟨K, hK⟩ : ∃ K : Nat, M + 1000 ≤ K := ⟨_, Nat.le_refl _⟩
  obtain ⟨K, rfl⟩ : ∃ m, K = m + 1 := ⟨K - 1, by omega⟩
  obtain ⟨L, hL, s0⟩ := New_eq l0
  refine ⟨K + 1, ?_⟩
  have hj : ∀ t, trustquorumlaw35_AmountExact.j0 (K + 1) l0 a b c d t x1 x2 z1 z2 = some true := by
    intro t
    rw [trustquorumlaw35_AmountExact.j0]
    cases t with
    | true => rw [if_pos rfl, sane_eq (by omega)]; rfl
    | false =>
      obtain ⟨o1, p1, h1, s1⟩ := Odd_eq s0
      obtain ⟨o2, p2, h2, s2⟩ := Odd_eq s1
      obtain ⟨o3, p3, h3, _, _, s3⟩ := Range_eq (a := 0) (b := 1000) s2 (by omega) (by omega) (by omega)
      rw [if_neg (by decide), hL]
      simp only [Option.bind_some]
      rw [h1]
      simp only [Option.bind_some]
      rw [h2]
      simp only [Option.bind_some]
      rw [h3]
      simp only [Option.bind_some]
      exact exact_l0 [a, b, c, d, o1, o2, o3] rfl ⟨x1, x2⟩ ⟨z1, z2⟩ hM 7 0 K p3 rfl (by omega) s3
  unfold trustquorumlaw35_AmountExact.f
  split <;> exact hj _

end Go.Proofs.Ytkiebhjbnnnikaa.Pure
