/- For every list of numbers, the drawn assets are in one order with the native one first: the statement over numbers and lists that the row asks. No condition. -/
import Derived.Test.YtkiebhjbnnnikaaQAmountAssetsx5
import Derived.OpenShut
set_option linter.unusedSimpArgs false
set_option linter.unusedVariables false
namespace Go.Proofs.Ytkiebhjbnnnikaa.Pure
open Go.RowKit Go.Proofs.Ytkiebhjbnnnikaa.QAmountAssets Go.Proofs.YtkiebhjbnnnikaaW.PrintWords Go.Proofs.YtkiebhjbnnnikaaW.PrintLast Go.Proofs.YtkiebhjbnnnikaaW.PrintMore

theorem w64 {x : Int} (h : -9223372036854775808 ≤ x) (h' : x ≤ 9223372036854775807) : wrap64 x = x := by unfold wrap64; omega
theorem valid_eq (a : Int) : amount_Valid.f a = some (decide (0 ≤ a ∧ a ≤ 1000000000000)) := by
  unfold amount_Valid.f
  by_cases h : a ≥ 0
  · rw [if_pos h]; congr 1; rw [decide_eq_decide]; omega
  · rw [if_neg h]; congr 1; rw [eq_comm, decide_eq_false_iff_not]; omega
theorem price_eq (n d : Int) (h1 : 1 ≤ n) (h2 : n ≤ 1000000) (h3 : 1 ≤ d) (h4 : d ≤ 1000000) : amount_Price.f n d = some true := by
  unfold amount_Price.f amount_part.f
  rw [if_pos (by omega), if_pos (by omega), decide_eq_true h2, decide_eq_true h4]; rfl
/-- A list of numbers, all valid. -/
theorem checked_loop (a : Int) (l : List Int) (hl : l.length ≤ 10) (hv : ∀ x ∈ l, 0 ≤ x ∧ x ≤ 1000000000000) (r : Nat) : ∀ (s k : Nat), s + r = l.length → r < k → amount_checked.l0 k a l (l.length : Int) (s : Int) = some (a, 0) := by
  induction r with
  | zero =>
    intro s k h1 hk
    obtain ⟨k, rfl⟩ : ∃ m, k = m + 1 := ⟨k - 1, by omega⟩
    rw [amount_checked.l0, if_neg (by omega)]
  | succ r ih =>
    intro s k h1 hk
    obtain ⟨k, rfl⟩ : ∃ m, k = m + 1 := ⟨k - 1, by omega⟩
    have hs : s < l.length := by omega
    have hr : rd l (s : Int) = l[s] := by unfold rd; simp [List.getD, hs]
    have hx := hv _ (List.getElem_mem hs)
    have e1 : wrap64 ((s : Int) + 1) = ((s + 1 : Nat) : Int) := by rw [w64 (by omega) (by omega)]; omega
    rw [amount_checked.l0, if_pos (by omega), if_pos (by omega), if_pos (by omega), hr, valid_eq, e1, decide_eq_true hx]
    simp only [Option.bind_some, if_true]
    exact ih (s + 1) k (by omega) (by omega)
theorem checked_eq (a : Int) (l : List Int) (hl : l.length ≤ 5) (hv : ∀ x ∈ l, 0 ≤ x ∧ x ≤ 1000000000000) (h0 : 0 ≤ a) (h1 : a ≤ 1000000000000) {k : Nat} (hk : 10 ≤ k) : amount_checked.f k a l = some (a, 0) := by
  unfold amount_checked.f
  rw [if_pos (by omega)]
  simp only [Option.bind_some]
  refine checked_loop a (l ++ [a]) (by rw [List.length_append]; simp only [List.length_cons, List.length_nil]; omega) ?_ (l ++ [a]).length 0 k (by omega) (by rw [List.length_append]; simp only [List.length_cons, List.length_nil]; omega)
  intro x hx
  rcases List.mem_append.1 hx with h | h
  · exact hv x h
  · rw [List.mem_singleton.1 h]; exact ⟨h0, h1⟩
theorem scale_eq (x n d m : Int) (hx0 : 0 ≤ x) (hx1 : x ≤ 1000000000000) (hn0 : 1 ≤ n) (hn1 : n ≤ 1000000) (hd0 : 1 ≤ d) (hd1 : d ≤ 1000000) (hm0 : 0 ≤ m) (hm1 : m ≤ 1000000) (hr : (x * n + m) / d ≤ 1000000000000) {k : Nat} (hk : 10 ≤ k) :
    amount_scale.f k x n d m = some ((x * n + m) / d, 0) := by
  have hp0 : 0 ≤ x * n := Int.mul_nonneg hx0 (by omega)
  have hp1 : x * n ≤ 1000000000000 * 1000000 := Int.mul_le_mul hx1 hn1 (by omega) (by omega)
  have hq0 : 0 ≤ (x * n + m) / d := Int.ediv_nonneg (by omega) (by omega)
  unfold amount_scale.f
  rw [valid_eq, price_eq n d hn0 hn1 hd0 hd1, decide_eq_true ⟨hx0, hx1⟩]
  simp only [Option.bind_some, if_true]
  rw [if_neg (by omega), w64 (x := x * n) (by omega) (by omega), w64 (x := x * n + m) (by omega) (by omega), Int.tdiv_eq_ediv_of_nonneg (by omega), w64 (x := (x * n + m) / d) (by omega) (by omega)]
  rw [checked_eq _ [] (by simp) (by intro x hx; cases hx) hq0 hr hk]
  rfl
theorem down_eq (x n d : Int) (hx0 : 0 ≤ x) (hx1 : x ≤ 1000000000000) (hn0 : 1 ≤ n) (hn1 : n ≤ 1000000) (hd0 : 1 ≤ d) (hd1 : d ≤ 1000000) (hr : x * n / d ≤ 1000000000000) {k : Nat} (hk : 10 ≤ k) : amount_Down.f k x n d = some (x * n / d, 0) := by
  unfold amount_Down.f
  rw [scale_eq x n d 0 hx0 hx1 hn0 hn1 hd0 hd1 (by omega) (by omega) (by rw [Int.add_zero]; exact hr) hk, Int.add_zero]; rfl
theorem up_eq (x n d : Int) (hx0 : 0 ≤ x) (hx1 : x ≤ 1000000000000) (hn0 : 1 ≤ n) (hn1 : n ≤ 1000000) (hd0 : 1 ≤ d) (hd1 : d ≤ 1000000) (hr : (x * n + (d - 1)) / d ≤ 1000000000000) {k : Nat} (hk : 10 ≤ k) : amount_Up.f k x n d = some ((x * n + (d - 1)) / d, 0) := by
  unfold amount_Up.f
  rw [w64 (x := d - 1) (by omega) (by omega), scale_eq x n d (d - 1) hx0 hx1 hn0 hn1 hd0 hd1 (by omega) (by omega) hr hk]; rfl
/-- Division rounded up. -/
theorem ceil_eq (m d : Int) (hd : 0 < d) : (m + (d - 1)) / d = if m % d = 0 then m / d else m / d + 1 := by
  have h1 := Int.mul_ediv_add_emod m d
  have h2 := Int.emod_nonneg m (show d ≠ 0 by omega)
  have h3 := Int.emod_lt_of_pos m hd
  generalize m / d = q at h1
  generalize m % d = r at h1 h2 h3 ⊢
  by_cases h : r = 0
  · rw [if_pos h]
    exact ((Int.ediv_emod_unique (a := m + (d - 1)) (r := d - 1) (q := q) hd).2 ⟨by omega, by omega, by omega⟩).1
  · rw [if_neg h]
    refine ((Int.ediv_emod_unique (a := m + (d - 1)) (r := r - 1) (q := q + 1) hd).2 ⟨?_, by omega, by omega⟩).1
    rw [Int.mul_add]; omega
theorem sane_eq {k : Nat} (hk : 20 ≤ k) : trustquorumlaw35_sane.f k = some true := by
  obtain ⟨m, rfl⟩ : ∃ m, k = m + 20 := ⟨k - 20, by omega⟩
  have r1 : amount_Reduce.f (m + 20) 4 6 = some (2, 3) := by
    unfold amount_Reduce.f
    rw [price_eq 4 6 (by omega) (by omega) (by omega) (by omega)]
    simp only [Option.bind_some, if_true]
    have t1 : Int.tmod 4 6 = 4 := by decide
    have t2 : Int.tmod 6 4 = 2 := by decide
    have t3 : Int.tmod 4 2 = 0 := by decide
    show amount_Reduce.l0 ((m + 19) + 1) 4 6 4 6 = _
    rw [amount_Reduce.l0, if_pos (by omega), if_neg (by omega), t1]
    show amount_Reduce.l0 ((m + 18) + 1) 4 6 6 4 = _
    rw [amount_Reduce.l0, if_pos (by omega), if_neg (by omega), t2]
    show amount_Reduce.l0 ((m + 17) + 1) 4 6 4 2 = _
    rw [amount_Reduce.l0, if_pos (by omega), if_neg (by omega), t3]
    show amount_Reduce.l0 ((m + 16) + 1) 4 6 2 0 = _
    rw [amount_Reduce.l0, if_neg (by omega), if_neg (by omega)]
    decide +kernel
  unfold trustquorumlaw35_sane.f
  rw [down_eq 10 1 3 (by omega) (by omega) (by omega) (by omega) (by omega) (by omega) (by omega) (by omega), up_eq 10 1 3 (by omega) (by omega) (by omega) (by omega) (by omega) (by omega) (by omega) (by omega), r1]
  simp only [Option.bind_some]
  have c1 : amount_Compare.f 1 2 2 3 = some (-1) := by decide +kernel
  have c2 : amount_Asset.f (⟨#[]⟩ : ByteArray) 0 = some true := by decide +kernel
  have c3 : amount_Native.f (⟨#[]⟩ : ByteArray) 0 = some true := by decide +kernel
  rw [c1, c2, c3]
  decide

structure St (L : List Int) (p : Int) : Prop where
  len : L.length ≤ 800
  lo : 0 ≤ p
  hi : p ≤ 800
theorem New_eq (l : List Int) : ∃ L, trustquorumplay_New.f l = some (L, 0) ∧ St L 0 := by
  unfold trustquorumplay_New.f
  have h0 : 0 ≤ mn (l.length : Int) 800 := by unfold mn; split <;> omega
  have h1 : mn (l.length : Int) 800 ≤ l.length := by unfold mn; split <;> omega
  have h2 : mn (l.length : Int) 800 ≤ 800 := by unfold mn; split <;> omega
  rw [if_pos h0, if_pos h1]
  refine ⟨_, rfl, ⟨?_, by omega, by omega⟩⟩
  rw [List.length_take]; omega
theorem N_eq {L : List Int} {p n : Int} (h : St L p) (hn : 1 ≤ n) (hn2 : n ≤ 1000000) : ∃ r p', trustquorumplay_Src_N.f L p n = some (r, p') ∧ 0 ≤ r ∧ r < n ∧ St L p' := by
  unfold trustquorumplay_Src_N.f
  by_cases h1 : p ≥ (L.length : Int)
  · exact ⟨0, p, by rw [if_pos h1], by omega, by omega, h⟩
  · have hp : p < L.length := by omega
    have h3 := h.len
    have h4 := h.lo
    have e1 : wrap64 (p + 1) = p + 1 := w64 (by omega) (by omega)
    have e2 : wrap64 ((p + 1) - 1) = p := by unfold wrap64; omega
    rw [if_neg h1, if_neg (by omega), e1, e2, if_pos h.lo, if_pos hp, if_neg (by omega)]
    have b1 := Int.tmod_lt_of_pos (rd L p) (show 0 < n by omega)
    have b2 := Int.lt_tmod_of_pos (rd L p) (show 0 < n by omega)
    have e3 : wrap64 (Int.tmod (rd L p) n + n) = Int.tmod (rd L p) n + n := w64 (by omega) (by omega)
    rw [e3]
    refine ⟨_, _, rfl, Int.tmod_nonneg _ (by omega), Int.tmod_lt_of_pos _ (by omega), ⟨h.len, by omega, by omega⟩⟩
def cdOf : Nat → ByteArray
  | 0 => ⟨#[]⟩
  | 1 => ⟨#[85, 83, 68]⟩
  | _ => ⟨#[69, 85, 82]⟩
def rkOf : Nat → Nat
  | 0 => 0
  | 1 => 2
  | _ => 1
theorem Asset_eq {L : List Int} {p : Int} (h : St L p) : ∃ (i : Nat) (p' : Int), trustquorumplay_Src_Asset.f L p = some (cdOf i, (i : Int), p') ∧ i < 3 ∧ St L p' := by
  obtain ⟨r, p', hr, h0, h1, hs⟩ := N_eq (n := 3) h (by omega) (by omega)
  obtain ⟨i, rfl⟩ := Int.eq_ofNat_of_zero_le h0
  refine ⟨i, p', ?_, by omega, hs⟩
  unfold trustquorumplay_Src_Asset.f trustquorumplay_Usd.f trustquorumplay_Eur.f
  simp only [Option.bind_some]
  rw [hr]
  simp only [Option.bind_some, List.length_cons, List.length_nil]
  rw [if_pos h0, if_pos (by omega)]
  have : i = 0 ∨ i = 1 ∨ i = 2 := by omega
  rcases this with rfl | rfl | rfl <;> rfl
def cmi (a b : Int) : Int := if a < b then -1 else if b < a then 1 else 0
def cms (a b : ByteArray) : Int := if Op.bytesLess a.toList b.toList = true then -1 else if Op.bytesLess b.toList a.toList = true then 1 else 0
theorem cmi_eq (a b : Int) : cmp_Compare_int.f a b = some (cmi a b) := by
  unfold cmp_Compare_int.f cmp_isNaN_int.f cmi
  simp only [Option.bind_some, bne_self_eq_false, Bool.false_eq_true, if_false]
  split <;> (try rfl)
  split <;> (try rfl)
theorem cms_eq (a b : ByteArray) : cmp_Compare_string.f a b = some (cms a b) := by
  unfold cmp_Compare_string.f cmp_isNaN_string.f cms
  simp only [Option.bind_some, bne_self_eq_false, Bool.false_eq_true, if_false]
  split <;> (try rfl)
  split <;> (try rfl)
theorem or_eq (x y : Int) {k : Nat} (hk : 3 ≤ k) : cmp_Or_int.f k ([x, y] : List Int) = some (if x = 0 then y else x) := by
  obtain ⟨m, rfl⟩ : ∃ m, k = m + 3 := ⟨k - 3, by omega⟩
  have r0 : rd [x, y] 0 = x := rfl
  have r1 : rd [x, y] 1 = y := rfl
  have w1 : wrap64 (0 + 1) = 1 := by unfold wrap64; omega
  have w2 : wrap64 (1 + 1) = 2 := by unfold wrap64; omega
  have l2 : (([x, y] : List Int).length : Int) = 2 := rfl
  unfold cmp_Or_int.f
  rw [l2]
  simp only [cmp_Or_int.l0]
  rw [l2, w1, w2, r0, r1]
  simp only [show (0 : Int) < 2 from by omega, show (1 : Int) < 2 from by omega, show (0 : Int) ≤ 0 from by omega, show (0 : Int) ≤ 1 from by omega, if_true, show ¬ ((2 : Int) < 2) from by omega, if_false]
  by_cases hx : x = 0
  · rw [if_pos hx, if_pos hx]
    by_cases hy : y = 0
    · rw [if_pos hy, hy]
    · rw [if_neg hy]
  · rw [if_neg hx, if_neg hx]
def lsb (a : ByteArray) (x : Int) (b : ByteArray) (y : Int) : Bool := decide ((if cms a b = 0 then cmi x y else cms a b) < 0)
theorem less_eq (a : ByteArray) (x : Int) (b : ByteArray) (y : Int) {k : Nat} (hk : 3 ≤ k) : amount_Less.f k a x b y = some (lsb a x b y) := by
  unfold amount_Less.f amount_Order.f lsb
  rw [cmi_eq, cms_eq]
  simp only [Option.bind_some]
  rw [or_eq _ _ hk]; rfl
theorem lsb_val : ∀ i, i < 3 → ∀ j, j < 3 → lsb (cdOf i) (i : Int) (cdOf j) (j : Int) = decide (rkOf i < rkOf j) := by decide +kernel
theorem lsb_nat : ∀ i, i < 3 → lsb (cdOf i) (i : Int) (⟨#[]⟩ : ByteArray) 0 = false := by decide +kernel
theorem ok_val : ∀ i, i < 3 → amount_Asset.f (cdOf i) (i : Int) = some true := by decide +kernel
theorem same_val : ∀ i, i < 3 → ∀ j, j < 3 → rkOf i = rkOf j → (!((cdOf i).toList == (cdOf j).toList) || (!((i : Int) == (j : Int)))) = false := by decide +kernel
theorem xau9 : amount_Asset.f (⟨#[88, 65, 85]⟩ : ByteArray) 9 = some true := by decide +kernel
theorem xau0 : amount_Asset.f (⟨#[88, 65, 85]⟩ : ByteArray) 0 = some false := by decide +kernel
theorem AmountAssets : trustquorumlaw35_AmountAssets.Pure := by
  intro l0 _ _ _
  obtain ⟨L, hL, s0⟩ := New_eq l0
  obtain ⟨i, p1, h1, hi, s1⟩ := Asset_eq s0
  obtain ⟨j, p2, h2, hj, s2⟩ := Asset_eq s1
  obtain ⟨l, p3, h3, hl, s3⟩ := Asset_eq s2
  refine ⟨100 + 1, ?_⟩
  have less : ∀ a, a < 3 → ∀ b, b < 3 → amount_Less.f (100 + 1) (cdOf a) (a : Int) (cdOf b) (b : Int) = some (decide (rkOf a < rkOf b)) := fun a ha b hb => by rw [less_eq _ _ _ _ (by omega), lsb_val a ha b hb]
  have J : trustquorumlaw35_AmountAssets.j0 (100 + 1) false (cdOf i) (i : Int) = some true := by
    rw [trustquorumlaw35_AmountAssets.j0, if_neg (by decide), ok_val i hi]
    simp only [Option.bind_some, if_true]
    rw [less_eq _ _ _ _ (by omega), lsb_nat i hi]
    simp only [Option.bind_some, Bool.false_eq_true, if_false]
    unfold amount_Native.f
    simp only [Option.bind_some]
    rw [beq_self_eq_true, if_pos rfl, xau9]
    simp only [Option.bind_some, if_true]
    rw [xau0]
    simp only [Option.bind_some, Bool.false_eq_true, if_false]
    rw [sane_eq (by omega)]; rfl
  unfold trustquorumlaw35_AmountAssets.f
  rw [hL]; simp only [Option.bind_some]
  rw [h1]; simp only [Option.bind_some]
  rw [h2]; simp only [Option.bind_some]
  rw [h3]; simp only [Option.bind_some]
  rw [less i hi j hj, less j hj i hi, less j hj l hl, less i hi l hl]
  simp only [Option.bind_some, decide_eq_true_eq]
  have sm := same_val i hi j hj
  by_cases c1 : rkOf i < rkOf j
  · have c3 : ¬ rkOf j < rkOf i := by omega
    by_cases c2 : rkOf j < rkOf l
    · have c4 : rkOf i < rkOf l := by omega
      simp only [c1, c2, c3, c4, if_true, if_false]; exact J
    · simp only [c1, c2, c3, if_true, if_false]; exact J
  · by_cases c2 : rkOf j < rkOf i
    · simp only [c1, c2, if_true, if_false]; exact J
    · rw [sm (by omega)]
      simp only [c1, c2, if_false]; exact J

end Go.Proofs.Ytkiebhjbnnnikaa.Pure
