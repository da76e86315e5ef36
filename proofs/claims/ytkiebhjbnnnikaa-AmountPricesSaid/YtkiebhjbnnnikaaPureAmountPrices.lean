/- For all numbers, reduced prices are equal prices, prices are in an order, and adding and taking away lead back: the statement over numbers and lists that the row asks. No condition. -/
import Derived.Test.YtkiebhjbnnnikaaQAmountPricesx3
import Derived.OpenShut
set_option linter.unusedSimpArgs false
set_option linter.unusedVariables false
namespace Go.Proofs.Ytkiebhjbnnnikaa.Pure
open Go.RowKit Go.Proofs.Ytkiebhjbnnnikaa.QAmountPrices Go.Proofs.YtkiebhjbnnnikaaW.PrintWords Go.Proofs.YtkiebhjbnnnikaaW.PrintLast Go.Proofs.YtkiebhjbnnnikaaW.PrintMore

theorem w64 {x : Int} (h : -9223372036854775808 ≤ x) (h' : x ≤ 9223372036854775807) : wrap64 x = x := by unfold wrap64; omega
theorem valid_eq (a : Int) : amount_Valid.f a = some (decide (0 ≤ a ∧ a ≤ 1000000000000)) := by
  unfold amount_Valid.f
  by_cases h : a ≥ 0
  · rw [if_pos h]; congr 1; rw [decide_eq_decide]; omega
  · rw [if_neg h]; congr 1; rw [eq_comm, decide_eq_false_iff_not]; omega
theorem price_eq (n d : Int) (h1 : 1 ≤ n) (h2 : n ≤ 1000000) (h3 : 1 ≤ d) (h4 : d ≤ 1000000) : amount_Price.f n d = some true := by
  unfold amount_Price.f amount_part.f
  rw [if_pos (by omega), if_pos (by omega), decide_eq_true h2, decide_eq_true h4]; rfl
/-- A list of numbers, all valid. -/
theorem checked_loop (a : Int) (l : List Int) (hl : l.length ≤ 10) (hv : ∀ x ∈ l, 0 ≤ x ∧ x ≤ 1000000000000) (r : Nat) : ∀ (s k : Nat), s + r = l.length → r < k → amount_checked.l0 k a l (l.length : Int) (s : Int) = some (a, 0) := by
  induction r with
  | zero =>
    intro s k h1 hk
    obtain ⟨k, rfl⟩ : ∃ m, k = m + 1 := ⟨k - 1, by omega⟩
    rw [amount_checked.l0, if_neg (by omega)]
  | succ r ih =>
    intro s k h1 hk
    obtain ⟨k, rfl⟩ : ∃ m, k = m + 1 := ⟨k - 1, by omega⟩
    have hs : s < l.length := by omega
    have hr : rd l (s : Int) = l[s] := by unfold rd; simp [List.getD, hs]
    have hx := hv _ (List.getElem_mem hs)
    have e1 : wrap64 ((s : Int) + 1) = ((s + 1 : Nat) : Int) := by rw [w64 (by omega) (by omega)]; omega
    rw [amount_checked.l0, if_pos (by omega), if_pos (by omega), if_pos (by omega), hr, valid_eq, e1, decide_eq_true hx]
    simp only [Option.bind_some, if_true]
    exact ih (s + 1) k (by omega) (by omega)
theorem checked_eq (a : Int) (l : List Int) (hl : l.length ≤ 5) (hv : ∀ x ∈ l, 0 ≤ x ∧ x ≤ 1000000000000) (h0 : 0 ≤ a) (h1 : a ≤ 1000000000000) {k : Nat} (hk : 10 ≤ k) : amount_checked.f k a l = some (a, 0) := by
  unfold amount_checked.f
  rw [if_pos (by omega)]
  simp only [Option.bind_some]
  refine checked_loop a (l ++ [a]) (by rw [List.length_append]; simp only [List.length_cons, List.length_nil]; omega) ?_ (l ++ [a]).length 0 k (by omega) (by rw [List.length_append]; simp only [List.length_cons, List.length_nil]; omega)
  intro x hx
  rcases List.mem_append.1 hx with h | h
  · exact hv x h
  · rw [List.mem_singleton.1 h]; exact ⟨h0, h1⟩
theorem scale_eq (x n d m : Int) (hx0 : 0 ≤ x) (hx1 : x ≤ 1000000000000) (hn0 : 1 ≤ n) (hn1 : n ≤ 1000000) (hd0 : 1 ≤ d) (hd1 : d ≤ 1000000) (hm0 : 0 ≤ m) (hm1 : m ≤ 1000000) (hr : (x * n + m) / d ≤ 1000000000000) {k : Nat} (hk : 10 ≤ k) :
    amount_scale.f k x n d m = some ((x * n + m) / d, 0) := by
  have hp0 : 0 ≤ x * n := Int.mul_nonneg hx0 (by omega)
  have hp1 : x * n ≤ 1000000000000 * 1000000 := Int.mul_le_mul hx1 hn1 (by omega) (by omega)
  have hq0 : 0 ≤ (x * n + m) / d := Int.ediv_nonneg (by omega) (by omega)
  unfold amount_scale.f
  rw [valid_eq, price_eq n d hn0 hn1 hd0 hd1, decide_eq_true ⟨hx0, hx1⟩]
  simp only [Option.bind_some, if_true]
  rw [if_neg (by omega), w64 (x := x * n) (by omega) (by omega), w64 (x := x * n + m) (by omega) (by omega), Int.tdiv_eq_ediv_of_nonneg (by omega), w64 (x := (x * n + m) / d) (by omega) (by omega)]
  rw [checked_eq _ [] (by simp) (by intro x hx; cases hx) hq0 hr hk]
  rfl
theorem down_eq (x n d : Int) (hx0 : 0 ≤ x) (hx1 : x ≤ 1000000000000) (hn0 : 1 ≤ n) (hn1 : n ≤ 1000000) (hd0 : 1 ≤ d) (hd1 : d ≤ 1000000) (hr : x * n / d ≤ 1000000000000) {k : Nat} (hk : 10 ≤ k) : amount_Down.f k x n d = some (x * n / d, 0) := by
  unfold amount_Down.f
  rw [scale_eq x n d 0 hx0 hx1 hn0 hn1 hd0 hd1 (by omega) (by omega) (by rw [Int.add_zero]; exact hr) hk, Int.add_zero]; rfl
theorem up_eq (x n d : Int) (hx0 : 0 ≤ x) (hx1 : x ≤ 1000000000000) (hn0 : 1 ≤ n) (hn1 : n ≤ 1000000) (hd0 : 1 ≤ d) (hd1 : d ≤ 1000000) (hr : (x * n + (d - 1)) / d ≤ 1000000000000) {k : Nat} (hk : 10 ≤ k) : amount_Up.f k x n d = some ((x * n + (d - 1)) / d, 0) := by
  unfold amount_Up.f
  rw [w64 (x := d - 1) (by omega) (by omega), scale_eq x n d (d - 1) hx0 hx1 hn0 hn1 hd0 hd1 (by omega) (by omega) hr hk]; rfl
/-- Division rounded up. -/
theorem ceil_eq (m d : Int) (hd : 0 < d) : (m + (d - 1)) / d = if m % d = 0 then m / d else m / d + 1 := by
  have h1 := Int.mul_ediv_add_emod m d
  have h2 := Int.emod_nonneg m (show d ≠ 0 by omega)
  have h3 := Int.emod_lt_of_pos m hd
  generalize m / d = q at h1
  generalize m % d = r at h1 h2 h3 ⊢
  by_cases h : r = 0
  · rw [if_pos h]
    exact ((Int.ediv_emod_unique (a := m + (d - 1)) (r := d - 1) (q := q) hd).2 ⟨by omega, by omega, by omega⟩).1
  · rw [if_neg h]
    refine ((Int.ediv_emod_unique (a := m + (d - 1)) (r := r - 1) (q := q + 1) hd).2 ⟨?_, by omega, by omega⟩).1
    rw [Int.mul_add]; omega
theorem sane_eq {k : Nat} (hk : 20 ≤ k) : trustquorumlaw35_sane.f k = some true := by
  obtain ⟨m, rfl⟩ : ∃ m, k = m + 20 := ⟨k - 20, by omega⟩
  have r1 : amount_Reduce.f (m + 20) 4 6 = some (2, 3) := by
    unfold amount_Reduce.f
    rw [price_eq 4 6 (by omega) (by omega) (by omega) (by omega)]
    simp only [Option.bind_some, if_true]
    have t1 : Int.tmod 4 6 = 4 := by decide
    have t2 : Int.tmod 6 4 = 2 := by decide
    have t3 : Int.tmod 4 2 = 0 := by decide
    show amount_Reduce.l0 ((m + 19) + 1) 4 6 4 6 = _
    rw [amount_Reduce.l0, if_pos (by omega), if_neg (by omega), t1]
    show amount_Reduce.l0 ((m + 18) + 1) 4 6 6 4 = _
    rw [amount_Reduce.l0, if_pos (by omega), if_neg (by omega), t2]
    show amount_Reduce.l0 ((m + 17) + 1) 4 6 4 2 = _
    rw [amount_Reduce.l0, if_pos (by omega), if_neg (by omega), t3]
    show amount_Reduce.l0 ((m + 16) + 1) 4 6 2 0 = _
    rw [amount_Reduce.l0, if_neg (by omega), if_neg (by omega)]
    decide +kernel
  unfold trustquorumlaw35_sane.f
  rw [down_eq 10 1 3 (by omega) (by omega) (by omega) (by omega) (by omega) (by omega) (by omega) (by omega), up_eq 10 1 3 (by omega) (by omega) (by omega) (by omega) (by omega) (by omega) (by omega) (by omega), r1]
  simp only [Option.bind_some]
  have c1 : amount_Compare.f 1 2 2 3 = some (-1) := by decide +kernel
  have c2 : amount_Asset.f (⟨#[]⟩ : ByteArray) 0 = some true := by decide +kernel
  have c3 : amount_Native.f (⟨#[]⟩ : ByteArray) 0 = some true := by decide +kernel
  rw [c1, c2, c3]
  decide

theorem reduce_loop (x y : Int) : ∀ (b a k : Nat), 0 < Nat.gcd a b → b < k → amount_Reduce.l0 k x y (a : Int) (b : Int) = some (wrap64 (Int.tdiv x (Nat.gcd a b : Nat)), wrap64 (Int.tdiv y (Nat.gcd a b : Nat))) := by
  intro b
  induction b using Nat.strongRecOn with
  | _ b ih =>
    intro a k hg hk
    obtain ⟨k, rfl⟩ : ∃ m, k = m + 1 := ⟨k - 1, by omega⟩
    by_cases hb : b = 0
    · subst hb
      rw [Nat.gcd_zero_right] at hg ⊢
      rw [amount_Reduce.l0, if_neg (by omega), if_neg (by omega)]
    · have hm : a % b < b := Nat.mod_lt _ (by omega)
      have e : Int.tmod (a : Int) (b : Int) = ((a % b : Nat) : Int) := (Int.ofNat_tmod a b).symm
      have hgg : Nat.gcd a b = Nat.gcd b (a % b) := by rw [Nat.gcd_comm a b, Nat.gcd_rec b a, Nat.gcd_comm]
      rw [amount_Reduce.l0, if_pos (by omega), if_neg (by omega), e, hgg]
      exact ih (a % b) hm b k (by rw [← hgg]; exact hg) (by omega)
theorem reduce_eq (a b : Nat) (ha : 1 ≤ a) (ha' : a ≤ 1000000) (hb : 1 ≤ b) (hb' : b ≤ 1000000) {k : Nat} (hk : 1000001 ≤ k) : amount_Reduce.f k (a : Int) (b : Int) = some (((a / Nat.gcd a b : Nat) : Int), ((b / Nat.gcd a b : Nat) : Int)) := by
  unfold amount_Reduce.f
  rw [price_eq _ _ (by omega) (by omega) (by omega) (by omega)]
  simp only [Option.bind_some, if_true]
  have hg : 0 < Nat.gcd a b := Nat.gcd_pos_of_pos_left _ (by omega)
  have z1 : (0 : Int) ≤ ((a / Nat.gcd a b : Nat) : Int) := Int.natCast_nonneg _
  have z2 : (0 : Int) ≤ ((b / Nat.gcd a b : Nat) : Int) := Int.natCast_nonneg _
  have l1 : a / Nat.gcd a b ≤ a := Nat.div_le_self ..
  have l2 : b / Nat.gcd a b ≤ b := Nat.div_le_self ..
  rw [reduce_loop (a : Int) (b : Int) b a k hg (by omega), ← Int.ofNat_tdiv, ← Int.ofNat_tdiv, w64 (x := ((a / Nat.gcd a b : Nat) : Int)) (by omega) (by omega), w64 (x := ((b / Nat.gcd a b : Nat) : Int)) (by omega) (by omega)]
theorem compare_eq (a b c d : Int) (ha : 1 ≤ a) (ha' : a ≤ 1000000) (hb : 1 ≤ b) (hb' : b ≤ 1000000) (hc : 1 ≤ c) (hc' : c ≤ 1000000) (hd : 1 ≤ d) (hd' : d ≤ 1000000) :
    amount_Compare.f a b c d = some (if a * d < c * b then -1 else if a * d > c * b then 1 else 0) := by
  have m1 : a * d ≤ 1000000 * 1000000 := Int.mul_le_mul ha' hd' (by omega) (by omega)
  have m2 : c * b ≤ 1000000 * 1000000 := Int.mul_le_mul hc' hb' (by omega) (by omega)
  have m3 : 0 ≤ a * d := Int.mul_nonneg (by omega) (by omega)
  have m4 : 0 ≤ c * b := Int.mul_nonneg (by omega) (by omega)
  unfold amount_Compare.f cmp_Compare_int.f cmp_isNaN_int.f
  rw [price_eq a b ha ha' hb hb', price_eq c d hc hc' hd hd', w64 (x := a * d) (by omega) (by omega), w64 (x := c * b) (by omega) (by omega)]
  simp only [Option.bind_some, if_true, bne_self_eq_false, Bool.false_eq_true, if_false]
  split
  · rfl
  · split <;> rfl
theorem w_u16 {x : Int} (h0 : 0 ≤ x) (h1 : x ≤ 65535) : wrap64 (1 + (wrap64 (x))) = ((x.toNat + 1 : Nat) : Int) := by rw [w64 (x := x) (by omega) (by omega), w64 (by omega) (by omega)]; omega
theorem AmountPrices : trustquorumlaw35_AmountPrices.Pure := by
  intro a0 a1 a2 a3 a4 h0 h1 h2 h3 h4
  obtain ⟨p0, p1⟩ := bounds_u16 h0
  obtain ⟨q0, q1⟩ := bounds_u16 h1
  obtain ⟨r0, r1⟩ := bounds_u16 h2
  obtain ⟨s0, s1⟩ := bounds_u16 h3
  obtain ⟨t0, t1⟩ := bounds_u8 h4
  unfold trustquorumlaw35_AmountPrices.f
  simp only [w_u16 p0 p1, w_u16 q0 q1, w_u16 r0 r1, w_u16 s0 s1]
  have n1 : 1 ≤ a0.toNat + 1 := by omega
  have n2 : a0.toNat + 1 ≤ 65536 := by omega
  have d1 : 1 ≤ a1.toNat + 1 := by omega
  have d2 : a1.toNat + 1 ≤ 65536 := by omega
  have c1 : 1 ≤ a2.toNat + 1 := by omega
  have c2 : a2.toNat + 1 ≤ 65536 := by omega
  have b1 : 1 ≤ a3.toNat + 1 := by omega
  have b2 : a3.toNat + 1 ≤ 65536 := by omega
  generalize a0.toNat + 1 = n at n1 n2
  generalize a1.toNat + 1 = d at d1 d2
  generalize a2.toNat + 1 = p at c1 c2
  generalize a3.toNat + 1 = q at b1 b2
  clear h0 h1 h2 h3 h4 p0 p1 q0 q1 r0 r1 s0 s1
  obtain ⟨K, hK⟩ : ∃ K : Nat, 1000001 ≤ K := ⟨_, Nat.le_refl _⟩
  refine ⟨K + 1, ?_⟩
  have hg : 0 < Nat.gcd n d := Nat.gcd_pos_of_pos_left _ (by omega)
  obtain ⟨u, hu⟩ := Nat.gcd_dvd_left n d
  obtain ⟨v, hv⟩ := Nat.gcd_dvd_right n d
  have du : n / Nat.gcd n d = u := Nat.div_eq_of_eq_mul_right hg hu
  have dv : d / Nat.gcd n d = v := Nat.div_eq_of_eq_mul_right hg hv
  have u1 : 1 ≤ u := by rcases Nat.eq_zero_or_pos u with h | h; · rw [h, Nat.mul_zero] at hu; omega
                        · exact h
  have v1 : 1 ≤ v := by rcases Nat.eq_zero_or_pos v with h | h; · rw [h, Nat.mul_zero] at hv; omega
                        · exact h
  have u2 : u ≤ n := by rw [← du]; exact Nat.div_le_self ..
  have v2 : v ≤ d := by rw [← dv]; exact Nat.div_le_self ..
  have cross : (n : Int) * (v : Int) = (u : Int) * (d : Int) := by
    have : n * v = u * d := by
      have : Nat.gcd n d * u * v = u * (Nat.gcd n d * v) := by rw [Nat.mul_comm (Nat.gcd n d) u, Nat.mul_assoc]
      rw [← hu, ← hv] at this; exact this
    exact_mod_cast this
  have ce := compare_eq (n : Int) (d : Int) (u : Int) (v : Int) (by omega) (by omega) (by omega) (by omega) (by omega) (by omega) (by omega) (by omega)
  rw [if_neg (by omega), if_neg (by omega)] at ce
  rw [reduce_eq n d n1 (by omega) d1 (by omega) (by omega), du, dv]
  simp only [Option.bind_some]
  rw [ce]
  simp only [Option.bind_some, if_true]
  rw [compare_eq (n : Int) (d : Int) (p : Int) (q : Int) (by omega) (by omega) (by omega) (by omega) (by omega) (by omega) (by omega) (by omega), compare_eq (p : Int) (q : Int) (n : Int) (d : Int) (by omega) (by omega) (by omega) (by omega) (by omega) (by omega) (by omega) (by omega)]
  simp only [Option.bind_some]
  have neg : (if (n : Int) * (q : Int) < (p : Int) * (d : Int) then (-1 : Int) else if (n : Int) * (q : Int) > (p : Int) * (d : Int) then 1 else 0) = wrap64 (-(if (p : Int) * (d : Int) < (n : Int) * (q : Int) then (-1 : Int) else if (p : Int) * (d : Int) > (n : Int) * (q : Int) then 1 else 0)) := by
    rcases Int.lt_trichotomy ((n : Int) * (q : Int)) ((p : Int) * (d : Int)) with h | h | h
    · rw [if_pos h, if_neg (by omega), if_pos (by omega), w64 (by decide) (by decide)]
    · rw [if_neg (by omega), if_neg (by omega), if_neg (by omega), if_neg (by omega), w64 (by decide) (by decide)]
      all_goals first | done | rfl
    · rw [if_neg (by omega), if_pos h, if_pos (by omega), w64 (by decide) (by decide)]
      all_goals first | done | rfl
  rw [if_pos neg, if_neg (by omega), if_neg (by omega)]
  have uv : ((u : Int) * (d : Int)) = ((v : Int) * (n : Int)) := by rw [← cross, Int.mul_comm]
  have udb : (u : Int) * (d : Int) ≤ 65536 * 65536 := Int.mul_le_mul (by omega) (by omega) (by omega) (by omega)
  have udc : 0 ≤ (u : Int) * (d : Int) := Int.mul_nonneg (by omega) (by omega)
  have e0 : ((wrap64 ((u : Int) * (d : Int))) != (wrap64 ((v : Int) * (n : Int)))) = false := by rw [uv]; exact bne_self_eq_false _
  rw [e0, trustquorumlaw35_AmountPrices.j0]
  simp only [Bool.false_eq_true, if_false]
  have em : wrap64 (1 + (Int.tmod (wrap64 (a4)) 10)) = ((a4.toNat % 10 + 1 : Nat) : Int) := by
    rw [w64 (x := a4) (by omega) (by omega), Int.tmod_eq_emod_of_nonneg t0, w64 (by omega) (by omega)]; omega
  rw [em]
  have m1 : 1 ≤ a4.toNat % 10 + 1 := by omega
  have m2 : a4.toNat % 10 + 1 ≤ 10 := by omega
  generalize a4.toNat % 10 + 1 = m at m1 m2
  clear em t0 t1
  have nm : n * m ≤ 65536 * 10 := Nat.mul_le_mul n2 m2
  have dm : d * m ≤ 65536 * 10 := Nat.mul_le_mul d2 m2
  have nm0 : 1 ≤ n * m := Nat.mul_pos (by omega) (by omega)
  have dm0 : 1 ≤ d * m := Nat.mul_pos (by omega) (by omega)
  rw [w64 (x := (n : Int) * (m : Int)) (by rw [← Int.natCast_mul]; omega) (by rw [← Int.natCast_mul]; omega), w64 (x := (d : Int) * (m : Int)) (by rw [← Int.natCast_mul]; omega) (by rw [← Int.natCast_mul]; omega), ← Int.natCast_mul, ← Int.natCast_mul]
  rw [reduce_eq (n * m) (d * m) nm0 (by omega) dm0 (by omega) (by omega), Nat.gcd_mul_right, Nat.mul_div_mul_right _ _ (by omega), Nat.mul_div_mul_right _ _ (by omega), du, dv]
  have ea : amount_Add.f K (n : Int) (p : Int) = some ((n : Int) + (p : Int), 0) := by
    unfold amount_Add.f
    rw [w64 (x := (n : Int) + (p : Int)) (by omega) (by omega), checked_eq _ [(n : Int), (p : Int)] (by simp) (by
      intro x hx
      simp only [List.mem_cons, List.not_mem_nil, or_false] at hx
      rcases hx with rfl | rfl <;> omega) (by omega) (by omega) (by omega)]; rfl
  have es : amount_Sub.f K ((n : Int) + (p : Int)) (p : Int) = some ((n : Int), 0) := by
    unfold amount_Sub.f
    rw [w64 (x := (n : Int) + (p : Int) - (p : Int)) (by omega) (by omega), Int.add_sub_cancel, checked_eq _ [(n : Int) + (p : Int), (p : Int)] (by simp) (by
      intro x hx
      simp only [List.mem_cons, List.not_mem_nil, or_false] at hx
      rcases hx with rfl | rfl <;> omega) (by omega) (by omega) (by omega)]; rfl
  rw [ea]
  simp only [Option.bind_some]
  rw [es]
  simp only [Option.bind_some, if_true]
  rw [compare_eq (n : Int) (d : Int) (p : Int) (q : Int) (by omega) (by omega) (by omega) (by omega) (by omega) (by omega) (by omega) (by omega)]
  simp only [Option.bind_some]
  have k1 : (n : Int) * (q : Int) ≤ 65536 * 65536 := Int.mul_le_mul (by omega) (by omega) (by omega) (by omega)
  have k2 : (p : Int) * (d : Int) ≤ 65536 * 65536 := Int.mul_le_mul (by omega) (by omega) (by omega) (by omega)
  have k3 : 0 ≤ (n : Int) * (q : Int) := Int.mul_nonneg (by omega) (by omega)
  have k4 : 0 ≤ (p : Int) * (d : Int) := Int.mul_nonneg (by omega) (by omega)
  rw [w64 (x := (n : Int) * (q : Int)) (by omega) (by omega), w64 (x := (p : Int) * (d : Int)) (by omega) (by omega), sane_eq (by omega)]
  have fin : ((decide ((if (n : Int) * (q : Int) < (p : Int) * (d : Int) then (-1 : Int) else if (n : Int) * (q : Int) > (p : Int) * (d : Int) then 1 else 0) < 0)) == (decide ((n : Int) * (q : Int) < (p : Int) * (d : Int)))) = true := by
    by_cases h : (n : Int) * (q : Int) < (p : Int) * (d : Int)
    · rw [if_pos h, decide_eq_true h]; decide
    · rw [if_neg h, decide_eq_false h]; split <;> decide
  rw [fin]
  rfl

end Go.Proofs.Ytkiebhjbnnnikaa.Pure
