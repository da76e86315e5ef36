/- For every list of numbers, with greater counters of the same values drawn ballots prepare at least as much, and a prepared ballot is not aborted by both: the statement over numbers and lists that the printed row asks. No condition. -/
import Derived.Test.YtogdpfmlldaeeaaQBallotsMorex5
import Derived.OpenShut
set_option linter.unusedSimpArgs false
set_option linter.unusedVariables false
namespace Go.Proofs.Ytogdpfmlldaeeaa.Pure
open Go.RowKit Go.Proofs.Ytogdpfmlldaeeaa.QBallotsMore Go.Proofs.YtogdpfmlldaeeaaW.PrintWords Go.Proofs.YtogdpfmlldaeeaaW.PrintLast Go.Proofs.YtogdpfmlldaeeaaW.PrintMore

-- plain facts on the source of numbers, on values and on ballots
theorem w64 {x : Int} (h : -9223372036854775808 ≤ x) (h' : x ≤ 9223372036854775807) : wrap64 x = x := by unfold wrap64; omega

structure St (L : List Int) (p : Int) : Prop where
  len : L.length ≤ 800
  lo : 0 ≤ p
  hi : p ≤ 800

theorem New_eq (l : List Int) : ∃ L, trustquorumplay_New.f l = some (L, 0) ∧ St L 0 := by
  unfold trustquorumplay_New.f
  have h0 : 0 ≤ mn (l.length : Int) 800 := by unfold mn; split <;> omega
  have h1 : mn (l.length : Int) 800 ≤ l.length := by unfold mn; split <;> omega
  have h2 : mn (l.length : Int) 800 ≤ 800 := by unfold mn; split <;> omega
  rw [if_pos h0, if_pos h1]
  refine ⟨_, rfl, ⟨?_, by omega, by omega⟩⟩
  rw [List.length_take]; omega

theorem N_eq {L : List Int} {p n : Int} (h : St L p) (hn : 1 ≤ n) (hn2 : n ≤ 1000000) : ∃ r p', trustquorumplay_Src_N.f L p n = some (r, p') ∧ 0 ≤ r ∧ r < n ∧ St L p' := by
  unfold trustquorumplay_Src_N.f
  by_cases h1 : p ≥ (L.length : Int)
  · exact ⟨0, p, by rw [if_pos h1], by omega, by omega, h⟩
  · have hp : p < L.length := by omega
    have h3 := h.len
    have h4 := h.lo
    have e1 : wrap64 (p + 1) = p + 1 := w64 (by omega) (by omega)
    have e2 : wrap64 ((p + 1) - 1) = p := by unfold wrap64; omega
    rw [if_neg h1, if_neg (by omega), e1, e2, if_pos h.lo, if_pos hp, if_neg (by omega)]
    have b1 := Int.tmod_lt_of_pos (rd L p) (show 0 < n by omega)
    have b2 := Int.lt_tmod_of_pos (rd L p) (show 0 < n by omega)
    have e3 : wrap64 (Int.tmod (rd L p) n + n) = Int.tmod (rd L p) n + n := w64 (by omega) (by omega)
    rw [e3]
    refine ⟨_, _, rfl, Int.tmod_nonneg _ (by omega), Int.tmod_lt_of_pos _ (by omega), ⟨h.len, by omega, by omega⟩⟩

def valOf : Nat → ByteArray
  | 0 => ⟨#[97]⟩
  | 1 => ⟨#[98]⟩
  | 2 => ⟨#[99]⟩
  | _ => ⟨#[97, 97]⟩

theorem Text4 {L : List Int} {p : Int} (h : St L p) : ∃ i p', trustquorumplay_Src_Text.f L p ([(⟨#[97]⟩ : ByteArray), (⟨#[98]⟩ : ByteArray), (⟨#[99]⟩ : ByteArray), (⟨#[97, 97]⟩ : ByteArray)] : List ByteArray) = some (valOf i, p') ∧ i < 4 ∧ St L p' := by
  obtain ⟨r, p', hr, h0, h1, hs⟩ := N_eq (n := 4) h (by omega) (by omega)
  obtain ⟨i, rfl⟩ := Int.eq_ofNat_of_zero_le h0
  refine ⟨i, p', ?_, by omega, hs⟩
  unfold trustquorumplay_Src_Text.f
  simp only [List.length_cons, List.length_nil, Nat.zero_add, Nat.reduceAdd]
  have e4 : (((4 : Nat) : Int)) = 4 := rfl
  rw [e4, hr]
  simp only [Option.bind_some]
  rw [if_pos (by omega), if_pos (by omega)]
  have : i = 0 ∨ i = 1 ∨ i = 2 ∨ i = 3 := by omega
  rcases this with rfl | rfl | rfl | rfl <;> rfl

theorem Value_eq {L : List Int} {p : Int} (h : St L p) : ∃ i p', trustquorumplay_Src_Value.f L p = some (valOf i, p') ∧ i < 4 ∧ St L p' := by
  obtain ⟨i, p', hr, hi, hs⟩ := Text4 h
  refine ⟨i, p', ?_, hi, hs⟩
  unfold trustquorumplay_Src_Value.f
  rw [hr]; rfl

-- the order of values and of ballots
def vlt (a b : ByteArray) : Bool := if a.size = b.size then Op.bytesLess a.toList b.toList else decide (a.size < b.size)
def blt (c : Int) (a : ByteArray) (d : Int) (b : ByteArray) : Bool := if c = d then vlt a b else decide (c < d)
def zer (c : Int) (a : ByteArray) : Bool := c == 0 && (a.toList == ([] : List UInt8))
def cmpt (a b : ByteArray) : Bool := a.toList == b.toList
def abt (c : Int) (a : ByteArray) (d : Int) (b : ByteArray) : Bool := !zer c a && !cmpt a b && blt d b c a
def cmi (a b : Int) : Int := if a < b then -1 else if b < a then 1 else 0
def cms (a b : ByteArray) : Int := if Op.bytesLess a.toList b.toList = true then -1 else if Op.bytesLess b.toList a.toList = true then 1 else 0
def cmv (a b : ByteArray) : Int := if cmi (a.size : Int) (b.size : Int) = 0 then cms a b else cmi (a.size : Int) (b.size : Int)

theorem cmi_eq (a b : Int) : cmp_Compare_int.f a b = some (cmi a b) := by
  unfold cmp_Compare_int.f cmp_isNaN_int.f cmi
  simp only [Option.bind_some, bne_self_eq_false, Bool.false_eq_true, if_false]
  split <;> (try rfl)
  split <;> (try rfl)

theorem cms_eq (a b : ByteArray) : cmp_Compare_string.f a b = some (cms a b) := by
  unfold cmp_Compare_string.f cmp_isNaN_string.f cms
  simp only [Option.bind_some, bne_self_eq_false, Bool.false_eq_true, if_false]
  split <;> (try rfl)
  split <;> (try rfl)

theorem or_eq (x y : Int) {k : Nat} (hk : 3 ≤ k) : cmp_Or_int.f k ([x, y] : List Int) = some (if x = 0 then y else x) := by
  obtain ⟨m, rfl⟩ : ∃ m, k = m + 3 := ⟨k - 3, by omega⟩
  have r0 : rd [x, y] 0 = x := rfl
  have r1 : rd [x, y] 1 = y := rfl
  have w1 : wrap64 (0 + 1) = 1 := by unfold wrap64; omega
  have w2 : wrap64 (1 + 1) = 2 := by unfold wrap64; omega
  have l2 : (([x, y] : List Int).length : Int) = 2 := rfl
  unfold cmp_Or_int.f
  rw [l2]
  simp only [cmp_Or_int.l0]
  rw [l2, w1, w2, r0, r1]
  simp only [show (0 : Int) < 2 from by omega, show (1 : Int) < 2 from by omega, show (0 : Int) ≤ 0 from by omega, show (0 : Int) ≤ 1 from by omega, if_true, show ¬ ((2 : Int) < 2) from by omega, if_false]
  by_cases hx : x = 0
  · rw [if_pos hx, if_pos hx]
    by_cases hy : y = 0
    · rw [if_pos hy, hy]
    · rw [if_neg hy]
  · rw [if_neg hx, if_neg hx]

theorem cmv_eq (a b : ByteArray) {k : Nat} (hk : 3 ≤ k) : ballots_CompareValues.f k a b = some (cmv a b) := by
  unfold ballots_CompareValues.f cmv
  rw [cmi_eq, cms_eq]
  simp only [Option.bind_some]
  rw [or_eq _ _ hk]
  rfl

theorem cmv_neg (a b : ByteArray) : decide (cmv a b < 0) = vlt a b := by
  unfold cmv cmi cms vlt
  by_cases h1 : a.size < b.size
  · have h2 : ¬ a.size = b.size := by omega
    have h3 : (a.size : Int) < (b.size : Int) := by omega
    simp [h1, h2, h3]
  · by_cases h2 : a.size = b.size
    · simp only [h2, Int.lt_irrefl, if_false, if_true]
      cases h : Op.bytesLess a.toList b.toList
      · simp only [Bool.false_eq_true, if_false]; split <;> rfl
      · rfl
    · have h3 : ¬ (a.size : Int) < (b.size : Int) := by omega
      have h4 : (b.size : Int) < (a.size : Int) := by omega
      simp [h1, h2, h3, h4]

theorem less_eq (c : Int) (a : ByteArray) (d : Int) (b : ByteArray) {k : Nat} (hk : 3 ≤ k) : ballots_Less.f k c a d b = some (blt c a d b) := by
  unfold ballots_Less.f ballots_Compare.f
  rw [cmi_eq, cmv_eq a b hk]
  simp only [Option.bind_some]
  rw [or_eq _ _ hk]
  simp only [Option.bind_some]
  unfold blt cmi
  by_cases h1 : c < d
  · have h2 : ¬ c = d := by omega
    simp [h1, h2]
  · by_cases h2 : c = d
    · simp only [h2, Int.lt_irrefl, if_false, if_true]; rw [cmv_neg]
    · have h3 : d < c := by omega
      simp [h1, h2, h3]

theorem zero_eq (c : Int) (a : ByteArray) : ballots_Zero.f c a = some (zer c a) := rfl
theorem compat_eq (c : Int) (a : ByteArray) (d : Int) (b : ByteArray) : ballots_Compatible.f c a d b = some (cmpt a b) := rfl
theorem aborts_eq (c : Int) (a : ByteArray) (d : Int) (b : ByteArray) {k : Nat} (hk : 3 ≤ k) : ballots_Aborts.f k c a d b = some (abt c a d b) := by
  unfold ballots_Aborts.f abt
  rw [zero_eq, compat_eq, less_eq _ _ _ _ hk]
  simp only [Option.bind_some]
  cases zer c a <;> cases cmpt a b <;> simp

-- the four values
theorem vlt_val : ∀ i, i < 4 → ∀ j, j < 4 → vlt (valOf i) (valOf j) = decide (i < j) := by decide +kernel
theorem cmpt_val : ∀ i, i < 4 → ∀ j, j < 4 → cmpt (valOf i) (valOf j) = decide (i = j) := by decide +kernel
theorem ne_val : ∀ i, i < 4 → ((valOf i).toList == ([] : List UInt8)) = false := by decide +kernel
theorem size_val : ∀ i, i < 4 → 1 ≤ (valOf i).size ∧ (valOf i).size ≤ 2 := by decide +kernel
theorem zer_val (c : Int) {i : Nat} (hi : i < 4) : zer c (valOf i) = false := by unfold zer; rw [ne_val i hi]; simp
theorem blt_val (c : Int) {i : Nat} (hi : i < 4) (d : Int) {j : Nat} (hj : j < 4) : blt c (valOf i) d (valOf j) = decide (c < d ∨ c = d ∧ i < j) := by
  unfold blt
  rw [vlt_val i hi j hj]
  by_cases h : c = d
  · simp [h]
  · simp [h]
theorem abt_val (c : Int) {i : Nat} (hi : i < 4) (d : Int) {j : Nat} (hj : j < 4) : abt c (valOf i) d (valOf j) = decide (i ≠ j ∧ (d < c ∨ d = c ∧ j < i)) := by
  unfold abt
  rw [zer_val c hi, cmpt_val i hi j hj, blt_val d hj c hi]
  by_cases h : i = j <;> simp [h]

theorem Range_eq {L : List Int} {p a b : Int} (h : St L p) (ha : -1000 ≤ a) (hab : a ≤ b) (hb : b ≤ 100000) : ∃ r p', trustquorumplay_Src_Range.f L p a b = some (r, p') ∧ a ≤ r ∧ r ≤ b ∧ St L p' := by
  have e1 : wrap64 (b - a) = b - a := w64 (by omega) (by omega)
  have e2 : wrap64 (b - a + 1) = b - a + 1 := w64 (by omega) (by omega)
  obtain ⟨r, p', hr, h0, h1, hs⟩ := N_eq (n := b - a + 1) h (by omega) (by omega)
  refine ⟨a + r, p', ?_, by omega, by omega, hs⟩
  unfold trustquorumplay_Src_Range.f
  rw [e1, e2, hr]
  simp only [Option.bind_some]
  rw [w64 (x := a + r) (by omega) (by omega)]

theorem Low_eq {L : List Int} {p : Int} (h : St L p) : ∃ c i p', trustquorumplay_Src_Low.f L p = some (c, valOf i, p') ∧ 1 ≤ c ∧ c ≤ 6 ∧ i < 4 ∧ St L p' := by
  obtain ⟨c, p1, h1, c0, c1, s1⟩ := Range_eq (a := 1) (b := 6) h (by omega) (by omega) (by omega)
  obtain ⟨i, p2, h2, hi, s2⟩ := Value_eq s1
  refine ⟨c, i, p2, ?_, c0, c1, hi, s2⟩
  unfold trustquorumplay_Src_Low.f
  rw [h1]; simp only [Option.bind_some]
  rw [h2]; rfl

theorem sane_eq {k : Nat} (hk : 20 ≤ k) : trustquorumlaw23_sane.f k = some true := by
  obtain ⟨m, rfl⟩ : ∃ m, k = m + 20 := ⟨k - 20, by omega⟩
  have z1 : zer 0 (⟨#[]⟩ : ByteArray) = true := by decide +kernel
  have a1 : abt 3 (⟨#[98]⟩ : ByteArray) 3 (⟨#[97]⟩ : ByteArray) = true := by decide +kernel
  have a2 : abt 3 (⟨#[98]⟩ : ByteArray) 2 (⟨#[99]⟩ : ByteArray) = true := by decide +kernel
  have a3 : abt 3 (⟨#[98]⟩ : ByteArray) 3 (⟨#[99]⟩ : ByteArray) = false := by decide +kernel
  have a4 : abt 4 (⟨#[98]⟩ : ByteArray) 2 (⟨#[97]⟩ : ByteArray) = true := by decide +kernel
  have a5 : abt 4 (⟨#[98]⟩ : ByteArray) 4 (⟨#[97]⟩ : ByteArray) = true := by decide +kernel
  have v1 : ballots_Valid.f 4 (⟨#[98]⟩ : ByteArray) = some true := by decide +kernel
  have v2 : ballots_Valid.f 0 (⟨#[]⟩ : ByteArray) = some false := by decide +kernel
  have hL : ballots_Lowest.f (m + 20) (⟨#[97]⟩ : ByteArray) 2 4 (⟨#[98]⟩ : ByteArray) 0 (⟨#[]⟩ : ByteArray) = some 5 := by
    unfold ballots_Lowest.f
    simp only [Option.bind_some]
    have l2 : ((([(⟨4, (⟨#[98]⟩ : ByteArray)⟩ : S26), (⟨0, (⟨#[]⟩ : ByteArray)⟩ : S26)] : List S26).length : Nat) : Int) = 2 := rfl
    have hm : mx 2 1 = 2 := by unfold mx; rfl
    rw [l2, hm]
    have r0 : rd_T26 [(⟨4, (⟨#[98]⟩ : ByteArray)⟩ : S26), (⟨0, (⟨#[]⟩ : ByteArray)⟩ : S26)] 0 = ⟨4, (⟨#[98]⟩ : ByteArray)⟩ := rfl
    have r1 : rd_T26 [(⟨4, (⟨#[98]⟩ : ByteArray)⟩ : S26), (⟨0, (⟨#[]⟩ : ByteArray)⟩ : S26)] 1 = ⟨0, (⟨#[]⟩ : ByteArray)⟩ := rfl
    have w1 : wrap64 (0 + 1) = 1 := by unfold wrap64; omega
    have w2 : wrap64 (1 + 1) = 2 := by unfold wrap64; omega
    have w3 : wrap64 (4 + 1) = 5 := by unfold wrap64; omega
    show ballots_Lowest.l0 ((m + 19) + 1) _ _ _ _ _ = _
    rw [ballots_Lowest.l0, if_pos (by omega), if_pos (by omega), if_pos (by rw [l2]; omega), r0]
    simp only [v1, Option.bind_some, if_true]
    rw [aborts_eq _ _ _ _ (by omega), a4]
    simp only [Option.bind_some, Bool.not_true]
    show ballots_Lowest.j1 ((m + 18) + 1) _ _ _ _ _ _ _ _ = _
    rw [ballots_Lowest.j1, aborts_eq _ _ _ _ (by omega), a5, w1, w3]
    simp only [Option.bind_some, Bool.false_eq_true, if_false, if_true]
    show ballots_Lowest.l0 ((m + 17) + 1) _ _ _ _ _ = _
    rw [ballots_Lowest.l0, if_pos (by omega), if_pos (by omega), if_pos (by rw [l2]; omega), r1]
    simp only [v2, Option.bind_some, Bool.false_eq_true, if_false]
    show ballots_Lowest.j1 ((m + 16) + 1) _ _ _ _ _ _ _ _ = _
    rw [ballots_Lowest.j1]
    simp only [if_true]
    rw [w2]
    show ballots_Lowest.l0 ((m + 15) + 1) _ _ _ _ _ = _
    rw [ballots_Lowest.l0, if_neg (by omega)]
  unfold trustquorumlaw23_sane.f
  rw [hL, aborts_eq _ _ _ _ (by omega), aborts_eq _ _ _ _ (by omega), aborts_eq _ _ _ _ (by omega), a1, a2, a3]
  rfl

def cov (c : Int) (a : ByteArray) (d : Int) (b : ByteArray) : Bool := !zer c a && cmpt a b && decide (c ≥ d)
theorem covers_eq (c : Int) (a : ByteArray) (d : Int) (b : ByteArray) : ballots_Covers.f c a d b = some (cov c a d b) := by
  unfold ballots_Covers.f cov
  rw [zero_eq, compat_eq]
  simp only [Option.bind_some]
  cases zer c a <;> cases cmpt a b <;> simp
theorem cov_val (c : Int) {i : Nat} (hi : i < 4) (d : Int) {j : Nat} (hj : j < 4) : cov c (valOf i) d (valOf j) = decide (i = j ∧ d ≤ c) := by
  unfold cov
  rw [zer_val c hi, cmpt_val i hi j hj]
  by_cases h : i = j <;> simp [h]
theorem zer_none : zer 0 (⟨#[]⟩ : ByteArray) = true := by decide +kernel
/-- prepared by one ballot alone -/
theorem prep_one (c : Int) {i : Nat} (hi : i < 4) (d : Int) {j : Nat} (hj : j < 4) (k : Nat) : ballots_Prepares.f k c (valOf i) 0 (⟨#[]⟩ : ByteArray) d (valOf j) = some (decide (i = j ∧ d ≤ c)) := by
  unfold ballots_Prepares.f
  have z : cov 0 (⟨#[]⟩ : ByteArray) d (valOf j) = false := by unfold cov; rw [zer_none]; rfl
  rw [covers_eq, covers_eq, zero_eq, cov_val c hi d hj, z, zer_none]
  simp only [Option.bind_some]
  by_cases h : i = j ∧ d ≤ c
  · rw [decide_eq_true h]; rfl
  · rw [decide_eq_false h]; rfl
theorem BallotsMore : trustquorumlaw23_BallotsMore.Pure := by
  intro l0 _ _ _
  obtain ⟨L, hL, s0⟩ := New_eq l0
  obtain ⟨c, i, p1, h1, c0, c1, hi, s1⟩ := Low_eq s0
  obtain ⟨d, j, p2, h2, d0, d1, hj, s2⟩ := Low_eq s1
  obtain ⟨n, p3, h3, n0, n1, s3⟩ := N_eq (n := 4) s2 (by omega) (by omega)
  refine ⟨100, ?_⟩
  unfold trustquorumlaw23_BallotsMore.f
  rw [hL]; simp only [Option.bind_some]
  rw [h1]; simp only [Option.bind_some]
  rw [h2]; simp only [Option.bind_some]
  rw [h3]; simp only [Option.bind_some]
  rw [w64 (x := c + n) (by omega) (by omega)]
  have sn := sane_eq (k := 100) (by omega)
  have p1 := prep_one c hi d hj 100
  have p2 := prep_one (c + n) hi d hj 100
  have v1 := covers_eq c (valOf i) d (valOf j)
  rw [cov_val c hi d hj] at v1
  have a1 := aborts_eq c (valOf i) d (valOf j) (k := 100) (by omega)
  rw [abt_val c hi d hj] at a1
  have a2 := aborts_eq (c + n) (valOf i) d (valOf j) (k := 100) (by omega)
  rw [abt_val (c + n) hi d hj] at a2
  by_cases h : i = j ∧ d ≤ c
  · rw [decide_eq_true h] at p1 v1
    rw [decide_eq_true (show i = j ∧ d ≤ c + n by omega)] at p2
    rw [decide_eq_false (by omega)] at a1 a2
    rw [p1]; simp only [Option.bind_some, if_true]
    rw [p2]; simp only [Option.bind_some, if_true]
    rw [v1]; simp only [Option.bind_some, if_true]
    rw [a2]; simp only [Option.bind_some, Bool.false_eq_true, if_false]
    rw [a1]; simp only [Option.bind_some, Bool.false_eq_true, if_false]
    rw [sn]; rfl
  · rw [decide_eq_false h] at p1 v1
    rw [p1]; simp only [Option.bind_some, Bool.false_eq_true, if_false]
    rw [v1]; simp only [Option.bind_some, Bool.false_eq_true, if_false]
    rw [a1]; simp only [Option.bind_some]
    by_cases h' : i ≠ j ∧ (d < c ∨ d = c ∧ j < i)
    · rw [decide_eq_true (show i ≠ j ∧ (d < c + n ∨ d = c + n ∧ j < i) by omega)] at a2
      rw [decide_eq_true h', if_pos rfl, a2]; simp only [Option.bind_some, if_true]
      rw [sn]; rfl
    · rw [decide_eq_false h', if_neg (by decide), sn]; rfl

end Go.Proofs.Ytogdpfmlldaeeaa.Pure
