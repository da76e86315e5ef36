/- For every list of numbers, three drawn ballots are in one order, and who has prepared a ballot has given up what is less and has another value: the statement over numbers and lists that the printed row asks. No condition. -/
import Derived.Test.YtogdpfmlldaeeaaQBallotsOrderx4
import Derived.OpenShut
set_option linter.unusedSimpArgs false
set_option linter.unusedVariables false
namespace Go.Proofs.Ytogdpfmlldaeeaa.Pure
open Go.RowKit Go.Proofs.Ytogdpfmlldaeeaa.QBallotsOrder Go.Proofs.YtogdpfmlldaeeaaW.PrintWords Go.Proofs.YtogdpfmlldaeeaaW.PrintLast Go.Proofs.YtogdpfmlldaeeaaW.PrintMore

-- plain facts on the source of numbers, on values and on ballots
theorem w64 {x : Int} (h : -9223372036854775808 ≤ x) (h' : x ≤ 9223372036854775807) : wrap64 x = x := by unfold wrap64; omega

structure St (L : List Int) (p : Int) : Prop where
  len : L.length ≤ 800
  lo : 0 ≤ p
  hi : p ≤ 800

theorem New_eq (l : List Int) : ∃ L, trustquorumplay_New.f l = some (L, 0) ∧ St L 0 := by
  unfold trustquorumplay_New.f
  have h0 : 0 ≤ mn (l.length : Int) 800 := by unfold mn; split <;> omega
  have h1 : mn (l.length : Int) 800 ≤ l.length := by unfold mn; split <;> omega
  have h2 : mn (l.length : Int) 800 ≤ 800 := by unfold mn; split <;> omega
  rw [if_pos h0, if_pos h1]
  refine ⟨_, rfl, ⟨?_, by omega, by omega⟩⟩
  rw [List.length_take]; omega

theorem N_eq {L : List Int} {p n : Int} (h : St L p) (hn : 1 ≤ n) (hn2 : n ≤ 1000000) : ∃ r p', trustquorumplay_Src_N.f L p n = some (r, p') ∧ 0 ≤ r ∧ r < n ∧ St L p' := by
  unfold trustquorumplay_Src_N.f
  by_cases h1 : p ≥ (L.length : Int)
  · exact ⟨0, p, by rw [if_pos h1], by omega, by omega, h⟩
  · have hp : p < L.length := by omega
    have h3 := h.len
    have h4 := h.lo
    have e1 : wrap64 (p + 1) = p + 1 := w64 (by omega) (by omega)
    have e2 : wrap64 ((p + 1) - 1) = p := by unfold wrap64; omega
    rw [if_neg h1, if_neg (by omega), e1, e2, if_pos h.lo, if_pos hp, if_neg (by omega)]
    have b1 := Int.tmod_lt_of_pos (rd L p) (show 0 < n by omega)
    have b2 := Int.lt_tmod_of_pos (rd L p) (show 0 < n by omega)
    have e3 : wrap64 (Int.tmod (rd L p) n + n) = Int.tmod (rd L p) n + n := w64 (by omega) (by omega)
    rw [e3]
    refine ⟨_, _, rfl, Int.tmod_nonneg _ (by omega), Int.tmod_lt_of_pos _ (by omega), ⟨h.len, by omega, by omega⟩⟩

def valOf : Nat → ByteArray
  | 0 => ⟨#[97]⟩
  | 1 => ⟨#[98]⟩
  | 2 => ⟨#[99]⟩
  | _ => ⟨#[97, 97]⟩

theorem Text4 {L : List Int} {p : Int} (h : St L p) : ∃ i p', trustquorumplay_Src_Text.f L p ([(⟨#[97]⟩ : ByteArray), (⟨#[98]⟩ : ByteArray), (⟨#[99]⟩ : ByteArray), (⟨#[97, 97]⟩ : ByteArray)] : List ByteArray) = some (valOf i, p') ∧ i < 4 ∧ St L p' := by
  obtain ⟨r, p', hr, h0, h1, hs⟩ := N_eq (n := 4) h (by omega) (by omega)
  obtain ⟨i, rfl⟩ := Int.eq_ofNat_of_zero_le h0
  refine ⟨i, p', ?_, by omega, hs⟩
  unfold trustquorumplay_Src_Text.f
  simp only [List.length_cons, List.length_nil, Nat.zero_add, Nat.reduceAdd]
  have e4 : (((4 : Nat) : Int)) = 4 := rfl
  rw [e4, hr]
  simp only [Option.bind_some]
  rw [if_pos (by omega), if_pos (by omega)]
  have : i = 0 ∨ i = 1 ∨ i = 2 ∨ i = 3 := by omega
  rcases this with rfl | rfl | rfl | rfl <;> rfl

theorem Value_eq {L : List Int} {p : Int} (h : St L p) : ∃ i p', trustquorumplay_Src_Value.f L p = some (valOf i, p') ∧ i < 4 ∧ St L p' := by
  obtain ⟨i, p', hr, hi, hs⟩ := Text4 h
  refine ⟨i, p', ?_, hi, hs⟩
  unfold trustquorumplay_Src_Value.f
  rw [hr]; rfl

-- the order of values and of ballots
def vlt (a b : ByteArray) : Bool := if a.size = b.size then Op.bytesLess a.toList b.toList else decide (a.size < b.size)
def blt (c : Int) (a : ByteArray) (d : Int) (b : ByteArray) : Bool := if c = d then vlt a b else decide (c < d)
def zer (c : Int) (a : ByteArray) : Bool := c == 0 && (a.toList == ([] : List UInt8))
def cmpt (a b : ByteArray) : Bool := a.toList == b.toList
def abt (c : Int) (a : ByteArray) (d : Int) (b : ByteArray) : Bool := !zer c a && !cmpt a b && blt d b c a
def cmi (a b : Int) : Int := if a < b then -1 else if b < a then 1 else 0
def cms (a b : ByteArray) : Int := if Op.bytesLess a.toList b.toList = true then -1 else if Op.bytesLess b.toList a.toList = true then 1 else 0
def cmv (a b : ByteArray) : Int := if cmi (a.size : Int) (b.size : Int) = 0 then cms a b else cmi (a.size : Int) (b.size : Int)

theorem cmi_eq (a b : Int) : cmp_Compare_int.f a b = some (cmi a b) := by
  unfold cmp_Compare_int.f cmp_isNaN_int.f cmi
  simp only [Option.bind_some, bne_self_eq_false, Bool.false_eq_true, if_false]
  split <;> (try rfl)
  split <;> (try rfl)

theorem cms_eq (a b : ByteArray) : cmp_Compare_string.f a b = some (cms a b) := by
  unfold cmp_Compare_string.f cmp_isNaN_string.f cms
  simp only [Option.bind_some, bne_self_eq_false, Bool.false_eq_true, if_false]
  split <;> (try rfl)
  split <;> (try rfl)

theorem or_eq (x y : Int) {k : Nat} (hk : 3 ≤ k) : cmp_Or_int.f k ([x, y] : List Int) = some (if x = 0 then y else x) := by
  obtain ⟨m, rfl⟩ : ∃ m, k = m + 3 := ⟨k - 3, by omega⟩
  have r0 : rd [x, y] 0 = x := rfl
  have r1 : rd [x, y] 1 = y := rfl
  have w1 : wrap64 (0 + 1) = 1 := by unfold wrap64; omega
  have w2 : wrap64 (1 + 1) = 2 := by unfold wrap64; omega
  have l2 : (([x, y] : List Int).length : Int) = 2 := rfl
  unfold cmp_Or_int.f
  rw [l2]
  simp only [cmp_Or_int.l0]
  rw [l2, w1, w2, r0, r1]
  simp only [show (0 : Int) < 2 from by omega, show (1 : Int) < 2 from by omega, show (0 : Int) ≤ 0 from by omega, show (0 : Int) ≤ 1 from by omega, if_true, show ¬ ((2 : Int) < 2) from by omega, if_false]
  by_cases hx : x = 0
  · rw [if_pos hx, if_pos hx]
    by_cases hy : y = 0
    · rw [if_pos hy, hy]
    · rw [if_neg hy]
  · rw [if_neg hx, if_neg hx]

theorem cmv_eq (a b : ByteArray) {k : Nat} (hk : 3 ≤ k) : ballots_CompareValues.f k a b = some (cmv a b) := by
  unfold ballots_CompareValues.f cmv
  rw [cmi_eq, cms_eq]
  simp only [Option.bind_some]
  rw [or_eq _ _ hk]
  rfl

theorem cmv_neg (a b : ByteArray) : decide (cmv a b < 0) = vlt a b := by
  unfold cmv cmi cms vlt
  by_cases h1 : a.size < b.size
  · have h2 : ¬ a.size = b.size := by omega
    have h3 : (a.size : Int) < (b.size : Int) := by omega
    simp [h1, h2, h3]
  · by_cases h2 : a.size = b.size
    · simp only [h2, Int.lt_irrefl, if_false, if_true]
      cases h : Op.bytesLess a.toList b.toList
      · simp only [Bool.false_eq_true, if_false]; split <;> rfl
      · rfl
    · have h3 : ¬ (a.size : Int) < (b.size : Int) := by omega
      have h4 : (b.size : Int) < (a.size : Int) := by omega
      simp [h1, h2, h3, h4]

theorem less_eq (c : Int) (a : ByteArray) (d : Int) (b : ByteArray) {k : Nat} (hk : 3 ≤ k) : ballots_Less.f k c a d b = some (blt c a d b) := by
  unfold ballots_Less.f ballots_Compare.f
  rw [cmi_eq, cmv_eq a b hk]
  simp only [Option.bind_some]
  rw [or_eq _ _ hk]
  simp only [Option.bind_some]
  unfold blt cmi
  by_cases h1 : c < d
  · have h2 : ¬ c = d := by omega
    simp [h1, h2]
  · by_cases h2 : c = d
    · simp only [h2, Int.lt_irrefl, if_false, if_true]; rw [cmv_neg]
    · have h3 : d < c := by omega
      simp [h1, h2, h3]

theorem zero_eq (c : Int) (a : ByteArray) : ballots_Zero.f c a = some (zer c a) := rfl
theorem compat_eq (c : Int) (a : ByteArray) (d : Int) (b : ByteArray) : ballots_Compatible.f c a d b = some (cmpt a b) := rfl
theorem aborts_eq (c : Int) (a : ByteArray) (d : Int) (b : ByteArray) {k : Nat} (hk : 3 ≤ k) : ballots_Aborts.f k c a d b = some (abt c a d b) := by
  unfold ballots_Aborts.f abt
  rw [zero_eq, compat_eq, less_eq _ _ _ _ hk]
  simp only [Option.bind_some]
  cases zer c a <;> cases cmpt a b <;> simp

-- the four values
theorem vlt_val : ∀ i, i < 4 → ∀ j, j < 4 → vlt (valOf i) (valOf j) = decide (i < j) := by decide +kernel
theorem cmpt_val : ∀ i, i < 4 → ∀ j, j < 4 → cmpt (valOf i) (valOf j) = decide (i = j) := by decide +kernel
theorem ne_val : ∀ i, i < 4 → ((valOf i).toList == ([] : List UInt8)) = false := by decide +kernel
theorem size_val : ∀ i, i < 4 → 1 ≤ (valOf i).size ∧ (valOf i).size ≤ 2 := by decide +kernel
theorem zer_val (c : Int) {i : Nat} (hi : i < 4) : zer c (valOf i) = false := by unfold zer; rw [ne_val i hi]; simp
theorem blt_val (c : Int) {i : Nat} (hi : i < 4) (d : Int) {j : Nat} (hj : j < 4) : blt c (valOf i) d (valOf j) = decide (c < d ∨ c = d ∧ i < j) := by
  unfold blt
  rw [vlt_val i hi j hj]
  by_cases h : c = d
  · simp [h]
  · simp [h]
theorem abt_val (c : Int) {i : Nat} (hi : i < 4) (d : Int) {j : Nat} (hj : j < 4) : abt c (valOf i) d (valOf j) = decide (i ≠ j ∧ (d < c ∨ d = c ∧ j < i)) := by
  unfold abt
  rw [zer_val c hi, cmpt_val i hi j hj, blt_val d hj c hi]
  by_cases h : i = j <;> simp [h]

theorem sane_eq {k : Nat} (hk : 20 ≤ k) : trustquorumlaw23_sane.f k = some true := by
  obtain ⟨m, rfl⟩ : ∃ m, k = m + 20 := ⟨k - 20, by omega⟩
  have z1 : zer 0 (⟨#[]⟩ : ByteArray) = true := by decide +kernel
  have a1 : abt 3 (⟨#[98]⟩ : ByteArray) 3 (⟨#[97]⟩ : ByteArray) = true := by decide +kernel
  have a2 : abt 3 (⟨#[98]⟩ : ByteArray) 2 (⟨#[99]⟩ : ByteArray) = true := by decide +kernel
  have a3 : abt 3 (⟨#[98]⟩ : ByteArray) 3 (⟨#[99]⟩ : ByteArray) = false := by decide +kernel
  have a4 : abt 4 (⟨#[98]⟩ : ByteArray) 2 (⟨#[97]⟩ : ByteArray) = true := by decide +kernel
  have a5 : abt 4 (⟨#[98]⟩ : ByteArray) 4 (⟨#[97]⟩ : ByteArray) = true := by decide +kernel
  have v1 : ballots_Valid.f 4 (⟨#[98]⟩ : ByteArray) = some true := by decide +kernel
  have v2 : ballots_Valid.f 0 (⟨#[]⟩ : ByteArray) = some false := by decide +kernel
  have hL : ballots_Lowest.f (m + 20) (⟨#[97]⟩ : ByteArray) 2 4 (⟨#[98]⟩ : ByteArray) 0 (⟨#[]⟩ : ByteArray) = some 5 := by
    unfold ballots_Lowest.f
    simp only [Option.bind_some]
    have l2 : ((([(⟨4, (⟨#[98]⟩ : ByteArray)⟩ : S26), (⟨0, (⟨#[]⟩ : ByteArray)⟩ : S26)] : List S26).length : Nat) : Int) = 2 := rfl
    have hm : mx 2 1 = 2 := by unfold mx; rfl
    rw [l2, hm]
    have r0 : rd_T26 [(⟨4, (⟨#[98]⟩ : ByteArray)⟩ : S26), (⟨0, (⟨#[]⟩ : ByteArray)⟩ : S26)] 0 = ⟨4, (⟨#[98]⟩ : ByteArray)⟩ := rfl
    have r1 : rd_T26 [(⟨4, (⟨#[98]⟩ : ByteArray)⟩ : S26), (⟨0, (⟨#[]⟩ : ByteArray)⟩ : S26)] 1 = ⟨0, (⟨#[]⟩ : ByteArray)⟩ := rfl
    have w1 : wrap64 (0 + 1) = 1 := by unfold wrap64; omega
    have w2 : wrap64 (1 + 1) = 2 := by unfold wrap64; omega
    have w3 : wrap64 (4 + 1) = 5 := by unfold wrap64; omega
    show ballots_Lowest.l0 ((m + 19) + 1) _ _ _ _ _ = _
    rw [ballots_Lowest.l0, if_pos (by omega), if_pos (by omega), if_pos (by rw [l2]; omega), r0]
    simp only [v1, Option.bind_some, if_true]
    rw [aborts_eq _ _ _ _ (by omega), a4]
    simp only [Option.bind_some, Bool.not_true]
    show ballots_Lowest.j1 ((m + 18) + 1) _ _ _ _ _ _ _ _ = _
    rw [ballots_Lowest.j1, aborts_eq _ _ _ _ (by omega), a5, w1, w3]
    simp only [Option.bind_some, Bool.false_eq_true, if_false, if_true]
    show ballots_Lowest.l0 ((m + 17) + 1) _ _ _ _ _ = _
    rw [ballots_Lowest.l0, if_pos (by omega), if_pos (by omega), if_pos (by rw [l2]; omega), r1]
    simp only [v2, Option.bind_some, Bool.false_eq_true, if_false]
    show ballots_Lowest.j1 ((m + 16) + 1) _ _ _ _ _ _ _ _ = _
    rw [ballots_Lowest.j1]
    simp only [if_true]
    rw [w2]
    show ballots_Lowest.l0 ((m + 15) + 1) _ _ _ _ _ = _
    rw [ballots_Lowest.l0, if_neg (by omega)]
  unfold trustquorumlaw23_sane.f
  rw [hL, aborts_eq _ _ _ _ (by omega), aborts_eq _ _ _ _ (by omega), aborts_eq _ _ _ _ (by omega), a1, a2, a3]
  rfl

theorem Pick7 {L : List Int} {p : Int} (h : St L p) : ∃ c p', trustquorumplay_Src_Pick.f L p ([1, 2, 3, 4, 5, 1000, 1000000] : List Int) = some (c, p') ∧ 1 ≤ c ∧ St L p' := by
  obtain ⟨r, p', hr, h0, h1, hs⟩ := N_eq (n := 7) h (by omega) (by omega)
  have l7 : ((([1, 2, 3, 4, 5, 1000, 1000000] : List Int).length : Nat) : Int) = 7 := rfl
  unfold trustquorumplay_Src_Pick.f
  rw [l7, hr]
  simp only [Option.bind_some]
  rw [if_pos h0, if_pos h1]
  refine ⟨_, _, rfl, ?_, hs⟩
  have : r = 0 ∨ r = 1 ∨ r = 2 ∨ r = 3 ∨ r = 4 ∨ r = 5 ∨ r = 6 := by omega
  rcases this with rfl | rfl | rfl | rfl | rfl | rfl | rfl <;> decide
theorem Ballot_eq {L : List Int} {p : Int} (h : St L p) : ∃ c i p', trustquorumplay_Src_Ballot.f L p = some (c, valOf i, p') ∧ i < 4 ∧ 1 ≤ c ∧ St L p' := by
  obtain ⟨c, p1, h1, hc, s1⟩ := Pick7 h
  obtain ⟨i, p2, h2, hi, s2⟩ := Value_eq s1
  refine ⟨c, i, p2, ?_, hi, hc, s2⟩
  unfold trustquorumplay_Src_Ballot.f
  rw [h1]; simp only [Option.bind_some]
  rw [h2]; rfl

def cov (c : Int) (a : ByteArray) (d : Int) (b : ByteArray) : Bool := !zer c a && cmpt a b && decide (c ≥ d)
theorem covers_eq (c : Int) (a : ByteArray) (d : Int) (b : ByteArray) : ballots_Covers.f c a d b = some (cov c a d b) := by
  unfold ballots_Covers.f cov
  rw [zero_eq, compat_eq]
  simp only [Option.bind_some]
  cases zer c a <;> cases cmpt a b <;> simp
theorem cov_val (c : Int) {i : Nat} (hi : i < 4) (d : Int) {j : Nat} (hj : j < 4) : cov c (valOf i) d (valOf j) = decide (i = j ∧ d ≤ c) := by
  unfold cov
  rw [zer_val c hi, cmpt_val i hi j hj]
  by_cases h : i = j <;> simp [h]
theorem lessV (c : Int) {i : Nat} (hi : i < 4) (d : Int) {j : Nat} (hj : j < 4) {k : Nat} (hk : 3 ≤ k) : ballots_Less.f k c (valOf i) d (valOf j) = some (decide (c < d ∨ c = d ∧ i < j)) := by rw [less_eq _ _ _ _ hk, blt_val c hi d hj]
theorem covV (c : Int) {i : Nat} (hi : i < 4) (d : Int) {j : Nat} (hj : j < 4) : ballots_Covers.f c (valOf i) d (valOf j) = some (decide (i = j ∧ d ≤ c)) := by rw [covers_eq, cov_val c hi d hj]
theorem abtV (c : Int) {i : Nat} (hi : i < 4) (d : Int) {j : Nat} (hj : j < 4) {k : Nat} (hk : 3 ≤ k) : ballots_Aborts.f k c (valOf i) d (valOf j) = some (decide (i ≠ j ∧ (d < c ∨ d = c ∧ j < i))) := by rw [aborts_eq _ _ _ _ hk, abt_val c hi d hj]
theorem j2_eq (c : Int) {i : Nat} (hi : i < 4) (d : Int) {j : Nat} (hj : j < 4) {k : Nat} (hk : 30 ≤ k) : trustquorumlaw23_BallotsOrder.j2 k false c (valOf i) d (valOf j) = some true := by
  obtain ⟨k, rfl⟩ : ∃ m, k = m + 1 := ⟨k - 1, by omega⟩
  rw [trustquorumlaw23_BallotsOrder.j2, if_neg (by decide), compat_eq]
  simp only [Option.bind_some]
  unfold cmpt
  rw [beq_self_eq_true, if_pos rfl, covV c hi c hi, decide_eq_true (by omega)]
  simp only [Option.bind_some, if_true]
  rw [abtV c hi c hi (by omega), decide_eq_false (by omega)]
  simp only [Option.bind_some, Bool.false_eq_true, if_false]
  rw [sane_eq (by omega)]; rfl
theorem j1_eq (c : Int) {i : Nat} (hi : i < 4) (d : Int) {j : Nat} (hj : j < 4) (e : Int) {l : Nat} (hl : l < 4) {k : Nat} (hk : 40 ≤ k) : trustquorumlaw23_BallotsOrder.j1 k false c (valOf i) d (valOf j) e (valOf l) = some true := by
  obtain ⟨k, rfl⟩ : ∃ m, k = m + 1 := ⟨k - 1, by omega⟩
  have J := j2_eq c hi d hj (k := k) (by omega)
  have tail : ((ballots_Covers.f c (valOf i) d (valOf j)).bind fun t205 => (if t205 = true then ((ballots_Covers.f d (valOf j) e (valOf l)).bind fun t206 => (if t206 = true then ((ballots_Covers.f c (valOf i) e (valOf l)).bind fun t207 => (trustquorumlaw23_BallotsOrder.j2 k (!t207) c (valOf i) d (valOf j))) else (trustquorumlaw23_BallotsOrder.j2 k false c (valOf i) d (valOf j)))) else (trustquorumlaw23_BallotsOrder.j2 k false c (valOf i) d (valOf j)))) = some true := by
    rw [covV c hi d hj, covV d hj e hl, covV c hi e hl]
    simp only [Option.bind_some]
    by_cases h1 : i = j ∧ d ≤ c
    · rw [decide_eq_true h1, if_pos rfl]
      by_cases h2 : j = l ∧ e ≤ d
      · rw [decide_eq_true h2, if_pos rfl, decide_eq_true (show i = l ∧ e ≤ c by omega)]; exact J
      · rw [decide_eq_false h2, if_neg (by decide)]; exact J
    · rw [decide_eq_false h1, if_neg (by decide)]; exact J
  rw [trustquorumlaw23_BallotsOrder.j1, if_neg (by decide), tail, abtV c hi d hj (by omega), abtV c hi e hl (by omega), covV d hj e hl]
  simp only [Option.bind_some]
  rw [covV d hj e hl] at tail
  simp only [Option.bind_some] at tail
  by_cases h1 : i ≠ j ∧ (d < c ∨ d = c ∧ j < i)
  · rw [decide_eq_true h1, if_pos rfl]
    by_cases h2 : j = l ∧ e ≤ d
    · rw [decide_eq_true h2, if_pos rfl, decide_eq_true (show i ≠ l ∧ (e < c ∨ e = c ∧ l < i) by omega), if_pos rfl]
    · rw [decide_eq_false h2, if_neg (by decide)]
  · rw [decide_eq_false h1, if_neg (by decide)]
theorem fin_eq (p : Bool × Bool × Bool) (c : Int) {i : Nat} (hi : i < 4) (d : Int) {j : Nat} (hj : j < 4) (e : Int) {l : Nat} (hl : l < 4) {k : Nat} (hk : 50 ≤ k) : trustquorumlaw23_BallotsOrder.l0 k 1 p 3 c (valOf i) d (valOf j) e (valOf l) = some true := by
  obtain ⟨k, rfl⟩ : ∃ m, k = m + 1 := ⟨k - 1, by omega⟩
  have J := j1_eq c hi d hj e hl (k := k) (by omega)
  have tail : ((ballots_Covers.f c (valOf i) d (valOf j)).bind fun t197 => (if t197 = true then ((ballots_Aborts.f k c (valOf i) d (valOf j)).bind fun t198 => (trustquorumlaw23_BallotsOrder.j1 k t198 c (valOf i) d (valOf j) e (valOf l))) else (trustquorumlaw23_BallotsOrder.j1 k false c (valOf i) d (valOf j) e (valOf l)))) = some true := by
    rw [covV c hi d hj, abtV c hi d hj (by omega)]
    simp only [Option.bind_some]
    by_cases h1 : i = j ∧ d ≤ c
    · rw [decide_eq_true h1, if_pos rfl, decide_eq_false (by omega)]; exact J
    · rw [decide_eq_false h1, if_neg (by decide)]; exact J
  rw [trustquorumlaw23_BallotsOrder.l0, if_neg (by omega), if_pos rfl, tail, lessV c hi d hj (by omega), lessV d hj e hl (by omega), lessV c hi e hl (by omega)]
  simp only [Option.bind_some]
  by_cases h1 : c < d ∨ c = d ∧ i < j
  · rw [decide_eq_true h1, if_pos rfl]
    by_cases h2 : d < e ∨ d = e ∧ j < l
    · rw [decide_eq_true h2, if_pos rfl, decide_eq_true (show c < e ∨ c = e ∧ i < l by omega), if_pos rfl]
    · rw [decide_eq_false h2, if_neg (by decide)]
  · rw [decide_eq_false h1, if_neg (by decide)]
theorem BallotsOrder : trustquorumlaw23_BallotsOrder.Pure := by
  intro l0 _ _ _
  obtain ⟨L, hL, s0⟩ := New_eq l0
  obtain ⟨c, i, p1, h1, hi, _, s1⟩ := Ballot_eq s0
  obtain ⟨d, j, p2, h2, hj, _, s2⟩ := Ballot_eq s1
  obtain ⟨e, l, p3, h3, hl, _, s3⟩ := Ballot_eq s2
  obtain ⟨K, hK⟩ : ∃ K : Nat, 100 ≤ K := ⟨100, Nat.le_refl _⟩
  refine ⟨K + 3, ?_⟩
  unfold trustquorumlaw23_BallotsOrder.f
  rw [hL]; simp only [Option.bind_some]
  rw [h1]; simp only [Option.bind_some]
  rw [h2]; simp only [Option.bind_some]
  rw [h3]; simp only [Option.bind_some]
  rw [lessV c hi d hj (by omega), lessV d hj c hi (by omega)]
  simp only [Option.bind_some]
  have ec := cmpt_val i hi j hj
  unfold cmpt at ec
  rw [ec]
  have w0 : wrap64 (0 + 1) = 1 := by unfold wrap64; omega
  have w1 : wrap64 (1 + 1) = 2 := by unfold wrap64; omega
  have w2 : wrap64 (2 + 1) = 3 := by unfold wrap64; omega
  have F (p : Bool × Bool × Bool) := fin_eq p c hi d hj e hl (k := K) (by omega)
  have three : ∀ p : Bool × Bool × Bool, (p = (true, false, false) ∨ p = (false, true, false) ∨ p = (false, false, true)) → trustquorumlaw23_BallotsOrder.l0 (K + 3) 0 p 0 c (valOf i) d (valOf j) e (valOf l) = some true := by
    intro p hp
    rcases hp with rfl | rfl | rfl
    · rw [trustquorumlaw23_BallotsOrder.l0, if_pos (by omega), if_pos (by omega), if_pos (show rda3t (true, false, false) 0 = true by decide), w0, trustquorumlaw23_BallotsOrder.l0, if_pos (by omega), if_pos (by omega), if_neg (show ¬ rda3t (true, false, false) 1 = true by decide), w1, trustquorumlaw23_BallotsOrder.l0, if_pos (by omega), if_pos (by omega), if_neg (show ¬ rda3t (true, false, false) 2 = true by decide), w2]
      exact F _
    · rw [trustquorumlaw23_BallotsOrder.l0, if_pos (by omega), if_pos (by omega), if_neg (show ¬ rda3t (false, true, false) 0 = true by decide), w0, trustquorumlaw23_BallotsOrder.l0, if_pos (by omega), if_pos (by omega), if_pos (show rda3t (false, true, false) 1 = true by decide), w0, w1, trustquorumlaw23_BallotsOrder.l0, if_pos (by omega), if_pos (by omega), if_neg (show ¬ rda3t (false, true, false) 2 = true by decide), w2]
      exact F _
    · rw [trustquorumlaw23_BallotsOrder.l0, if_pos (by omega), if_pos (by omega), if_neg (show ¬ rda3t (false, false, true) 0 = true by decide), w0, trustquorumlaw23_BallotsOrder.l0, if_pos (by omega), if_pos (by omega), if_neg (show ¬ rda3t (false, false, true) 1 = true by decide), w1, trustquorumlaw23_BallotsOrder.l0, if_pos (by omega), if_pos (by omega), if_pos (show rda3t (false, false, true) 2 = true by decide), w0, w2]
      exact F _
  refine three _ ?_
  by_cases q1 : c < d ∨ c = d ∧ i < j
  · refine .inl ?_
    rw [decide_eq_true q1, decide_eq_false (show ¬ (d < c ∨ d = c ∧ j < i) by omega)]
    congr 2
    by_cases q : c = d
    · rw [decide_eq_false (show ¬ i = j by omega), Bool.and_false]
    · rw [beq_eq_false_iff_ne.2 q, Bool.false_and]
  · by_cases q2 : d < c ∨ d = c ∧ j < i
    · refine .inr (.inl ?_)
      rw [decide_eq_false q1, decide_eq_true q2]
      congr 2
      by_cases q : c = d
      · rw [decide_eq_false (show ¬ i = j by omega), Bool.and_false]
      · rw [beq_eq_false_iff_ne.2 q, Bool.false_and]
    · refine .inr (.inr ?_)
      rw [decide_eq_false q1, decide_eq_false q2, beq_iff_eq.2 (show c = d by omega), decide_eq_true (show i = j by omega)]
      rfl

end Go.Proofs.Ytogdpfmlldaeeaa.Pure
