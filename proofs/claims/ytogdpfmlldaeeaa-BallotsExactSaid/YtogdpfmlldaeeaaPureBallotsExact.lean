/- For every list of numbers, ballots and numbers whose texts are short, the functions of package ballots answer as the reference does: the statement over numbers and lists that the printed row asks. No condition. -/
import Derived.Test.YtogdpfmlldaeeaaQBallotsExactx6
import Derived.OpenShut
set_option linter.unusedSimpArgs false
set_option linter.unusedVariables false
namespace Go.Proofs.Ytogdpfmlldaeeaa.Pure
open Go.RowKit Go.Proofs.Ytogdpfmlldaeeaa.QBallotsExact Go.Proofs.YtogdpfmlldaeeaaW.PrintWords Go.Proofs.YtogdpfmlldaeeaaW.PrintLast Go.Proofs.YtogdpfmlldaeeaaW.PrintMore

-- plain facts on the source of numbers, on values and on ballots
theorem w64 {x : Int} (h : -9223372036854775808 ≤ x) (h' : x ≤ 9223372036854775807) : wrap64 x = x := by unfold wrap64; omega

structure St (L : List Int) (p : Int) : Prop where
  len : L.length ≤ 800
  lo : 0 ≤ p
  hi : p ≤ 800

theorem New_eq (l : List Int) : ∃ L, trustquorumplay_New.f l = some (L, 0) ∧ St L 0 := by
  unfold trustquorumplay_New.f
  have h0 : 0 ≤ mn (l.length : Int) 800 := by unfold mn; split <;> omega
  have h1 : mn (l.length : Int) 800 ≤ l.length := by unfold mn; split <;> omega
  have h2 : mn (l.length : Int) 800 ≤ 800 := by unfold mn; split <;> omega
  rw [if_pos h0, if_pos h1]
  refine ⟨_, rfl, ⟨?_, by omega, by omega⟩⟩
  rw [List.length_take]; omega

theorem N_eq {L : List Int} {p n : Int} (h : St L p) (hn : 1 ≤ n) (hn2 : n ≤ 1000000) : ∃ r p', trustquorumplay_Src_N.f L p n = some (r, p') ∧ 0 ≤ r ∧ r < n ∧ St L p' := by
  unfold trustquorumplay_Src_N.f
  by_cases h1 : p ≥ (L.length : Int)
  · exact ⟨0, p, by rw [if_pos h1], by omega, by omega, h⟩
  · have hp : p < L.length := by omega
    have h3 := h.len
    have h4 := h.lo
    have e1 : wrap64 (p + 1) = p + 1 := w64 (by omega) (by omega)
    have e2 : wrap64 ((p + 1) - 1) = p := by unfold wrap64; omega
    rw [if_neg h1, if_neg (by omega), e1, e2, if_pos h.lo, if_pos hp, if_neg (by omega)]
    have b1 := Int.tmod_lt_of_pos (rd L p) (show 0 < n by omega)
    have b2 := Int.lt_tmod_of_pos (rd L p) (show 0 < n by omega)
    have e3 : wrap64 (Int.tmod (rd L p) n + n) = Int.tmod (rd L p) n + n := w64 (by omega) (by omega)
    rw [e3]
    refine ⟨_, _, rfl, Int.tmod_nonneg _ (by omega), Int.tmod_lt_of_pos _ (by omega), ⟨h.len, by omega, by omega⟩⟩

def valOf : Nat → ByteArray
  | 0 => ⟨#[97]⟩
  | 1 => ⟨#[98]⟩
  | 2 => ⟨#[99]⟩
  | _ => ⟨#[97, 97]⟩

theorem Text4 {L : List Int} {p : Int} (h : St L p) : ∃ i p', trustquorumplay_Src_Text.f L p ([(⟨#[97]⟩ : ByteArray), (⟨#[98]⟩ : ByteArray), (⟨#[99]⟩ : ByteArray), (⟨#[97, 97]⟩ : ByteArray)] : List ByteArray) = some (valOf i, p') ∧ i < 4 ∧ St L p' := by
  obtain ⟨r, p', hr, h0, h1, hs⟩ := N_eq (n := 4) h (by omega) (by omega)
  obtain ⟨i, rfl⟩ := Int.eq_ofNat_of_zero_le h0
  refine ⟨i, p', ?_, by omega, hs⟩
  unfold trustquorumplay_Src_Text.f
  simp only [List.length_cons, List.length_nil, Nat.zero_add, Nat.reduceAdd]
  have e4 : (((4 : Nat) : Int)) = 4 := rfl
  rw [e4, hr]
  simp only [Option.bind_some]
  rw [if_pos (by omega), if_pos (by omega)]
  have : i = 0 ∨ i = 1 ∨ i = 2 ∨ i = 3 := by omega
  rcases this with rfl | rfl | rfl | rfl <;> rfl

theorem Value_eq {L : List Int} {p : Int} (h : St L p) : ∃ i p', trustquorumplay_Src_Value.f L p = some (valOf i, p') ∧ i < 4 ∧ St L p' := by
  obtain ⟨i, p', hr, hi, hs⟩ := Text4 h
  refine ⟨i, p', ?_, hi, hs⟩
  unfold trustquorumplay_Src_Value.f
  rw [hr]; rfl

-- the order of values and of ballots
def vlt (a b : ByteArray) : Bool := if a.size = b.size then Op.bytesLess a.toList b.toList else decide (a.size < b.size)
def blt (c : Int) (a : ByteArray) (d : Int) (b : ByteArray) : Bool := if c = d then vlt a b else decide (c < d)
def zer (c : Int) (a : ByteArray) : Bool := c == 0 && (a.toList == ([] : List UInt8))
def cmpt (a b : ByteArray) : Bool := a.toList == b.toList
def abt (c : Int) (a : ByteArray) (d : Int) (b : ByteArray) : Bool := !zer c a && !cmpt a b && blt d b c a
def cmi (a b : Int) : Int := if a < b then -1 else if b < a then 1 else 0
def cms (a b : ByteArray) : Int := if Op.bytesLess a.toList b.toList = true then -1 else if Op.bytesLess b.toList a.toList = true then 1 else 0
def cmv (a b : ByteArray) : Int := if cmi (a.size : Int) (b.size : Int) = 0 then cms a b else cmi (a.size : Int) (b.size : Int)

theorem cmi_eq (a b : Int) : cmp_Compare_int.f a b = some (cmi a b) := by
  unfold cmp_Compare_int.f cmp_isNaN_int.f cmi
  simp only [Option.bind_some, bne_self_eq_false, Bool.false_eq_true, if_false]
  split <;> (try rfl)
  split <;> (try rfl)

theorem cms_eq (a b : ByteArray) : cmp_Compare_string.f a b = some (cms a b) := by
  unfold cmp_Compare_string.f cmp_isNaN_string.f cms
  simp only [Option.bind_some, bne_self_eq_false, Bool.false_eq_true, if_false]
  split <;> (try rfl)
  split <;> (try rfl)

theorem or_eq (x y : Int) {k : Nat} (hk : 3 ≤ k) : cmp_Or_int.f k ([x, y] : List Int) = some (if x = 0 then y else x) := by
  obtain ⟨m, rfl⟩ : ∃ m, k = m + 3 := ⟨k - 3, by omega⟩
  have r0 : rd [x, y] 0 = x := rfl
  have r1 : rd [x, y] 1 = y := rfl
  have w1 : wrap64 (0 + 1) = 1 := by unfold wrap64; omega
  have w2 : wrap64 (1 + 1) = 2 := by unfold wrap64; omega
  have l2 : (([x, y] : List Int).length : Int) = 2 := rfl
  unfold cmp_Or_int.f
  rw [l2]
  simp only [cmp_Or_int.l0]
  rw [l2, w1, w2, r0, r1]
  simp only [show (0 : Int) < 2 from by omega, show (1 : Int) < 2 from by omega, show (0 : Int) ≤ 0 from by omega, show (0 : Int) ≤ 1 from by omega, if_true, show ¬ ((2 : Int) < 2) from by omega, if_false]
  by_cases hx : x = 0
  · rw [if_pos hx, if_pos hx]
    by_cases hy : y = 0
    · rw [if_pos hy, hy]
    · rw [if_neg hy]
  · rw [if_neg hx, if_neg hx]

theorem cmv_eq (a b : ByteArray) {k : Nat} (hk : 3 ≤ k) : ballots_CompareValues.f k a b = some (cmv a b) := by
  unfold ballots_CompareValues.f cmv
  rw [cmi_eq, cms_eq]
  simp only [Option.bind_some]
  rw [or_eq _ _ hk]
  rfl

theorem cmv_neg (a b : ByteArray) : decide (cmv a b < 0) = vlt a b := by
  unfold cmv cmi cms vlt
  by_cases h1 : a.size < b.size
  · have h2 : ¬ a.size = b.size := by omega
    have h3 : (a.size : Int) < (b.size : Int) := by omega
    simp [h1, h2, h3]
  · by_cases h2 : a.size = b.size
    · simp only [h2, Int.lt_irrefl, if_false, if_true]
      cases h : Op.bytesLess a.toList b.toList
      · simp only [Bool.false_eq_true, if_false]; split <;> rfl
      · rfl
    · have h3 : ¬ (a.size : Int) < (b.size : Int) := by omega
      have h4 : (b.size : Int) < (a.size : Int) := by omega
      simp [h1, h2, h3, h4]

theorem less_eq (c : Int) (a : ByteArray) (d : Int) (b : ByteArray) {k : Nat} (hk : 3 ≤ k) : ballots_Less.f k c a d b = some (blt c a d b) := by
  unfold ballots_Less.f ballots_Compare.f
  rw [cmi_eq, cmv_eq a b hk]
  simp only [Option.bind_some]
  rw [or_eq _ _ hk]
  simp only [Option.bind_some]
  unfold blt cmi
  by_cases h1 : c < d
  · have h2 : ¬ c = d := by omega
    simp [h1, h2]
  · by_cases h2 : c = d
    · simp only [h2, Int.lt_irrefl, if_false, if_true]; rw [cmv_neg]
    · have h3 : d < c := by omega
      simp [h1, h2, h3]

theorem zero_eq (c : Int) (a : ByteArray) : ballots_Zero.f c a = some (zer c a) := rfl
theorem compat_eq (c : Int) (a : ByteArray) (d : Int) (b : ByteArray) : ballots_Compatible.f c a d b = some (cmpt a b) := rfl
theorem aborts_eq (c : Int) (a : ByteArray) (d : Int) (b : ByteArray) {k : Nat} (hk : 3 ≤ k) : ballots_Aborts.f k c a d b = some (abt c a d b) := by
  unfold ballots_Aborts.f abt
  rw [zero_eq, compat_eq, less_eq _ _ _ _ hk]
  simp only [Option.bind_some]
  cases zer c a <;> cases cmpt a b <;> simp

-- the four values
theorem vlt_val : ∀ i, i < 4 → ∀ j, j < 4 → vlt (valOf i) (valOf j) = decide (i < j) := by decide +kernel
theorem cmpt_val : ∀ i, i < 4 → ∀ j, j < 4 → cmpt (valOf i) (valOf j) = decide (i = j) := by decide +kernel
theorem ne_val : ∀ i, i < 4 → ((valOf i).toList == ([] : List UInt8)) = false := by decide +kernel
theorem size_val : ∀ i, i < 4 → 1 ≤ (valOf i).size ∧ (valOf i).size ≤ 2 := by decide +kernel
theorem zer_val (c : Int) {i : Nat} (hi : i < 4) : zer c (valOf i) = false := by unfold zer; rw [ne_val i hi]; simp
theorem blt_val (c : Int) {i : Nat} (hi : i < 4) (d : Int) {j : Nat} (hj : j < 4) : blt c (valOf i) d (valOf j) = decide (c < d ∨ c = d ∧ i < j) := by
  unfold blt
  rw [vlt_val i hi j hj]
  by_cases h : c = d
  · simp [h]
  · simp [h]
theorem abt_val (c : Int) {i : Nat} (hi : i < 4) (d : Int) {j : Nat} (hj : j < 4) : abt c (valOf i) d (valOf j) = decide (i ≠ j ∧ (d < c ∨ d = c ∧ j < i)) := by
  unfold abt
  rw [zer_val c hi, cmpt_val i hi j hj, blt_val d hj c hi]
  by_cases h : i = j <;> simp [h]

theorem reflv_eq (a b : ByteArray) : trustquorumref23_LessValue.f a b = some (vlt a b) := by
  unfold trustquorumref23_LessValue.f vlt
  by_cases h : a.size = b.size
  · rw [if_pos (by omega), if_pos h]
  · rw [if_neg (by omega), if_neg h]
    congr 1
    rw [decide_eq_decide]; omega
theorem refless_eq (c : Int) (a : ByteArray) (d : Int) (b : ByteArray) : trustquorumref23_Less.f c a d b = some (blt c a d b) := by
  unfold trustquorumref23_Less.f blt
  rw [reflv_eq]
  split <;> rfl
theorem refcompat_eq (c : Int) (a : ByteArray) (d : Int) (b : ByteArray) : trustquorumref23_Compatible.f c a d b = some (cmpt a b) := rfl

theorem refzero_eq (c : Int) (a : ByteArray) : trustquorumref23_Zero.f c a = some (zer c a) := rfl
theorem refaborts_eq (c : Int) (a : ByteArray) (d : Int) (b : ByteArray) : trustquorumref23_Aborts.f c a d b = some (abt c a d b) := by
  unfold trustquorumref23_Aborts.f abt
  rw [refzero_eq, refcompat_eq, refless_eq]
  simp only [Option.bind_some]
  cases zer c a <;> cases cmpt a b <;> simp

theorem sane_eq {k : Nat} (hk : 20 ≤ k) : trustquorumlaw23_sane.f k = some true := by
  obtain ⟨m, rfl⟩ : ∃ m, k = m + 20 := ⟨k - 20, by omega⟩
  have z1 : zer 0 (⟨#[]⟩ : ByteArray) = true := by decide +kernel
  have a1 : abt 3 (⟨#[98]⟩ : ByteArray) 3 (⟨#[97]⟩ : ByteArray) = true := by decide +kernel
  have a2 : abt 3 (⟨#[98]⟩ : ByteArray) 2 (⟨#[99]⟩ : ByteArray) = true := by decide +kernel
  have a3 : abt 3 (⟨#[98]⟩ : ByteArray) 3 (⟨#[99]⟩ : ByteArray) = false := by decide +kernel
  have a4 : abt 4 (⟨#[98]⟩ : ByteArray) 2 (⟨#[97]⟩ : ByteArray) = true := by decide +kernel
  have a5 : abt 4 (⟨#[98]⟩ : ByteArray) 4 (⟨#[97]⟩ : ByteArray) = true := by decide +kernel
  have v1 : ballots_Valid.f 4 (⟨#[98]⟩ : ByteArray) = some true := by decide +kernel
  have v2 : ballots_Valid.f 0 (⟨#[]⟩ : ByteArray) = some false := by decide +kernel
  have hL : ballots_Lowest.f (m + 20) (⟨#[97]⟩ : ByteArray) 2 4 (⟨#[98]⟩ : ByteArray) 0 (⟨#[]⟩ : ByteArray) = some 5 := by
    unfold ballots_Lowest.f
    simp only [Option.bind_some]
    have l2 : ((([(⟨4, (⟨#[98]⟩ : ByteArray)⟩ : S26), (⟨0, (⟨#[]⟩ : ByteArray)⟩ : S26)] : List S26).length : Nat) : Int) = 2 := rfl
    have hm : mx 2 1 = 2 := by unfold mx; rfl
    rw [l2, hm]
    have r0 : rd_T26 [(⟨4, (⟨#[98]⟩ : ByteArray)⟩ : S26), (⟨0, (⟨#[]⟩ : ByteArray)⟩ : S26)] 0 = ⟨4, (⟨#[98]⟩ : ByteArray)⟩ := rfl
    have r1 : rd_T26 [(⟨4, (⟨#[98]⟩ : ByteArray)⟩ : S26), (⟨0, (⟨#[]⟩ : ByteArray)⟩ : S26)] 1 = ⟨0, (⟨#[]⟩ : ByteArray)⟩ := rfl
    have w1 : wrap64 (0 + 1) = 1 := by unfold wrap64; omega
    have w2 : wrap64 (1 + 1) = 2 := by unfold wrap64; omega
    have w3 : wrap64 (4 + 1) = 5 := by unfold wrap64; omega
    show ballots_Lowest.l0 ((m + 19) + 1) _ _ _ _ _ = _
    rw [ballots_Lowest.l0, if_pos (by omega), if_pos (by omega), if_pos (by rw [l2]; omega), r0]
    simp only [v1, Option.bind_some, if_true]
    rw [aborts_eq _ _ _ _ (by omega), a4]
    simp only [Option.bind_some, Bool.not_true]
    show ballots_Lowest.j1 ((m + 18) + 1) _ _ _ _ _ _ _ _ = _
    rw [ballots_Lowest.j1, aborts_eq _ _ _ _ (by omega), a5, w1, w3]
    simp only [Option.bind_some, Bool.false_eq_true, if_false, if_true]
    show ballots_Lowest.l0 ((m + 17) + 1) _ _ _ _ _ = _
    rw [ballots_Lowest.l0, if_pos (by omega), if_pos (by omega), if_pos (by rw [l2]; omega), r1]
    simp only [v2, Option.bind_some, Bool.false_eq_true, if_false]
    show ballots_Lowest.j1 ((m + 16) + 1) _ _ _ _ _ _ _ _ = _
    rw [ballots_Lowest.j1]
    simp only [if_true]
    rw [w2]
    show ballots_Lowest.l0 ((m + 15) + 1) _ _ _ _ _ = _
    rw [ballots_Lowest.l0, if_neg (by omega)]
  unfold trustquorumlaw23_sane.f
  rw [hL, aborts_eq _ _ _ _ (by omega), aborts_eq _ _ _ _ (by omega), aborts_eq _ _ _ _ (by omega), a1, a2, a3]
  rfl

-- a number of a range
theorem Range_eq {L : List Int} {p a b : Int} (h : St L p) (ha : -1000 ≤ a) (hab : a ≤ b) (hb : b ≤ 100000) : ∃ r p', trustquorumplay_Src_Range.f L p a b = some (r, p') ∧ a ≤ r ∧ r ≤ b ∧ St L p' := by
  have e1 : wrap64 (b - a) = b - a := w64 (by omega) (by omega)
  have e2 : wrap64 (b - a + 1) = b - a + 1 := w64 (by omega) (by omega)
  obtain ⟨r, p', hr, h0, h1, hs⟩ := N_eq (n := b - a + 1) h (by omega) (by omega)
  refine ⟨a + r, p', ?_, by omega, by omega, hs⟩
  unfold trustquorumplay_Src_Range.f
  rw [e1, e2, hr]
  simp only [Option.bind_some]
  rw [w64 (x := a + r) (by omega) (by omega)]

-- whatever ballots: the same answers
theorem Pick_some {L : List Int} {p : Int} (h : St L p) (l : List Int) (h1 : 1 ≤ l.length) (h2 : l.length ≤ 100) : ∃ c p', trustquorumplay_Src_Pick.f L p l = some (c, p') ∧ St L p' := by
  obtain ⟨r, p', hr, r0, r1, hs⟩ := N_eq (n := (l.length : Int)) h (by omega) (by omega)
  unfold trustquorumplay_Src_Pick.f
  rw [hr]
  simp only [Option.bind_some]
  rw [if_pos r0, if_pos r1]
  exact ⟨_, _, rfl, hs⟩
theorem Odd_eq {L : List Int} {p : Int} (h : St L p) : ∃ c p', trustquorumplay_Src_Odd.f L p = some (c, p') ∧ St L p' := by
  obtain ⟨c, p', h1, hs⟩ := Pick_some h [(-1), 0, 1, 2, 9223372036854775807, (-9223372036854775808), 1000000000000, 1000000000001, 1000000, 1000001, 1000000, 1000, 1001, 1000, 1001] (by decide) (by decide)
  unfold trustquorumplay_Src_Odd.f
  rw [h1]
  exact ⟨_, _, rfl, hs⟩
theorem Ballot_some {L : List Int} {p : Int} (h : St L p) : ∃ c a p', trustquorumplay_Src_Ballot.f L p = some (c, a, p') ∧ St L p' := by
  obtain ⟨c, p1, h1, s1⟩ := Pick_some h [1, 2, 3, 4, 5, 1000, 1000000] (by decide) (by decide)
  obtain ⟨i, p2, h2, hi, s2⟩ := Value_eq s1
  unfold trustquorumplay_Src_Ballot.f
  rw [h1]; simp only [Option.bind_some]
  rw [h2]
  exact ⟨_, _, _, rfl, s2⟩
theorem valid_some (c : Int) (a : ByteArray) : ∃ b, ballots_Valid.f c a = some b ∧ trustquorumref23_Valid.f c a = some b ∧ (b = true → 1 ≤ c ∧ c ≤ 1000000) := by
  have e : trustquorumref23_Valid.f c a = ballots_Valid.f c a := rfl
  rw [e]
  unfold ballots_Valid.f
  by_cases h1 : c ≥ 1
  · rw [if_pos h1]
    by_cases h2 : c ≤ 1000
    · rw [if_pos h2]
      by_cases h3 : (a.size : Int) ≥ 1
      · rw [if_pos h3]; exact ⟨_, rfl, rfl, fun _ => ⟨h1, by omega⟩⟩
      · rw [if_neg h3]; exact ⟨_, rfl, rfl, fun h => by cases h⟩
    · rw [if_neg h2]
      by_cases h4 : c = 1000000
      · rw [if_pos h4]
        by_cases h3 : (a.size : Int) ≥ 1
        · rw [if_pos h3]; exact ⟨_, rfl, rfl, fun _ => ⟨h1, by omega⟩⟩
        · rw [if_neg h3]; exact ⟨_, rfl, rfl, fun h => by cases h⟩
      · rw [if_neg h4]; exact ⟨_, rfl, rfl, fun h => by cases h⟩
  · rw [if_neg h1, if_neg (by omega)]; exact ⟨_, rfl, rfl, fun h => by cases h⟩
def cov (c : Int) (a : ByteArray) (d : Int) (b : ByteArray) : Bool := !zer c a && (cmpt a b && decide (c ≥ d))
theorem covers_eq (c : Int) (a : ByteArray) (d : Int) (b : ByteArray) : ballots_Covers.f c a d b = some (cov c a d b) := by
  unfold ballots_Covers.f cov
  rw [zero_eq, compat_eq]
  simp only [Option.bind_some]
  cases zer c a <;> cases cmpt a b <;> simp
theorem refcovers_eq (c : Int) (a : ByteArray) (d : Int) (b : ByteArray) : trustquorumref23_Covers.f c a d b = some (cov c a d b) := covers_eq c a d b
theorem lessvalue_eq (a b : ByteArray) {k : Nat} (hk : 3 ≤ k) : ballots_LessValue.f k a b = some (vlt a b) := by
  unfold ballots_LessValue.f
  rw [cmv_eq a b hk]
  simp only [Option.bind_some]
  rw [cmv_neg]
def prp (p q b : S26) : Bool := cov p.f0 p.f1 b.f0 b.f1 || (cov q.f0 q.f1 b.f0 b.f1 || (!zer q.f0 q.f1 && blt b.f0 b.f1 q.f0 q.f1))
theorem prepares_eq (p q b : S26) {k : Nat} (hk : 3 ≤ k) : ballots_Prepares.f k p.f0 p.f1 q.f0 q.f1 b.f0 b.f1 = some (prp p q b) := by
  unfold ballots_Prepares.f prp
  rw [covers_eq, covers_eq, zero_eq, less_eq _ _ _ _ hk]
  simp only [Option.bind_some]
  cases cov p.f0 p.f1 b.f0 b.f1 <;> cases cov q.f0 q.f1 b.f0 b.f1 <;> cases zer q.f0 q.f1 <;> simp
theorem refprepares_eq (p q b : S26) : trustquorumref23_Prepares.f p.f0 p.f1 q.f0 q.f1 b.f0 b.f1 = some (prp p q b) := by
  unfold trustquorumref23_Prepares.f prp
  rw [refcovers_eq, refcovers_eq, refzero_eq, refless_eq]
  simp only [Option.bind_some]
  cases cov p.f0 p.f1 b.f0 b.f1 <;> cases cov q.f0 q.f1 b.f0 b.f1 <;> cases zer q.f0 q.f1 <;> simp
theorem low_step (v : ByteArray) (x : S26) (l : List S26) (hl : l.length = 2) (s : Int) (h0 : 0 ≤ s) (h1 : s < 2) (hx : rd_T26 l s = x) (n : Int) (hn : 1 ≤ n) : ∃ n', 1 ≤ n' ∧
    (∀ k, 5 ≤ k → ballots_Lowest.l0 (k + 2) v n l 2 s = ballots_Lowest.l0 k v n' l 2 (s + 1)) ∧ (∀ k, 5 ≤ k → trustquorumref23_Lowest.l0 (k + 2) v n l s = trustquorumref23_Lowest.l0 k v n' l (s + 1)) := by
  obtain ⟨b, hb, hb2, hv⟩ := valid_some x.f0 x.f1
  have w1 : wrap64 (s + 1) = s + 1 := w64 (by omega) (by omega)
  cases b with
  | false =>
    refine ⟨n, hn, fun k hk => ?_, fun k hk => ?_⟩
    · show ballots_Lowest.l0 ((k + 1) + 1) _ _ _ _ _ = _
      rw [ballots_Lowest.l0, if_pos h1, if_pos h0, if_pos (by omega), hx, hb]
      simp only [Option.bind_some, Bool.false_eq_true, if_false]
      rw [ballots_Lowest.j1, if_pos (by decide), w1]
    · show trustquorumref23_Lowest.l0 ((k + 1) + 1) _ _ _ _ = _
      rw [trustquorumref23_Lowest.l0, if_pos h1, if_pos h0, hx, hb2]
      simp only [Option.bind_some, Bool.false_eq_true, if_false]
      rw [trustquorumref23_Lowest.j1, if_neg (by decide), w1]
  | true =>
    obtain ⟨v0, v1⟩ := hv rfl
    cases ha : abt x.f0 x.f1 n v with
    | false =>
      refine ⟨n, hn, fun k hk => ?_, fun k hk => ?_⟩
      · show ballots_Lowest.l0 ((k + 1) + 1) _ _ _ _ _ = _
        rw [ballots_Lowest.l0, if_pos h1, if_pos h0, if_pos (by omega), hx, hb]
        simp only [Option.bind_some, if_true]
        rw [aborts_eq _ _ _ _ (by omega), ha]
        simp only [Option.bind_some]
        rw [ballots_Lowest.j1, if_pos (by decide), w1]
      · show trustquorumref23_Lowest.l0 ((k + 1) + 1) _ _ _ _ = _
        rw [trustquorumref23_Lowest.l0, if_pos h1, if_pos h0, hx, hb2]
        simp only [Option.bind_some, if_true]
        rw [refaborts_eq, ha]
        simp only [Option.bind_some]
        rw [trustquorumref23_Lowest.j1, if_neg (by decide), w1]
    | true =>
      cases hc : abt x.f0 x.f1 x.f0 v with
      | true =>
        have w2 : wrap64 (x.f0 + 1) = x.f0 + 1 := w64 (by omega) (by omega)
        refine ⟨x.f0 + 1, by omega, fun k hk => ?_, fun k hk => ?_⟩
        · show ballots_Lowest.l0 ((k + 1) + 1) _ _ _ _ _ = _
          rw [ballots_Lowest.l0, if_pos h1, if_pos h0, if_pos (by omega), hx, hb]
          simp only [Option.bind_some, if_true]
          rw [aborts_eq _ _ _ _ (by omega), ha]
          simp only [Option.bind_some]
          rw [ballots_Lowest.j1, if_neg (by decide), aborts_eq _ _ _ _ (by omega), hc]
          simp only [Option.bind_some, if_true]
          rw [w1, w2]
        · show trustquorumref23_Lowest.l0 ((k + 1) + 1) _ _ _ _ = _
          rw [trustquorumref23_Lowest.l0, if_pos h1, if_pos h0, hx, hb2]
          simp only [Option.bind_some, if_true]
          rw [refaborts_eq, ha]
          simp only [Option.bind_some]
          rw [trustquorumref23_Lowest.j1, if_pos rfl, refaborts_eq, hc]
          simp only [Option.bind_some, if_true]
          rw [w1, w2]
      | false =>
        refine ⟨x.f0, by omega, fun k hk => ?_, fun k hk => ?_⟩
        · show ballots_Lowest.l0 ((k + 1) + 1) _ _ _ _ _ = _
          rw [ballots_Lowest.l0, if_pos h1, if_pos h0, if_pos (by omega), hx, hb]
          simp only [Option.bind_some, if_true]
          rw [aborts_eq _ _ _ _ (by omega), ha]
          simp only [Option.bind_some]
          rw [ballots_Lowest.j1, if_neg (by decide), aborts_eq _ _ _ _ (by omega), hc]
          simp only [Option.bind_some, Bool.false_eq_true, if_false]
          rw [w1]
        · show trustquorumref23_Lowest.l0 ((k + 1) + 1) _ _ _ _ = _
          rw [trustquorumref23_Lowest.l0, if_pos h1, if_pos h0, hx, hb2]
          simp only [Option.bind_some, if_true]
          rw [refaborts_eq, ha]
          simp only [Option.bind_some]
          rw [trustquorumref23_Lowest.j1, if_pos rfl, refaborts_eq, hc]
          simp only [Option.bind_some, Bool.false_eq_true, if_false]
          rw [w1]
theorem lowest_same (v : ByteArray) (n : Int) (p q : S26) {k : Nat} (hk : 20 ≤ k) : ∃ m, 1 ≤ m ∧ ballots_Lowest.f k v n p.f0 p.f1 q.f0 q.f1 = some m ∧ trustquorumref23_Lowest.f k v n p.f0 p.f1 q.f0 q.f1 = some m := by
  obtain ⟨k, rfl⟩ : ∃ m, k = m + 20 := ⟨k - 20, by omega⟩
  have hm : 1 ≤ mx n 1 := by unfold mx; split <;> omega
  have l2 : (([(⟨p.f0, p.f1⟩ : S26), (⟨q.f0, q.f1⟩ : S26)] : List S26).length : Int) = 2 := rfl
  obtain ⟨n1, h1, a1, b1⟩ := low_step v ⟨p.f0, p.f1⟩ [⟨p.f0, p.f1⟩, ⟨q.f0, q.f1⟩] rfl 0 (by omega) (by omega) rfl (mx n 1) hm
  obtain ⟨n2, h2, a2, b2⟩ := low_step v ⟨q.f0, q.f1⟩ [⟨p.f0, p.f1⟩, ⟨q.f0, q.f1⟩] rfl (0 + 1) (by omega) (by omega) rfl n1 h1
  refine ⟨n2, h2, ?_, ?_⟩
  · unfold ballots_Lowest.f
    simp only [Option.bind_some]
    rw [l2, show k + 20 = (k + 18) + 2 from rfl, a1 _ (by omega), show k + 18 = (k + 16) + 2 from rfl, a2 _ (by omega)]
    show ballots_Lowest.l0 ((k + 15) + 1) _ _ _ _ _ = _
    rw [ballots_Lowest.l0, if_neg (by omega)]
  · unfold trustquorumref23_Lowest.f
    rw [show k + 20 = (k + 18) + 2 from rfl, b1 _ (by omega), show k + 18 = (k + 16) + 2 from rfl, b2 _ (by omega)]
    show trustquorumref23_Lowest.l0 ((k + 15) + 1) _ _ _ _ = _
    rw [trustquorumref23_Lowest.l0, if_neg (by omega)]
theorem rdS_at (l : List S26) (s : Nat) (h : s < l.length) : rd_T26 l (s : Int) = l[s]'h := by unfold rd_T26; simp [List.getD, h]
theorem nx (s : Nat) (h : s ≤ 9223372036854775806) : wrap64 ((s : Int) + 1) = ((s + 1 : Nat) : Int) := by rw [w64 (by omega) (by omega)]; omega
theorem greatest_same (l : List S26) (hl : l.length ≤ 1000) (r : Nat) : ∀ (s : Nat) (c : Int) (a : ByteArray) (k : Nat), s + r = l.length → r + 5 ≤ k → ∃ c' a', ballots_Greatest.l0 k l (l.length : Int) (s : Int) c a = some (c', a') ∧ trustquorumref23_Greatest.l0 k l (l.length : Int) (s : Int) c a = some (c', a') := by
  induction r with
  | zero =>
    intro s c a k h1 hk
    obtain ⟨k, rfl⟩ : ∃ m, k = m + 1 := ⟨k - 1, by omega⟩
    exact ⟨c, a, by rw [ballots_Greatest.l0, if_neg (by omega)], by rw [trustquorumref23_Greatest.l0, if_neg (by omega)]⟩
  | succ r ih =>
    intro s c a k h1 hk
    obtain ⟨k, rfl⟩ : ∃ m, k = m + 1 := ⟨k - 1, by omega⟩
    rw [ballots_Greatest.l0, if_pos (show (s : Int) < (l.length : Int) by omega), if_pos (show (0 : Int) ≤ (s : Int) by omega), if_pos (show (s : Int) < (l.length : Int) by omega)]
    rw [trustquorumref23_Greatest.l0, if_pos (show (s : Int) < (l.length : Int) by omega), if_pos (show (0 : Int) ≤ (s : Int) by omega), if_pos (show (s : Int) < (l.length : Int) by omega), nx s (by omega)]
    by_cases h0 : (s : Int) = 0
    · rw [if_pos h0, if_pos h0]; exact ih (s + 1) _ _ k (by omega) (by omega)
    · rw [if_neg h0, if_neg h0, less_eq _ _ _ _ (by omega), refless_eq]
      simp only [Option.bind_some]
      split
      · exact ih (s + 1) _ _ k (by omega) (by omega)
      · exact ih (s + 1) _ _ k (by omega) (by omega)
theorem short_eq (l : List S26) (hl : l.length ≤ maxLen) (r : Nat) : ∀ (s k : Nat), s + r = l.length → r + 1 ≤ k → ∃ b, trustquorumlaw23_short.l0 k l l (l.length : Int) (s : Int) = some b ∧ (b = true → l.length ≤ 30) := by
  have hm : maxLen ≤ 9223372036854775807 := by decide
  induction r with
  | zero =>
    intro s k h1 hk
    obtain ⟨k, rfl⟩ : ∃ m, k = m + 1 := ⟨k - 1, by omega⟩
    rw [trustquorumlaw23_short.l0, if_neg (by omega)]
    exact ⟨_, rfl, fun h => by have := of_decide_eq_true h; omega⟩
  | succ r ih =>
    intro s k h1 hk
    obtain ⟨k, rfl⟩ : ∃ m, k = m + 1 := ⟨k - 1, by omega⟩
    rw [trustquorumlaw23_short.l0, if_pos (by omega), if_pos (by omega), if_pos (by omega), nx s (by omega)]
    split
    · exact ⟨_, rfl, fun h => by cases h⟩
    · exact ih (s + 1) k (by omega) (by omega)

section
variable {L : List Int} (n5 : Int) (y : List S26)
theorem exact_l3 {K : Nat} (a b : S26) (s56 s74 : Int) (v : List Int) (H : ∀ (k : Nat) (p : Int), K ≤ k → St L p → trustquorumlaw23_BallotsExact.l1 k n5 y 7 s56 7 (wrap64 (s74 + 1)) L p a.f0 a.f1 = some true) (r : Nat) : ∀ (s k : Nat) (p : Int), s + r = 3 → K + r + 40 ≤ k → St L p →
    trustquorumlaw23_BallotsExact.l3 k n5 y 7 s56 7 s74 v (s : Int) L p a.f0 a.f1 b.f0 b.f1 = some true := by
  induction r with
  | zero =>
    intro s k p h1 hk hs
    obtain ⟨k, rfl⟩ : ∃ m, k = m + 1 := ⟨k - 1, by omega⟩
    rw [trustquorumlaw23_BallotsExact.l3, if_neg (by omega)]
    exact H k p (by omega) hs
  | succ r ih =>
    intro s k p h1 hk hs
    obtain ⟨k, rfl⟩ : ∃ m, k = m + 1 := ⟨k - 1, by omega⟩
    obtain ⟨i, p1, h2, hi, s1⟩ := Value_eq hs
    obtain ⟨m1, g1, e1, _⟩ := lowest_same (valOf i) (rd v (s : Int)) a b (k := k) (by omega)
    obtain ⟨m2, g2, e2, e3⟩ := lowest_same (⟨#[97]⟩ : ByteArray) (rd v (s : Int)) a b (k := k) (by omega)
    rw [trustquorumlaw23_BallotsExact.l3, if_pos (by omega), if_pos (by omega), h2]
    simp only [Option.bind_some]
    rw [e1]
    simp only [Option.bind_some]
    rw [if_neg (by omega), e2, e3]
    simp only [Option.bind_some, if_true]
    rw [nx s (by omega)]
    exact ih (s + 1) k p1 (by omega) (by omega) s1
theorem exact_l2 (hy : y.length = 7) {K : Nat} (a b : S26) (s56 s74 : Int) (H : ∀ (k : Nat) (p : Int), K ≤ k → St L p → trustquorumlaw23_BallotsExact.l1 k n5 y 7 s56 7 (wrap64 (s74 + 1)) L p a.f0 a.f1 = some true) (r : Nat) : ∀ (s k : Nat) (p : Int), s + r = 7 → K + r + 50 ≤ k → St L p →
    trustquorumlaw23_BallotsExact.l2 k n5 y 7 s56 7 s74 7 (s : Int) L p a.f0 a.f1 b.f0 b.f1 = some true := by
  induction r with
  | zero =>
    intro s k p h1 hk hs
    obtain ⟨k, rfl⟩ : ∃ m, k = m + 1 := ⟨k - 1, by omega⟩
    obtain ⟨c, p1, h2, s1⟩ := Odd_eq hs
    obtain ⟨d, p2, h3, _, _, s2⟩ := Range_eq (a := 1) (b := 6) s1 (by omega) (by omega) (by omega)
    rw [trustquorumlaw23_BallotsExact.l2, if_neg (by omega), h2]
    simp only [Option.bind_some]
    rw [h3]
    simp only [Option.bind_some]
    exact exact_l3 n5 y a b s56 s74 _ H 3 0 k p2 (by omega) (by omega) s2
  | succ r ih =>
    intro s k p h1 hk hs
    obtain ⟨k, rfl⟩ : ∃ m, k = m + 1 := ⟨k - 1, by omega⟩
    rw [trustquorumlaw23_BallotsExact.l2, if_pos (by omega), if_pos (by omega), if_pos (by omega), prepares_eq a b _ (by omega), refprepares_eq a b]
    simp only [Option.bind_some]
    rw [bne_self_eq_false, if_neg (by decide), nx s (by omega)]
    exact ih (s + 1) k p (by omega) (by omega) hs
theorem exact_l1 (hy : y.length = 7) {K : Nat} (a : S26) (s56 : Int) (H : ∀ (k : Nat) (p : Int), K ≤ k → St L p → trustquorumlaw23_BallotsExact.l0 k n5 y 7 (wrap64 (s56 + 1)) L p = some true) (r : Nat) : ∀ (s k : Nat) (p : Int), s + r = 7 → K + 100 * r + 50 ≤ k → St L p →
    trustquorumlaw23_BallotsExact.l1 k n5 y 7 s56 7 (s : Int) L p a.f0 a.f1 = some true := by
  induction r with
  | zero =>
    intro s k p h1 hk hs
    obtain ⟨k, rfl⟩ : ∃ m, k = m + 1 := ⟨k - 1, by omega⟩
    rw [trustquorumlaw23_BallotsExact.l1, if_neg (by omega)]
    exact H k p (by omega) hs
  | succ r ih =>
    intro s k p h1 hk hs
    obtain ⟨k, rfl⟩ : ∃ m, k = m + 2 := ⟨k - 2, by omega⟩
    show trustquorumlaw23_BallotsExact.l1 ((k + 1) + 1) _ _ _ _ _ _ _ _ _ _ = _
    rw [trustquorumlaw23_BallotsExact.l1, if_pos (by omega), if_pos (by omega), if_pos (by omega), less_eq _ _ _ _ (by omega), refless_eq, lessvalue_eq _ _ (by omega), reflv_eq, compat_eq, refcompat_eq, covers_eq, refcovers_eq, aborts_eq _ _ _ _ (by omega), refaborts_eq]
    simp only [Option.bind_some]
    rw [bne_self_eq_false, bne_self_eq_false, bne_self_eq_false, bne_self_eq_false, bne_self_eq_false, if_neg (by decide), if_neg (by decide), if_neg (by decide), if_neg (by decide), trustquorumlaw23_BallotsExact.j4, if_neg (by decide), show ((y.length : Nat) : Int) = 7 by omega]
    refine exact_l2 n5 y hy (K := K + 100 * r + 50) a (rd_T26 y (s : Int)) s56 (s : Int) (fun k' p' hk' hs' => ?_) 7 0 k p (by omega) (by omega) hs
    rw [nx s (by omega)]
    exact ih (s + 1) k' p' (by omega) (by omega) hs'
theorem exact_l0 (hy : y.length = 7) (r : Nat) : ∀ (s k : Nat) (p : Int), s + r = 7 → 1000 * r + 100 ≤ k → St L p →
    trustquorumlaw23_BallotsExact.l0 k n5 y 7 (s : Int) L p = some true := by
  induction r with
  | zero =>
    intro s k p h1 hk hs
    obtain ⟨k, rfl⟩ : ∃ m, k = m + 1 := ⟨k - 1, by omega⟩
    obtain ⟨c, a, e1, e2⟩ := greatest_same y (by omega) 7 0 0 (⟨#[]⟩ : ByteArray) k (by omega) (by omega)
    rw [trustquorumlaw23_BallotsExact.l0, if_neg (by omega)]
    unfold ballots_Greatest.f trustquorumref23_Greatest.f
    rw [show ((0 : Nat) : Int) = 0 from rfl] at e1 e2
    rw [e1, e2]
    simp only [Option.bind_some]
    rw [if_pos (by simp), sane_eq (by omega)]; rfl
  | succ r ih =>
    intro s k p h1 hk hs
    obtain ⟨k, rfl⟩ : ∃ m, k = m + 2 := ⟨k - 2, by omega⟩
    obtain ⟨b, hb, hb2, _⟩ := valid_some (rd_T26 y (s : Int)).f0 (rd_T26 y (s : Int)).f1
    show trustquorumlaw23_BallotsExact.l0 ((k + 1) + 1) _ _ _ _ _ _ = _
    rw [trustquorumlaw23_BallotsExact.l0, if_pos (by omega), if_pos (by omega), if_pos (by omega), zero_eq, refzero_eq, hb, hb2]
    simp only [Option.bind_some]
    rw [bne_self_eq_false, bne_self_eq_false, if_neg (by decide), trustquorumlaw23_BallotsExact.j2, if_neg (by decide), show ((y.length : Nat) : Int) = 7 by omega]
    refine exact_l1 n5 y hy (K := 1000 * r + 100) (rd_T26 y (s : Int)) (s : Int) (fun k' p' hk' hs' => ?_) 7 0 k p (by omega) (by omega) hs
    rw [nx s (by omega)]
    exact ih (s + 1) k' p' (by omega) (by omega) hs'
end
theorem exact_j0 (l0 : List Int) (l1 : List S26) (h1 : l1.length ≤ 30) (n5 : Int) (p q r : S26) {k : Nat} (hk : 9000 ≤ k) : trustquorumlaw23_BallotsExact.j0 k l0 l1 n5 false p.f0 p.f1 q.f0 q.f1 r.f0 r.f1 = some true := by
  obtain ⟨k, rfl⟩ : ∃ m, k = m + 1 := ⟨k - 1, by omega⟩
  obtain ⟨L, hL, s0⟩ := New_eq l0
  obtain ⟨c, a, e1, e2⟩ := greatest_same l1 (by omega) l1.length 0 0 (⟨#[]⟩ : ByteArray) k (by omega) (by omega)
  obtain ⟨c1, a1, p1, h3, s1⟩ := Ballot_some s0
  obtain ⟨c2, a2, p2, h4, s2⟩ := Ballot_some s1
  obtain ⟨c3, p3, h5, s3⟩ := Odd_eq s2
  rw [trustquorumlaw23_BallotsExact.j0, if_neg (by decide), hL]
  simp only [Option.bind_some]
  unfold ballots_Greatest.f trustquorumref23_Greatest.f
  rw [show ((0 : Nat) : Int) = 0 from rfl] at e1 e2
  rw [e1, e2]
  simp only [Option.bind_some]
  rw [if_neg (by simp), h3]
  simp only [Option.bind_some]
  rw [h4]
  simp only [Option.bind_some]
  rw [h5]
  simp only [Option.bind_some]
  exact exact_l0 n5 _ rfl 7 0 k p3 (by omega) (by omega) s3
theorem BallotsExact : trustquorumlaw23_BallotsExact.Pure := by
  intro l0 l1 c1 a1 c2 a2 c3 a3 n5 _ _ _ hl1 _ _ _ _
  obtain ⟨K, hK⟩ : ∃ K, l1.length + 10000 ≤ K := ⟨_, Nat.le_refl _⟩
  refine ⟨K, ?_⟩
  have hj : ∀ k, 9000 ≤ k → trustquorumlaw23_BallotsExact.j0 k l0 l1 n5 true c1 a1 c2 a2 c3 a3 = some true := by
    intro k hk
    obtain ⟨k, rfl⟩ : ∃ m, k = m + 1 := ⟨k - 1, by omega⟩
    rw [trustquorumlaw23_BallotsExact.j0, if_pos rfl, sane_eq (by omega)]; rfl
  obtain ⟨b, e1, h1⟩ := short_eq l1 hl1.1 l1.length 0 K (by omega) (by omega)
  obtain ⟨b2, e2, _⟩ := short_eq [(⟨c1, a1⟩ : S26), (⟨c2, a2⟩ : S26), (⟨c3, a3⟩ : S26)] (show 3 ≤ maxLen by decide) 3 0 K rfl (by omega)
  unfold trustquorumlaw23_BallotsExact.f trustquorumlaw23_short.f
  rw [show ((0 : Nat) : Int) = 0 from rfl] at e1 e2
  rw [e1]
  simp only [Option.bind_some]
  cases b with
  | false => rw [if_neg (by decide)]; exact hj K (by omega)
  | true =>
    rw [if_pos rfl, e2]
    simp only [Option.bind_some]
    cases b2 with
    | false => exact hj K (by omega)
    | true => exact exact_j0 l0 l1 (h1 rfl) n5 ⟨c1, a1⟩ ⟨c2, a2⟩ ⟨c3, a3⟩ (by omega)

end Go.Proofs.Ytogdpfmlldaeeaa.Pure
