/- For every list of numbers and every start, the lowest counter that ballots.Lowest names for two drawn ballots is aborted by neither, and every lesser one from the start on is aborted by one of them: the statement over numbers and lists that the printed row asks. No condition. -/
import Derived.Test.YtogdpfmlldaeeaaQBallotsLowestx4
import Derived.OpenShut
set_option linter.unusedSimpArgs false
set_option linter.unusedVariables false
namespace Go.Proofs.Ytogdpfmlldaeeaa.Pure
open Go.RowKit Go.Proofs.Ytogdpfmlldaeeaa.QBallotsLowest Go.Proofs.YtogdpfmlldaeeaaW.PrintWords Go.Proofs.YtogdpfmlldaeeaaW.PrintLast Go.Proofs.YtogdpfmlldaeeaaW.PrintMore

-- plain facts on the source of numbers, on values and on ballots
theorem w64 {x : Int} (h : -9223372036854775808 ≤ x) (h' : x ≤ 9223372036854775807) : wrap64 x = x := by unfold wrap64; omega

structure St (L : List Int) (p : Int) : Prop where
  len : L.length ≤ 800
  lo : 0 ≤ p
  hi : p ≤ 800

theorem New_eq (l : List Int) : ∃ L, trustquorumplay_New.f l = some (L, 0) ∧ St L 0 := by
  unfold trustquorumplay_New.f
  have h0 : 0 ≤ mn (l.length : Int) 800 := by unfold mn; split <;> omega
  have h1 : mn (l.length : Int) 800 ≤ l.length := by unfold mn; split <;> omega
  have h2 : mn (l.length : Int) 800 ≤ 800 := by unfold mn; split <;> omega
  rw [if_pos h0, if_pos h1]
  refine ⟨_, rfl, ⟨?_, by omega, by omega⟩⟩
  rw [List.length_take]; omega

theorem N_eq {L : List Int} {p n : Int} (h : St L p) (hn : 1 ≤ n) (hn2 : n ≤ 1000000) : ∃ r p', trustquorumplay_Src_N.f L p n = some (r, p') ∧ 0 ≤ r ∧ r < n ∧ St L p' := by
  unfold trustquorumplay_Src_N.f
  by_cases h1 : p ≥ (L.length : Int)
  · exact ⟨0, p, by rw [if_pos h1], by omega, by omega, h⟩
  · have hp : p < L.length := by omega
    have h3 := h.len
    have h4 := h.lo
    have e1 : wrap64 (p + 1) = p + 1 := w64 (by omega) (by omega)
    have e2 : wrap64 ((p + 1) - 1) = p := by unfold wrap64; omega
    rw [if_neg h1, if_neg (by omega), e1, e2, if_pos h.lo, if_pos hp, if_neg (by omega)]
    have b1 := Int.tmod_lt_of_pos (rd L p) (show 0 < n by omega)
    have b2 := Int.lt_tmod_of_pos (rd L p) (show 0 < n by omega)
    have e3 : wrap64 (Int.tmod (rd L p) n + n) = Int.tmod (rd L p) n + n := w64 (by omega) (by omega)
    rw [e3]
    refine ⟨_, _, rfl, Int.tmod_nonneg _ (by omega), Int.tmod_lt_of_pos _ (by omega), ⟨h.len, by omega, by omega⟩⟩

def valOf : Nat → ByteArray
  | 0 => ⟨#[97]⟩
  | 1 => ⟨#[98]⟩
  | 2 => ⟨#[99]⟩
  | _ => ⟨#[97, 97]⟩

theorem Text4 {L : List Int} {p : Int} (h : St L p) : ∃ i p', trustquorumplay_Src_Text.f L p ([(⟨#[97]⟩ : ByteArray), (⟨#[98]⟩ : ByteArray), (⟨#[99]⟩ : ByteArray), (⟨#[97, 97]⟩ : ByteArray)] : List ByteArray) = some (valOf i, p') ∧ i < 4 ∧ St L p' := by
  obtain ⟨r, p', hr, h0, h1, hs⟩ := N_eq (n := 4) h (by omega) (by omega)
  obtain ⟨i, rfl⟩ := Int.eq_ofNat_of_zero_le h0
  refine ⟨i, p', ?_, by omega, hs⟩
  unfold trustquorumplay_Src_Text.f
  simp only [List.length_cons, List.length_nil, Nat.zero_add, Nat.reduceAdd]
  have e4 : (((4 : Nat) : Int)) = 4 := rfl
  rw [e4, hr]
  simp only [Option.bind_some]
  rw [if_pos (by omega), if_pos (by omega)]
  have : i = 0 ∨ i = 1 ∨ i = 2 ∨ i = 3 := by omega
  rcases this with rfl | rfl | rfl | rfl <;> rfl

theorem Value_eq {L : List Int} {p : Int} (h : St L p) : ∃ i p', trustquorumplay_Src_Value.f L p = some (valOf i, p') ∧ i < 4 ∧ St L p' := by
  obtain ⟨i, p', hr, hi, hs⟩ := Text4 h
  refine ⟨i, p', ?_, hi, hs⟩
  unfold trustquorumplay_Src_Value.f
  rw [hr]; rfl

-- the order of values and of ballots
def vlt (a b : ByteArray) : Bool := if a.size = b.size then Op.bytesLess a.toList b.toList else decide (a.size < b.size)
def blt (c : Int) (a : ByteArray) (d : Int) (b : ByteArray) : Bool := if c = d then vlt a b else decide (c < d)
def zer (c : Int) (a : ByteArray) : Bool := c == 0 && (a.toList == ([] : List UInt8))
def cmpt (a b : ByteArray) : Bool := a.toList == b.toList
def abt (c : Int) (a : ByteArray) (d : Int) (b : ByteArray) : Bool := !zer c a && !cmpt a b && blt d b c a
def cmi (a b : Int) : Int := if a < b then -1 else if b < a then 1 else 0
def cms (a b : ByteArray) : Int := if Op.bytesLess a.toList b.toList = true then -1 else if Op.bytesLess b.toList a.toList = true then 1 else 0
def cmv (a b : ByteArray) : Int := if cmi (a.size : Int) (b.size : Int) = 0 then cms a b else cmi (a.size : Int) (b.size : Int)

theorem cmi_eq (a b : Int) : cmp_Compare_int.f a b = some (cmi a b) := by
  unfold cmp_Compare_int.f cmp_isNaN_int.f cmi
  simp only [Option.bind_some, bne_self_eq_false, Bool.false_eq_true, if_false]
  split <;> (try rfl)
  split <;> (try rfl)

theorem cms_eq (a b : ByteArray) : cmp_Compare_string.f a b = some (cms a b) := by
  unfold cmp_Compare_string.f cmp_isNaN_string.f cms
  simp only [Option.bind_some, bne_self_eq_false, Bool.false_eq_true, if_false]
  split <;> (try rfl)
  split <;> (try rfl)

theorem or_eq (x y : Int) {k : Nat} (hk : 3 ≤ k) : cmp_Or_int.f k ([x, y] : List Int) = some (if x = 0 then y else x) := by
  obtain ⟨m, rfl⟩ : ∃ m, k = m + 3 := ⟨k - 3, by omega⟩
  have r0 : rd [x, y] 0 = x := rfl
  have r1 : rd [x, y] 1 = y := rfl
  have w1 : wrap64 (0 + 1) = 1 := by unfold wrap64; omega
  have w2 : wrap64 (1 + 1) = 2 := by unfold wrap64; omega
  have l2 : (([x, y] : List Int).length : Int) = 2 := rfl
  unfold cmp_Or_int.f
  rw [l2]
  simp only [cmp_Or_int.l0]
  rw [l2, w1, w2, r0, r1]
  simp only [show (0 : Int) < 2 from by omega, show (1 : Int) < 2 from by omega, show (0 : Int) ≤ 0 from by omega, show (0 : Int) ≤ 1 from by omega, if_true, show ¬ ((2 : Int) < 2) from by omega, if_false]
  by_cases hx : x = 0
  · rw [if_pos hx, if_pos hx]
    by_cases hy : y = 0
    · rw [if_pos hy, hy]
    · rw [if_neg hy]
  · rw [if_neg hx, if_neg hx]

theorem cmv_eq (a b : ByteArray) {k : Nat} (hk : 3 ≤ k) : ballots_CompareValues.f k a b = some (cmv a b) := by
  unfold ballots_CompareValues.f cmv
  rw [cmi_eq, cms_eq]
  simp only [Option.bind_some]
  rw [or_eq _ _ hk]
  rfl

theorem cmv_neg (a b : ByteArray) : decide (cmv a b < 0) = vlt a b := by
  unfold cmv cmi cms vlt
  by_cases h1 : a.size < b.size
  · have h2 : ¬ a.size = b.size := by omega
    have h3 : (a.size : Int) < (b.size : Int) := by omega
    simp [h1, h2, h3]
  · by_cases h2 : a.size = b.size
    · simp only [h2, Int.lt_irrefl, if_false, if_true]
      cases h : Op.bytesLess a.toList b.toList
      · simp only [Bool.false_eq_true, if_false]; split <;> rfl
      · rfl
    · have h3 : ¬ (a.size : Int) < (b.size : Int) := by omega
      have h4 : (b.size : Int) < (a.size : Int) := by omega
      simp [h1, h2, h3, h4]

theorem less_eq (c : Int) (a : ByteArray) (d : Int) (b : ByteArray) {k : Nat} (hk : 3 ≤ k) : ballots_Less.f k c a d b = some (blt c a d b) := by
  unfold ballots_Less.f ballots_Compare.f
  rw [cmi_eq, cmv_eq a b hk]
  simp only [Option.bind_some]
  rw [or_eq _ _ hk]
  simp only [Option.bind_some]
  unfold blt cmi
  by_cases h1 : c < d
  · have h2 : ¬ c = d := by omega
    simp [h1, h2]
  · by_cases h2 : c = d
    · simp only [h2, Int.lt_irrefl, if_false, if_true]; rw [cmv_neg]
    · have h3 : d < c := by omega
      simp [h1, h2, h3]

theorem zero_eq (c : Int) (a : ByteArray) : ballots_Zero.f c a = some (zer c a) := rfl
theorem compat_eq (c : Int) (a : ByteArray) (d : Int) (b : ByteArray) : ballots_Compatible.f c a d b = some (cmpt a b) := rfl
theorem aborts_eq (c : Int) (a : ByteArray) (d : Int) (b : ByteArray) {k : Nat} (hk : 3 ≤ k) : ballots_Aborts.f k c a d b = some (abt c a d b) := by
  unfold ballots_Aborts.f abt
  rw [zero_eq, compat_eq, less_eq _ _ _ _ hk]
  simp only [Option.bind_some]
  cases zer c a <;> cases cmpt a b <;> simp

-- the four values
theorem vlt_val : ∀ i, i < 4 → ∀ j, j < 4 → vlt (valOf i) (valOf j) = decide (i < j) := by decide +kernel
theorem cmpt_val : ∀ i, i < 4 → ∀ j, j < 4 → cmpt (valOf i) (valOf j) = decide (i = j) := by decide +kernel
theorem ne_val : ∀ i, i < 4 → ((valOf i).toList == ([] : List UInt8)) = false := by decide +kernel
theorem size_val : ∀ i, i < 4 → 1 ≤ (valOf i).size ∧ (valOf i).size ≤ 2 := by decide +kernel
theorem zer_val (c : Int) {i : Nat} (hi : i < 4) : zer c (valOf i) = false := by unfold zer; rw [ne_val i hi]; simp
theorem blt_val (c : Int) {i : Nat} (hi : i < 4) (d : Int) {j : Nat} (hj : j < 4) : blt c (valOf i) d (valOf j) = decide (c < d ∨ c = d ∧ i < j) := by
  unfold blt
  rw [vlt_val i hi j hj]
  by_cases h : c = d
  · simp [h]
  · simp [h]
theorem abt_val (c : Int) {i : Nat} (hi : i < 4) (d : Int) {j : Nat} (hj : j < 4) : abt c (valOf i) d (valOf j) = decide (i ≠ j ∧ (d < c ∨ d = c ∧ j < i)) := by
  unfold abt
  rw [zer_val c hi, cmpt_val i hi j hj, blt_val d hj c hi]
  by_cases h : i = j <;> simp [h]

theorem Range_eq {L : List Int} {p a b : Int} (h : St L p) (ha : -1000 ≤ a) (hab : a ≤ b) (hb : b ≤ 100000) : ∃ r p', trustquorumplay_Src_Range.f L p a b = some (r, p') ∧ a ≤ r ∧ r ≤ b ∧ St L p' := by
  have e1 : wrap64 (b - a) = b - a := w64 (by omega) (by omega)
  have e2 : wrap64 (b - a + 1) = b - a + 1 := w64 (by omega) (by omega)
  obtain ⟨r, p', hr, h0, h1, hs⟩ := N_eq (n := b - a + 1) h (by omega) (by omega)
  refine ⟨a + r, p', ?_, by omega, by omega, hs⟩
  unfold trustquorumplay_Src_Range.f
  rw [e1, e2, hr]
  simp only [Option.bind_some]
  rw [w64 (x := a + r) (by omega) (by omega)]

theorem Low_eq {L : List Int} {p : Int} (h : St L p) : ∃ c i p', trustquorumplay_Src_Low.f L p = some (c, valOf i, p') ∧ 1 ≤ c ∧ c ≤ 6 ∧ i < 4 ∧ St L p' := by
  obtain ⟨c, p1, h1, c0, c1, s1⟩ := Range_eq (a := 1) (b := 6) h (by omega) (by omega) (by omega)
  obtain ⟨i, p2, h2, hi, s2⟩ := Value_eq s1
  refine ⟨c, i, p2, ?_, c0, c1, hi, s2⟩
  unfold trustquorumplay_Src_Low.f
  rw [h1]; simp only [Option.bind_some]
  rw [h2]; rfl

theorem reflv_eq (a b : ByteArray) : trustquorumref23_LessValue.f a b = some (vlt a b) := by
  unfold trustquorumref23_LessValue.f vlt
  by_cases h : a.size = b.size
  · rw [if_pos (by omega), if_pos h]
  · rw [if_neg (by omega), if_neg h]
    congr 1
    rw [decide_eq_decide]; omega
theorem refless_eq (c : Int) (a : ByteArray) (d : Int) (b : ByteArray) : trustquorumref23_Less.f c a d b = some (blt c a d b) := by
  unfold trustquorumref23_Less.f blt
  rw [reflv_eq]
  split <;> rfl
theorem refcompat_eq (c : Int) (a : ByteArray) (d : Int) (b : ByteArray) : trustquorumref23_Compatible.f c a d b = some (cmpt a b) := rfl

theorem refzero_eq (c : Int) (a : ByteArray) : trustquorumref23_Zero.f c a = some (zer c a) := rfl
theorem refaborts_eq (c : Int) (a : ByteArray) (d : Int) (b : ByteArray) : trustquorumref23_Aborts.f c a d b = some (abt c a d b) := by
  unfold trustquorumref23_Aborts.f abt
  rw [refzero_eq, refcompat_eq, refless_eq]
  simp only [Option.bind_some]
  cases zer c a <;> cases cmpt a b <;> simp

-- the lowest counter
theorem valid_val (c : Int) (h0 : 1 ≤ c) (h1 : c ≤ 1000) {i : Nat} (hi : i < 4) : ballots_Valid.f c (valOf i) = some true := by
  obtain ⟨s1, s2⟩ := size_val i hi
  unfold ballots_Valid.f
  rw [if_pos (by omega), if_pos (by omega), if_pos (by omega)]
  simp only [Option.some.injEq, decide_eq_true_eq]; omega
def stp (v : Nat) (n c : Int) (i : Nat) : Int := if i ≠ v ∧ (n < c ∨ n = c ∧ v < i) then (if v < i then c + 1 else c) else n
theorem rd2_0 (x y : S26) : rd_T26 [x, y] 0 = x := rfl
theorem rd2_1 (x y : S26) : rd_T26 [x, y] 1 = y := rfl
theorem lowest_val (n c : Int) (i : Nat) (d : Int) (j v : Nat) (hi : i < 4) (hj : j < 4) (hv : v < 4) (hc0 : 1 ≤ c) (hc1 : c ≤ 1000) (hd0 : 1 ≤ d) (hd1 : d ≤ 1000) (hn0 : 1 ≤ n) (hn1 : n ≤ 1000) {k : Nat} (hk : 10 ≤ k) :
    ballots_Lowest.f k (valOf v) n c (valOf i) d (valOf j) = some (stp v (stp v n c i) d j) := by
  obtain ⟨m, rfl⟩ : ∃ m, k = m + 10 := ⟨k - 10, by omega⟩
  have key : ∀ (k : Nat) (n c : Int) (i : Nat) (l : List S26) (q s : Int), i < 4 → 1 ≤ c → c ≤ 1000 → 1 ≤ n → n ≤ 1001 → s < q → 0 ≤ s → s < l.length → s ≤ 5 → rd_T26 l s = ⟨c, valOf i⟩ →
      ballots_Lowest.l0 (k + 5) (valOf v) n l q s = ballots_Lowest.l0 (k + 3) (valOf v) (stp v n c i) l q (s + 1) := by
    intro k n c i l q s hi hc0 hc1 hn0 hn1 hs1 hs2 hs3 hs4 hrd
    have w1 : wrap64 (s + 1) = s + 1 := w64 (by omega) (by omega)
    have w2 : wrap64 (c + 1) = c + 1 := w64 (by omega) (by omega)
    have e1 : ballots_Lowest.l0 (k + 5) (valOf v) n l q s = ballots_Lowest.j1 (k + 4) (valOf v) n l q s (!(abt c (valOf i) n (valOf v))) c (valOf i) := by
      show ballots_Lowest.l0 ((k + 4) + 1) (valOf v) n l q s = _
      rw [ballots_Lowest.l0, if_pos hs1, if_pos hs2, if_pos hs3, hrd]
      simp only [valid_val c hc0 hc1 hi, Option.bind_some, if_true]
      rw [aborts_eq _ _ _ _ (by omega)]
      rfl
    rw [e1]
    show ballots_Lowest.j1 ((k + 3) + 1) _ _ _ _ _ _ _ _ = _
    rw [ballots_Lowest.j1, aborts_eq _ _ _ _ (by omega), w1, w2, abt_val c hi n hv, abt_val c hi c hv, Option.bind_some]
    unfold stp
    by_cases h : i ≠ v ∧ (n < c ∨ n = c ∧ v < i)
    · rw [decide_eq_true h, if_pos h, if_neg (show ¬ ((!true) = true) by decide)]
      by_cases h2 : v < i
      · have h3 : i ≠ v ∧ (c < c ∨ c = c ∧ v < i) := ⟨by omega, .inr ⟨rfl, h2⟩⟩
        rw [if_pos (decide_eq_true h3), if_pos h2]
      · have h3 : ¬ (i ≠ v ∧ (c < c ∨ c = c ∧ v < i)) := by omega
        rw [if_neg (by rw [decide_eq_true_eq]; exact h3), if_neg h2]
    · rw [decide_eq_false h, if_neg h]
      simp only [Bool.not_false, if_true]
  have hm : mx n 1 = n := by unfold mx; split <;> omega
  unfold ballots_Lowest.f
  simp only [Option.bind_some]
  rw [hm]
  have l2 : ((([(⟨c, valOf i⟩ : S26), (⟨d, valOf j⟩ : S26)] : List S26).length : Nat) : Int) = 2 := rfl
  rw [l2]
  have hb : 1 ≤ stp v n c i ∧ stp v n c i ≤ 1001 := by unfold stp; repeat (first | split | omega)
  rw [show m + 10 = (m + 5) + 5 from rfl, key (m + 5) n c i _ 2 0 hi hc0 hc1 hn0 (by omega) (by omega) (by omega) (by rw [l2]; omega) (by omega) rfl]
  rw [show m + 5 + 3 = (m + 3) + 5 from rfl, key (m + 3) _ d j _ 2 (0 + 1) hj hd0 hd1 hb.1 hb.2 (by omega) (by omega) (by rw [l2]; omega) (by omega) rfl]
  show ballots_Lowest.l0 ((m + 5) + 1) _ _ _ _ _ = _
  rw [ballots_Lowest.l0, if_neg (by omega)]

theorem sane_eq {k : Nat} (hk : 20 ≤ k) : trustquorumlaw23_sane.f k = some true := by
  obtain ⟨m, rfl⟩ : ∃ m, k = m + 20 := ⟨k - 20, by omega⟩
  have z1 : zer 0 (⟨#[]⟩ : ByteArray) = true := by decide +kernel
  have a1 : abt 3 (⟨#[98]⟩ : ByteArray) 3 (⟨#[97]⟩ : ByteArray) = true := by decide +kernel
  have a2 : abt 3 (⟨#[98]⟩ : ByteArray) 2 (⟨#[99]⟩ : ByteArray) = true := by decide +kernel
  have a3 : abt 3 (⟨#[98]⟩ : ByteArray) 3 (⟨#[99]⟩ : ByteArray) = false := by decide +kernel
  have a4 : abt 4 (⟨#[98]⟩ : ByteArray) 2 (⟨#[97]⟩ : ByteArray) = true := by decide +kernel
  have a5 : abt 4 (⟨#[98]⟩ : ByteArray) 4 (⟨#[97]⟩ : ByteArray) = true := by decide +kernel
  have v1 : ballots_Valid.f 4 (⟨#[98]⟩ : ByteArray) = some true := by decide +kernel
  have v2 : ballots_Valid.f 0 (⟨#[]⟩ : ByteArray) = some false := by decide +kernel
  have hL : ballots_Lowest.f (m + 20) (⟨#[97]⟩ : ByteArray) 2 4 (⟨#[98]⟩ : ByteArray) 0 (⟨#[]⟩ : ByteArray) = some 5 := by
    unfold ballots_Lowest.f
    simp only [Option.bind_some]
    have l2 : ((([(⟨4, (⟨#[98]⟩ : ByteArray)⟩ : S26), (⟨0, (⟨#[]⟩ : ByteArray)⟩ : S26)] : List S26).length : Nat) : Int) = 2 := rfl
    have hm : mx 2 1 = 2 := by unfold mx; rfl
    rw [l2, hm]
    have r0 : rd_T26 [(⟨4, (⟨#[98]⟩ : ByteArray)⟩ : S26), (⟨0, (⟨#[]⟩ : ByteArray)⟩ : S26)] 0 = ⟨4, (⟨#[98]⟩ : ByteArray)⟩ := rfl
    have r1 : rd_T26 [(⟨4, (⟨#[98]⟩ : ByteArray)⟩ : S26), (⟨0, (⟨#[]⟩ : ByteArray)⟩ : S26)] 1 = ⟨0, (⟨#[]⟩ : ByteArray)⟩ := rfl
    have w1 : wrap64 (0 + 1) = 1 := by unfold wrap64; omega
    have w2 : wrap64 (1 + 1) = 2 := by unfold wrap64; omega
    have w3 : wrap64 (4 + 1) = 5 := by unfold wrap64; omega
    show ballots_Lowest.l0 ((m + 19) + 1) _ _ _ _ _ = _
    rw [ballots_Lowest.l0, if_pos (by omega), if_pos (by omega), if_pos (by rw [l2]; omega), r0]
    simp only [v1, Option.bind_some, if_true]
    rw [aborts_eq _ _ _ _ (by omega), a4]
    simp only [Option.bind_some, Bool.not_true]
    show ballots_Lowest.j1 ((m + 18) + 1) _ _ _ _ _ _ _ _ = _
    rw [ballots_Lowest.j1, aborts_eq _ _ _ _ (by omega), a5, w1, w3]
    simp only [Option.bind_some, Bool.false_eq_true, if_false, if_true]
    show ballots_Lowest.l0 ((m + 17) + 1) _ _ _ _ _ = _
    rw [ballots_Lowest.l0, if_pos (by omega), if_pos (by omega), if_pos (by rw [l2]; omega), r1]
    simp only [v2, Option.bind_some, Bool.false_eq_true, if_false]
    show ballots_Lowest.j1 ((m + 16) + 1) _ _ _ _ _ _ _ _ = _
    rw [ballots_Lowest.j1]
    simp only [if_true]
    rw [w2]
    show ballots_Lowest.l0 ((m + 15) + 1) _ _ _ _ _ = _
    rw [ballots_Lowest.l0, if_neg (by omega)]
  unfold trustquorumlaw23_sane.f
  rw [hL, aborts_eq _ _ _ _ (by omega), aborts_eq _ _ _ _ (by omega), aborts_eq _ _ _ _ (by omega), a1, a2, a3]
  rfl

theorem rounds (v : Nat) (hv : v < 4) (c : Int) (i : Nat) (d : Int) (j : Nat) (hi : i < 4) (hj : j < 4) (K : Int) (hK : K ≤ 1010) (e : Nat) :
    ∀ (n : Int) (k : Nat), 1 ≤ n → K - n ≤ e → (∀ m : Int, n ≤ m → m < K → (i ≠ v ∧ (m < c ∨ m = c ∧ v < i)) ∨ (j ≠ v ∧ (m < d ∨ m = d ∧ v < j))) → e + 30 ≤ k →
      trustquorumlaw23_BallotsLowest.l0 k (valOf v) K n c (valOf i) d (valOf j) = some true := by
  induction e with
  | zero =>
    intro n k hn he ha hk
    obtain ⟨k, rfl⟩ : ∃ m, k = m + 1 := ⟨k - 1, by omega⟩
    rw [trustquorumlaw23_BallotsLowest.l0, if_neg (by omega), sane_eq (by omega)]; rfl
  | succ e ih =>
    intro n k hn he ha hk
    obtain ⟨k, rfl⟩ : ∃ m, k = m + 1 := ⟨k - 1, by omega⟩
    by_cases hlt : n < K
    · rw [trustquorumlaw23_BallotsLowest.l0, if_pos hlt, refaborts_eq, refaborts_eq, abt_val c hi n hv, abt_val d hj n hv, w64 (x := n + 1) (by omega) (by omega)]
      simp only [Option.bind_some]
      have nx := ih (n + 1) k (by omega) (by omega) (fun m h1 h2 => ha m (by omega) h2) (by omega)
      rw [nx]
      rcases ha n (by omega) hlt with h | h
      · rw [if_pos (decide_eq_true h)]
      · by_cases h2 : decide (i ≠ v ∧ (n < c ∨ n = c ∧ v < i)) = true
        · rw [if_pos h2]
        · rw [if_neg h2, if_pos (decide_eq_true h)]
    · rw [trustquorumlaw23_BallotsLowest.l0, if_neg hlt, sane_eq (by omega)]; rfl

theorem BallotsLowest : trustquorumlaw23_BallotsLowest.Pure := by
  intro l0 a1 _ _ _ hw
  obtain ⟨b0, b1⟩ := bounds_u8 hw
  obtain ⟨L, hL, s0⟩ := New_eq l0
  obtain ⟨c, i, p1, h1, c0, c1, hi, s1⟩ := Low_eq s0
  obtain ⟨d, j, p2, h2, d0, d1, hj, s2⟩ := Low_eq s1
  obtain ⟨v, p3, h3, hv, s3⟩ := Value_eq s2
  have en : wrap64 (1 + (Int.tmod (wrap64 (a1)) 8)) = 1 + a1 % 8 := by
    rw [w64 (x := a1) (by omega) (by omega), Int.tmod_eq_emod_of_nonneg b0, w64 (by omega) (by omega)]
  have n0 : 1 ≤ 1 + a1 % 8 := by omega
  have n1 : 1 + a1 % 8 ≤ 8 := by omega
  generalize 1 + a1 % 8 = n at en n0 n1
  refine ⟨100, ?_⟩
  unfold trustquorumlaw23_BallotsLowest.f
  rw [hL]; simp only [Option.bind_some]
  rw [h1]; simp only [Option.bind_some]
  rw [h2]; simp only [Option.bind_some]
  rw [h3]; simp only [Option.bind_some]
  rw [en, lowest_val n c i d j v hi hj hv (by omega) (by omega) (by omega) (by omega) (by omega) (by omega) (by omega)]
  simp only [Option.bind_some]
  have hs : ∀ (n c : Int) (i : Nat), n ≤ stp v n c i ∧ stp v n c i ≤ mx n (c + 1) ∧ ¬ (i ≠ v ∧ (stp v n c i < c ∨ stp v n c i = c ∧ v < i)) ∧ (∀ m : Int, n ≤ m → m < stp v n c i → i ≠ v ∧ (m < c ∨ m = c ∧ v < i)) := by
    intro n c i
    unfold stp mx
    by_cases h : i ≠ v ∧ (n < c ∨ n = c ∧ v < i)
    · rw [if_pos h]
      by_cases h2 : v < i
      · rw [if_pos h2]; refine ⟨by omega, by split <;> omega, by omega, fun m h3 h4 => ⟨h.1, by omega⟩⟩
      · rw [if_neg h2]; refine ⟨by omega, by split <;> omega, by omega, fun m h3 h4 => ⟨h.1, by omega⟩⟩
    · rw [if_neg h]; exact ⟨by omega, by split <;> omega, h, fun m h3 h4 => by omega⟩
  obtain ⟨x1, x2, x3, x4⟩ := hs n c i
  generalize stp v n c i = n1' at x1 x2 x3 x4
  obtain ⟨y1, y2, y3, y4⟩ := hs n1' d j
  generalize stp v n1' d j = K at y1 y2 y3 y4
  have hK : K ≤ 20 := by unfold mx at x2 y2; split at x2 <;> split at y2 <;> omega
  rw [if_neg (by omega), refaborts_eq, refaborts_eq, abt_val c hi K hv, abt_val d hj K hv]
  simp only [Option.bind_some]
  rw [decide_eq_false (by omega), decide_eq_false y3]
  simp only [Bool.false_eq_true, if_false]
  rw [trustquorumlaw23_BallotsLowest.j0]
  simp only [Bool.false_eq_true, if_false]
  refine rounds v hv c i d j hi hj K (by omega) 20 n 99 n0 (by omega) ?_ (by omega)
  intro m h1 h2
  by_cases h3 : m < n1'
  · exact .inl (x4 m h1 h3)
  · exact .inr (y4 m (by omega) h2)

end Go.Proofs.Ytogdpfmlldaeeaa.Pure
