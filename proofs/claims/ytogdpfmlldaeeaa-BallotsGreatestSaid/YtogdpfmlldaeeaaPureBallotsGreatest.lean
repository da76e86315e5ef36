/- For every list of numbers, the greatest ballot of the drawn list is one of it, none is greater, and the order of the list does not matter: the statement over numbers and lists that the printed row asks. No condition. -/
import Derived.Test.YtogdpfmlldaeeaaQBallotsGreatestx5
import Derived.OpenShut
set_option linter.unusedSimpArgs false
set_option linter.unusedVariables false
namespace Go.Proofs.Ytogdpfmlldaeeaa.Pure
open Go.RowKit Go.Proofs.Ytogdpfmlldaeeaa.QBallotsGreatest Go.Proofs.YtogdpfmlldaeeaaW.PrintWords Go.Proofs.YtogdpfmlldaeeaaW.PrintLast Go.Proofs.YtogdpfmlldaeeaaW.PrintMore

-- plain facts on the source of numbers, on values and on ballots
theorem w64 {x : Int} (h : -9223372036854775808 ≤ x) (h' : x ≤ 9223372036854775807) : wrap64 x = x := by unfold wrap64; omega

structure St (L : List Int) (p : Int) : Prop where
  len : L.length ≤ 800
  lo : 0 ≤ p
  hi : p ≤ 800

theorem New_eq (l : List Int) : ∃ L, trustquorumplay_New.f l = some (L, 0) ∧ St L 0 := by
  unfold trustquorumplay_New.f
  have h0 : 0 ≤ mn (l.length : Int) 800 := by unfold mn; split <;> omega
  have h1 : mn (l.length : Int) 800 ≤ l.length := by unfold mn; split <;> omega
  have h2 : mn (l.length : Int) 800 ≤ 800 := by unfold mn; split <;> omega
  rw [if_pos h0, if_pos h1]
  refine ⟨_, rfl, ⟨?_, by omega, by omega⟩⟩
  rw [List.length_take]; omega

theorem N_eq {L : List Int} {p n : Int} (h : St L p) (hn : 1 ≤ n) (hn2 : n ≤ 1000000) : ∃ r p', trustquorumplay_Src_N.f L p n = some (r, p') ∧ 0 ≤ r ∧ r < n ∧ St L p' := by
  unfold trustquorumplay_Src_N.f
  by_cases h1 : p ≥ (L.length : Int)
  · exact ⟨0, p, by rw [if_pos h1], by omega, by omega, h⟩
  · have hp : p < L.length := by omega
    have h3 := h.len
    have h4 := h.lo
    have e1 : wrap64 (p + 1) = p + 1 := w64 (by omega) (by omega)
    have e2 : wrap64 ((p + 1) - 1) = p := by unfold wrap64; omega
    rw [if_neg h1, if_neg (by omega), e1, e2, if_pos h.lo, if_pos hp, if_neg (by omega)]
    have b1 := Int.tmod_lt_of_pos (rd L p) (show 0 < n by omega)
    have b2 := Int.lt_tmod_of_pos (rd L p) (show 0 < n by omega)
    have e3 : wrap64 (Int.tmod (rd L p) n + n) = Int.tmod (rd L p) n + n := w64 (by omega) (by omega)
    rw [e3]
    refine ⟨_, _, rfl, Int.tmod_nonneg _ (by omega), Int.tmod_lt_of_pos _ (by omega), ⟨h.len, by omega, by omega⟩⟩

def valOf : Nat → ByteArray
  | 0 => ⟨#[97]⟩
  | 1 => ⟨#[98]⟩
  | 2 => ⟨#[99]⟩
  | _ => ⟨#[97, 97]⟩

theorem Text4 {L : List Int} {p : Int} (h : St L p) : ∃ i p', trustquorumplay_Src_Text.f L p ([(⟨#[97]⟩ : ByteArray), (⟨#[98]⟩ : ByteArray), (⟨#[99]⟩ : ByteArray), (⟨#[97, 97]⟩ : ByteArray)] : List ByteArray) = some (valOf i, p') ∧ i < 4 ∧ St L p' := by
  obtain ⟨r, p', hr, h0, h1, hs⟩ := N_eq (n := 4) h (by omega) (by omega)
  obtain ⟨i, rfl⟩ := Int.eq_ofNat_of_zero_le h0
  refine ⟨i, p', ?_, by omega, hs⟩
  unfold trustquorumplay_Src_Text.f
  simp only [List.length_cons, List.length_nil, Nat.zero_add, Nat.reduceAdd]
  have e4 : (((4 : Nat) : Int)) = 4 := rfl
  rw [e4, hr]
  simp only [Option.bind_some]
  rw [if_pos (by omega), if_pos (by omega)]
  have : i = 0 ∨ i = 1 ∨ i = 2 ∨ i = 3 := by omega
  rcases this with rfl | rfl | rfl | rfl <;> rfl

theorem Value_eq {L : List Int} {p : Int} (h : St L p) : ∃ i p', trustquorumplay_Src_Value.f L p = some (valOf i, p') ∧ i < 4 ∧ St L p' := by
  obtain ⟨i, p', hr, hi, hs⟩ := Text4 h
  refine ⟨i, p', ?_, hi, hs⟩
  unfold trustquorumplay_Src_Value.f
  rw [hr]; rfl

-- the order of values and of ballots
def vlt (a b : ByteArray) : Bool := if a.size = b.size then Op.bytesLess a.toList b.toList else decide (a.size < b.size)
def blt (c : Int) (a : ByteArray) (d : Int) (b : ByteArray) : Bool := if c = d then vlt a b else decide (c < d)
def zer (c : Int) (a : ByteArray) : Bool := c == 0 && (a.toList == ([] : List UInt8))
def cmpt (a b : ByteArray) : Bool := a.toList == b.toList
def abt (c : Int) (a : ByteArray) (d : Int) (b : ByteArray) : Bool := !zer c a && !cmpt a b && blt d b c a
def cmi (a b : Int) : Int := if a < b then -1 else if b < a then 1 else 0
def cms (a b : ByteArray) : Int := if Op.bytesLess a.toList b.toList = true then -1 else if Op.bytesLess b.toList a.toList = true then 1 else 0
def cmv (a b : ByteArray) : Int := if cmi (a.size : Int) (b.size : Int) = 0 then cms a b else cmi (a.size : Int) (b.size : Int)

theorem cmi_eq (a b : Int) : cmp_Compare_int.f a b = some (cmi a b) := by
  unfold cmp_Compare_int.f cmp_isNaN_int.f cmi
  simp only [Option.bind_some, bne_self_eq_false, Bool.false_eq_true, if_false]
  split <;> (try rfl)
  split <;> (try rfl)

theorem cms_eq (a b : ByteArray) : cmp_Compare_string.f a b = some (cms a b) := by
  unfold cmp_Compare_string.f cmp_isNaN_string.f cms
  simp only [Option.bind_some, bne_self_eq_false, Bool.false_eq_true, if_false]
  split <;> (try rfl)
  split <;> (try rfl)

theorem or_eq (x y : Int) {k : Nat} (hk : 3 ≤ k) : cmp_Or_int.f k ([x, y] : List Int) = some (if x = 0 then y else x) := by
  obtain ⟨m, rfl⟩ : ∃ m, k = m + 3 := ⟨k - 3, by omega⟩
  have r0 : rd [x, y] 0 = x := rfl
  have r1 : rd [x, y] 1 = y := rfl
  have w1 : wrap64 (0 + 1) = 1 := by unfold wrap64; omega
  have w2 : wrap64 (1 + 1) = 2 := by unfold wrap64; omega
  have l2 : (([x, y] : List Int).length : Int) = 2 := rfl
  unfold cmp_Or_int.f
  rw [l2]
  simp only [cmp_Or_int.l0]
  rw [l2, w1, w2, r0, r1]
  simp only [show (0 : Int) < 2 from by omega, show (1 : Int) < 2 from by omega, show (0 : Int) ≤ 0 from by omega, show (0 : Int) ≤ 1 from by omega, if_true, show ¬ ((2 : Int) < 2) from by omega, if_false]
  by_cases hx : x = 0
  · rw [if_pos hx, if_pos hx]
    by_cases hy : y = 0
    · rw [if_pos hy, hy]
    · rw [if_neg hy]
  · rw [if_neg hx, if_neg hx]

theorem cmv_eq (a b : ByteArray) {k : Nat} (hk : 3 ≤ k) : ballots_CompareValues.f k a b = some (cmv a b) := by
  unfold ballots_CompareValues.f cmv
  rw [cmi_eq, cms_eq]
  simp only [Option.bind_some]
  rw [or_eq _ _ hk]
  rfl

theorem cmv_neg (a b : ByteArray) : decide (cmv a b < 0) = vlt a b := by
  unfold cmv cmi cms vlt
  by_cases h1 : a.size < b.size
  · have h2 : ¬ a.size = b.size := by omega
    have h3 : (a.size : Int) < (b.size : Int) := by omega
    simp [h1, h2, h3]
  · by_cases h2 : a.size = b.size
    · simp only [h2, Int.lt_irrefl, if_false, if_true]
      cases h : Op.bytesLess a.toList b.toList
      · simp only [Bool.false_eq_true, if_false]; split <;> rfl
      · rfl
    · have h3 : ¬ (a.size : Int) < (b.size : Int) := by omega
      have h4 : (b.size : Int) < (a.size : Int) := by omega
      simp [h1, h2, h3, h4]

theorem less_eq (c : Int) (a : ByteArray) (d : Int) (b : ByteArray) {k : Nat} (hk : 3 ≤ k) : ballots_Less.f k c a d b = some (blt c a d b) := by
  unfold ballots_Less.f ballots_Compare.f
  rw [cmi_eq, cmv_eq a b hk]
  simp only [Option.bind_some]
  rw [or_eq _ _ hk]
  simp only [Option.bind_some]
  unfold blt cmi
  by_cases h1 : c < d
  · have h2 : ¬ c = d := by omega
    simp [h1, h2]
  · by_cases h2 : c = d
    · simp only [h2, Int.lt_irrefl, if_false, if_true]; rw [cmv_neg]
    · have h3 : d < c := by omega
      simp [h1, h2, h3]

theorem zero_eq (c : Int) (a : ByteArray) : ballots_Zero.f c a = some (zer c a) := rfl
theorem compat_eq (c : Int) (a : ByteArray) (d : Int) (b : ByteArray) : ballots_Compatible.f c a d b = some (cmpt a b) := rfl
theorem aborts_eq (c : Int) (a : ByteArray) (d : Int) (b : ByteArray) {k : Nat} (hk : 3 ≤ k) : ballots_Aborts.f k c a d b = some (abt c a d b) := by
  unfold ballots_Aborts.f abt
  rw [zero_eq, compat_eq, less_eq _ _ _ _ hk]
  simp only [Option.bind_some]
  cases zer c a <;> cases cmpt a b <;> simp

-- the four values
theorem vlt_val : ∀ i, i < 4 → ∀ j, j < 4 → vlt (valOf i) (valOf j) = decide (i < j) := by decide +kernel
theorem cmpt_val : ∀ i, i < 4 → ∀ j, j < 4 → cmpt (valOf i) (valOf j) = decide (i = j) := by decide +kernel
theorem ne_val : ∀ i, i < 4 → ((valOf i).toList == ([] : List UInt8)) = false := by decide +kernel
theorem size_val : ∀ i, i < 4 → 1 ≤ (valOf i).size ∧ (valOf i).size ≤ 2 := by decide +kernel
theorem zer_val (c : Int) {i : Nat} (hi : i < 4) : zer c (valOf i) = false := by unfold zer; rw [ne_val i hi]; simp
theorem blt_val (c : Int) {i : Nat} (hi : i < 4) (d : Int) {j : Nat} (hj : j < 4) : blt c (valOf i) d (valOf j) = decide (c < d ∨ c = d ∧ i < j) := by
  unfold blt
  rw [vlt_val i hi j hj]
  by_cases h : c = d
  · simp [h]
  · simp [h]
theorem abt_val (c : Int) {i : Nat} (hi : i < 4) (d : Int) {j : Nat} (hj : j < 4) : abt c (valOf i) d (valOf j) = decide (i ≠ j ∧ (d < c ∨ d = c ∧ j < i)) := by
  unfold abt
  rw [zer_val c hi, cmpt_val i hi j hj, blt_val d hj c hi]
  by_cases h : i = j <;> simp [h]

theorem sane_eq {k : Nat} (hk : 20 ≤ k) : trustquorumlaw23_sane.f k = some true := by
  obtain ⟨m, rfl⟩ : ∃ m, k = m + 20 := ⟨k - 20, by omega⟩
  have z1 : zer 0 (⟨#[]⟩ : ByteArray) = true := by decide +kernel
  have a1 : abt 3 (⟨#[98]⟩ : ByteArray) 3 (⟨#[97]⟩ : ByteArray) = true := by decide +kernel
  have a2 : abt 3 (⟨#[98]⟩ : ByteArray) 2 (⟨#[99]⟩ : ByteArray) = true := by decide +kernel
  have a3 : abt 3 (⟨#[98]⟩ : ByteArray) 3 (⟨#[99]⟩ : ByteArray) = false := by decide +kernel
  have a4 : abt 4 (⟨#[98]⟩ : ByteArray) 2 (⟨#[97]⟩ : ByteArray) = true := by decide +kernel
  have a5 : abt 4 (⟨#[98]⟩ : ByteArray) 4 (⟨#[97]⟩ : ByteArray) = true := by decide +kernel
  have v1 : ballots_Valid.f 4 (⟨#[98]⟩ : ByteArray) = some true := by decide +kernel
  have v2 : ballots_Valid.f 0 (⟨#[]⟩ : ByteArray) = some false := by decide +kernel
  have hL : ballots_Lowest.f (m + 20) (⟨#[97]⟩ : ByteArray) 2 4 (⟨#[98]⟩ : ByteArray) 0 (⟨#[]⟩ : ByteArray) = some 5 := by
    unfold ballots_Lowest.f
    simp only [Option.bind_some]
    have l2 : ((([(⟨4, (⟨#[98]⟩ : ByteArray)⟩ : S26), (⟨0, (⟨#[]⟩ : ByteArray)⟩ : S26)] : List S26).length : Nat) : Int) = 2 := rfl
    have hm : mx 2 1 = 2 := by unfold mx; rfl
    rw [l2, hm]
    have r0 : rd_T26 [(⟨4, (⟨#[98]⟩ : ByteArray)⟩ : S26), (⟨0, (⟨#[]⟩ : ByteArray)⟩ : S26)] 0 = ⟨4, (⟨#[98]⟩ : ByteArray)⟩ := rfl
    have r1 : rd_T26 [(⟨4, (⟨#[98]⟩ : ByteArray)⟩ : S26), (⟨0, (⟨#[]⟩ : ByteArray)⟩ : S26)] 1 = ⟨0, (⟨#[]⟩ : ByteArray)⟩ := rfl
    have w1 : wrap64 (0 + 1) = 1 := by unfold wrap64; omega
    have w2 : wrap64 (1 + 1) = 2 := by unfold wrap64; omega
    have w3 : wrap64 (4 + 1) = 5 := by unfold wrap64; omega
    show ballots_Lowest.l0 ((m + 19) + 1) _ _ _ _ _ = _
    rw [ballots_Lowest.l0, if_pos (by omega), if_pos (by omega), if_pos (by rw [l2]; omega), r0]
    simp only [v1, Option.bind_some, if_true]
    rw [aborts_eq _ _ _ _ (by omega), a4]
    simp only [Option.bind_some, Bool.not_true]
    show ballots_Lowest.j1 ((m + 18) + 1) _ _ _ _ _ _ _ _ = _
    rw [ballots_Lowest.j1, aborts_eq _ _ _ _ (by omega), a5, w1, w3]
    simp only [Option.bind_some, Bool.false_eq_true, if_false, if_true]
    show ballots_Lowest.l0 ((m + 17) + 1) _ _ _ _ _ = _
    rw [ballots_Lowest.l0, if_pos (by omega), if_pos (by omega), if_pos (by rw [l2]; omega), r1]
    simp only [v2, Option.bind_some, Bool.false_eq_true, if_false]
    show ballots_Lowest.j1 ((m + 16) + 1) _ _ _ _ _ _ _ _ = _
    rw [ballots_Lowest.j1]
    simp only [if_true]
    rw [w2]
    show ballots_Lowest.l0 ((m + 15) + 1) _ _ _ _ _ = _
    rw [ballots_Lowest.l0, if_neg (by omega)]
  unfold trustquorumlaw23_sane.f
  rw [hL, aborts_eq _ _ _ _ (by omega), aborts_eq _ _ _ _ (by omega), aborts_eq _ _ _ _ (by omega), a1, a2, a3]
  rfl

theorem Pick7 {L : List Int} {p : Int} (h : St L p) : ∃ c p', trustquorumplay_Src_Pick.f L p ([1, 2, 3, 4, 5, 1000, 1000000] : List Int) = some (c, p') ∧ 1 ≤ c ∧ St L p' := by
  obtain ⟨r, p', hr, h0, h1, hs⟩ := N_eq (n := 7) h (by omega) (by omega)
  have l7 : ((([1, 2, 3, 4, 5, 1000, 1000000] : List Int).length : Nat) : Int) = 7 := rfl
  unfold trustquorumplay_Src_Pick.f
  rw [l7, hr]
  simp only [Option.bind_some]
  rw [if_pos h0, if_pos h1]
  refine ⟨_, _, rfl, ?_, hs⟩
  have : r = 0 ∨ r = 1 ∨ r = 2 ∨ r = 3 ∨ r = 4 ∨ r = 5 ∨ r = 6 := by omega
  rcases this with rfl | rfl | rfl | rfl | rfl | rfl | rfl <;> decide
theorem Ballot_eq {L : List Int} {p : Int} (h : St L p) : ∃ c i p', trustquorumplay_Src_Ballot.f L p = some (c, valOf i, p') ∧ i < 4 ∧ 1 ≤ c ∧ St L p' := by
  obtain ⟨c, p1, h1, hc, s1⟩ := Pick7 h
  obtain ⟨i, p2, h2, hi, s2⟩ := Value_eq s1
  refine ⟨c, i, p2, ?_, hi, hc, s2⟩
  unfold trustquorumplay_Src_Ballot.f
  rw [h1]; simp only [Option.bind_some]
  rw [h2]; rfl

abbrev Bt := Int × Nat
def mkB (x : Bt) : S26 := ⟨x.1, valOf x.2⟩
def okB (l : List Bt) : Prop := ∀ x ∈ l, x.2 < 4
def ltB (x y : Bt) : Bool := decide (x.1 < y.1 ∨ x.1 = y.1 ∧ x.2 < y.2)
def gmax : List Bt → Bt → Bt
  | [], g => g
  | x :: l, g => gmax l (if ltB g x = true then x else g)

theorem rd_map (l : List Bt) (s : Nat) (h : s < l.length) : rd_T26 (l.map mkB) (s : Int) = mkB (l[s]'h) := by
  unfold rd_T26
  simp [List.getD, h]
theorem ltB_eq (x y : Bt) (hx : x.2 < 4) (hy : y.2 < 4) {k : Nat} (hk : 3 ≤ k) : ballots_Less.f k x.1 (valOf x.2) y.1 (valOf y.2) = some (ltB x y) := by
  rw [less_eq _ _ _ _ hk, blt_val x.1 hx y.1 hy]; rfl

theorem greatest_loop (l : List Bt) (hl : okB l) (hn : l.length ≤ 1000) (r : Nat) : ∀ (s : Nat) (g : Bt) (k : Nat), 1 ≤ s → s + r = l.length → g.2 < 4 → r + 5 ≤ k →
    ballots_Greatest.l0 k (l.map mkB) (l.length : Int) (s : Int) g.1 (valOf g.2) = some ((gmax (l.drop s) g).1, valOf (gmax (l.drop s) g).2) := by
  induction r with
  | zero =>
    intro s g k h1 h2 hg hk
    obtain ⟨k, rfl⟩ : ∃ m, k = m + 1 := ⟨k - 1, by omega⟩
    rw [ballots_Greatest.l0, if_neg (by omega), List.drop_of_length_le (by omega)]; rfl
  | succ r ih =>
    intro s g k h1 h2 hg hk
    obtain ⟨k, rfl⟩ : ∃ m, k = m + 1 := ⟨k - 1, by omega⟩
    have hs : s < l.length := by omega
    rw [ballots_Greatest.l0, if_pos (by omega), if_pos (by omega), if_pos (by rw [List.length_map]; omega), if_neg (by omega), rd_map l s hs]
    have e1 : wrap64 ((s : Int) + 1) = ((s + 1 : Nat) : Int) := by rw [w64 (by omega) (by omega)]; omega
    show (ballots_Less.f k g.1 (valOf g.2) (l[s]).1 (valOf (l[s]).2)).bind _ = _
    rw [ltB_eq g l[s] hg (hl _ (List.getElem_mem hs)) (by omega), e1, List.drop_eq_getElem_cons hs]
    simp only [Option.bind_some]
    show _ = some ((gmax (l.drop (s + 1)) (if ltB g l[s] = true then l[s] else g)).1, valOf (gmax (l.drop (s + 1)) (if ltB g l[s] = true then l[s] else g)).2)
    by_cases hlt : ltB g l[s] = true
    · rw [if_pos hlt, if_pos hlt]; exact ih (s + 1) l[s] k (by omega) (by omega) (hl _ (List.getElem_mem hs)) (by omega)
    · rw [if_neg hlt, if_neg hlt]; exact ih (s + 1) g k (by omega) (by omega) hg (by omega)

theorem greatest_cons (x : Bt) (l : List Bt) (hl : okB (x :: l)) (hn : (x :: l).length ≤ 1000) {k : Nat} (hk : l.length + 10 ≤ k) :
    ballots_Greatest.f k ((x :: l).map mkB) = some ((gmax l x).1, valOf (gmax l x).2) := by
  obtain ⟨k, rfl⟩ : ∃ m, k = m + 1 := ⟨k - 1, by omega⟩
  unfold ballots_Greatest.f
  rw [List.length_map, ballots_Greatest.l0, if_pos (by simp only [List.length_cons]; omega), if_pos (by omega), if_pos (by rw [List.length_map]; simp only [List.length_cons]; omega), if_pos rfl]
  have e1 : wrap64 ((0 : Int) + 1) = ((1 : Nat) : Int) := by unfold wrap64; omega
  have r0 : rd_T26 ((x :: l).map mkB) 0 = mkB x := rfl
  rw [e1, r0]
  exact greatest_loop (x :: l) hl hn l.length 1 x k (by omega) (by simp; omega) (hl x (by simp)) (by omega)

theorem greatest_nil {k : Nat} (hk : 1 ≤ k) : ballots_Greatest.f k ([] : List S26) = some (0, (⟨#[]⟩ : ByteArray)) := by
  obtain ⟨k, rfl⟩ : ∃ m, k = m + 1 := ⟨k - 1, by omega⟩
  unfold ballots_Greatest.f
  rw [ballots_Greatest.l0, if_neg (by simp)]

theorem gmax_mem : ∀ (l : List Bt) (g : Bt), gmax l g = g ∨ gmax l g ∈ l
  | [], _ => .inl rfl
  | x :: l, g => by
    rcases gmax_mem l (if ltB g x = true then x else g) with h | h
    · show gmax l _ = g ∨ gmax l _ ∈ x :: l
      rw [h]; split
      · exact .inr (by simp)
      · exact .inl rfl
    · exact .inr (List.mem_cons_of_mem _ h)
theorem gmax_ge : ∀ (l : List Bt) (g : Bt), ltB (gmax l g) g = false ∧ ∀ y ∈ l, ltB (gmax l g) y = false
  | [], g => ⟨by unfold gmax ltB; exact decide_eq_false (by omega), fun y hy => by cases hy⟩
  | x :: l, g => by
    obtain ⟨h1, h2⟩ := gmax_ge l (if ltB g x = true then x else g)
    have e : gmax (x :: l) g = gmax l (if ltB g x = true then x else g) := rfl
    rw [e]
    by_cases hlt : ltB g x = true
    · rw [if_pos hlt] at h1 h2 ⊢
      have a := of_decide_eq_true hlt
      have b := of_decide_eq_false h1
      refine ⟨decide_eq_false (by omega), fun y hy => ?_⟩
      rcases List.mem_cons.1 hy with rfl | hy
      · exact h1
      · exact h2 y hy
    · rw [if_neg hlt] at h1 h2 ⊢
      have a := of_decide_eq_false (Bool.eq_false_iff.2 hlt)
      have b := of_decide_eq_false h1
      refine ⟨h1, fun y hy => ?_⟩
      rcases List.mem_cons.1 hy with rfl | hy
      · exact decide_eq_false (by omega)
      · exact h2 y hy

/-- the greatest of a list that is not empty -/
def top : List Bt → Bt
  | [] => (0, 0)
  | x :: l => gmax l x
theorem top_mem (l : List Bt) (h : l ≠ []) : top l ∈ l := by
  cases l with
  | nil => exact absurd rfl h
  | cons x l =>
    rcases gmax_mem l x with h | h
    · show gmax l x ∈ _; rw [h]; simp
    · exact List.mem_cons_of_mem _ h
theorem top_ge (l : List Bt) (y : Bt) (hy : y ∈ l) : ltB (top l) y = false := by
  cases l with
  | nil => cases hy
  | cons x l =>
    obtain ⟨h1, h2⟩ := gmax_ge l x
    rcases List.mem_cons.1 hy with rfl | hy
    · exact h1
    · exact h2 y hy
theorem top_same (l l' : List Bt) (h : l ≠ []) (hm : ∀ x, x ∈ l ↔ x ∈ l') : top l = top l' := by
  have h' : l' ≠ [] := by
    intro e; subst e
    have := (hm _).1 (top_mem l h); cases this
  have a := of_decide_eq_false (top_ge l' (top l) ((hm _).1 (top_mem l h)))
  have b := of_decide_eq_false (top_ge l (top l') ((hm _).2 (top_mem l' h')))
  have e1 : (top l).1 = (top l').1 := by omega
  have e2 : (top l).2 = (top l').2 := by omega
  exact Prod.ext e1 e2
theorem greatest_eq (l : List Bt) (hne : l ≠ []) (hl : okB l) (hn : l.length ≤ 1000) {k : Nat} (hk : l.length + 10 ≤ k) :
    ballots_Greatest.f k (l.map mkB) = some ((top l).1, valOf (top l).2) := by
  cases l with
  | nil => exact absurd rfl hne
  | cons x l => exact greatest_cons x l hl hn (by simp only [List.length_cons] at hk; omega)

theorem eqS (x y : Bt) (hx : x.2 < 4) (hy : y.2 < 4) : (x.1 == y.1 && ((valOf x.2).toList == (valOf y.2).toList)) = decide (x = y) := by
  have h := cmpt_val x.2 hx y.2 hy
  unfold cmpt at h
  rw [h]
  obtain ⟨a, b⟩ := x
  obtain ⟨c, d⟩ := y
  by_cases h1 : a = c <;> by_cases h2 : b = d <;> simp [h1, h2]

/-- the last loop -/
theorem last_loop (l back : List Bt) (g : Bt) (hl : okB l) (hn : l.length ≤ 900) (hg : g.2 < 4) (hge : ∀ y ∈ l, ltB g y = false)
    (hb : ∀ k, 940 ≤ k → ballots_Greatest.f k (back.map mkB) = some (g.1, valOf g.2)) (r : Nat) :
    ∀ (s : Nat) (x9 : Bool) (k : Nat), s + r = l.length → 1000 + r ≤ k → (x9 = true ∨ ∃ y ∈ l.drop s, y = g) →
      trustquorumlaw23_BallotsGreatest.l2 k (back.map mkB) x9 (l.map mkB) (l.length : Int) (s : Int) g.1 (valOf g.2) = some true := by
  induction r with
  | zero =>
    intro s x9 k h1 hk hx
    obtain ⟨k, rfl⟩ : ∃ m, k = m + 1 := ⟨k - 1, by omega⟩
    rw [trustquorumlaw23_BallotsGreatest.l2, if_neg (by omega)]
    have : x9 = true := by
      rcases hx with h | ⟨y, hy, _⟩
      · exact h
      · rw [List.drop_of_length_le (by omega)] at hy; cases hy
    rw [if_pos this, hb k (by omega)]
    simp only [Option.bind_some]
    rw [eqS g g hg hg, if_pos (decide_eq_true rfl), sane_eq (by omega)]; rfl
  | succ r ih =>
    intro s x9 k h1 hk hx
    obtain ⟨k, rfl⟩ : ∃ m, k = m + 1 := ⟨k - 1, by omega⟩
    have hs : s < l.length := by omega
    have hm := List.getElem_mem hs
    have e1 : wrap64 ((s : Int) + 1) = ((s + 1 : Nat) : Int) := by rw [w64 (by omega) (by omega)]; omega
    have hlt := ltB_eq g l[s] hg (hl _ hm) (k := k) (by omega)
    rw [hge _ hm] at hlt
    rw [trustquorumlaw23_BallotsGreatest.l2, if_pos (by omega), if_pos (by omega), if_pos (by rw [List.length_map]; omega), rd_map l s hs, e1]
    have hf0 : (mkB l[s]).f0 = (l[s]).1 := rfl
    have hf1 : (mkB l[s]).f1 = valOf (l[s]).2 := rfl
    rw [hf0, hf1, hlt, eqS l[s] g (hl _ hm) hg]
    simp only [Option.bind_some, Bool.false_eq_true, if_false]
    cases x9
    · rw [if_neg (by simp)]
      refine ih (s + 1) _ k (by omega) (by omega) ?_
      rcases hx with h | ⟨y, hy, he⟩
      · cases h
      · rw [List.drop_eq_getElem_cons hs] at hy
        rcases List.mem_cons.1 hy with h | h
        · exact .inl (decide_eq_true (h.symm.trans he))
        · exact .inr ⟨y, h, he⟩
    · rw [if_pos rfl]
      exact ih (s + 1) _ k (by omega) (by omega) (.inl rfl)

theorem back_loop (l : List Bt) (hl : okB l) (hn : l.length ≤ 900) (r : Nat) : ∀ (back : List Bt) (k : Nat), r ≤ l.length → back = (l.drop r).reverse → 2010 + r ≤ k →
    trustquorumlaw23_BallotsGreatest.l1 k (l.map mkB) (back.map mkB) ((r : Int) - 1) = some true := by
  induction r with
  | zero =>
    intro back k hr hb hk
    obtain ⟨k, rfl⟩ : ∃ m, k = m + 3 := ⟨k - 3, by omega⟩
    have hb : back = l.reverse := hb
    rw [trustquorumlaw23_BallotsGreatest.l1, if_neg (by omega), List.length_map]
    by_cases hne : l = []
    · subst hne
      have : back = [] := by rw [hb]; rfl
      subst this
      show (ballots_Greatest.f (k + 2) ([] : List S26)).bind _ = _
      rw [greatest_nil (by omega)]
      simp only [Option.bind_some]
      rw [if_pos (by rfl), zero_eq]
      have hz : zer 0 (⟨#[]⟩ : ByteArray) = true := by decide +kernel
      rw [hz]
      simp only [Option.bind_some]
      show trustquorumlaw23_BallotsGreatest.j2 ((k + 1) + 1) _ _ _ _ _ = _
      rw [trustquorumlaw23_BallotsGreatest.j2, trustquorumlaw23_BallotsGreatest.l2, if_neg (by simp), if_pos rfl]
      show (ballots_Greatest.f k ([] : List S26)).bind _ = _
      rw [greatest_nil (by omega)]
      simp only [Option.bind_some]
      rw [if_pos (by decide +kernel), sane_eq (by omega)]; rfl
    · have hne0 : ¬ ((l.length : Int) = 0) := by
        intro h; exact hne (List.length_eq_zero_iff.1 (by omega))
      have hm := top_mem l hne
      have hbne : back ≠ [] := by rw [hb]; intro h; exact hne (List.reverse_eq_nil_iff.1 h)
      have hbo : okB back := by intro x hx; rw [hb] at hx; exact hl x (List.mem_reverse.1 hx)
      have hbl : back.length = l.length := by rw [hb, List.length_reverse]
      have hsame : top back = top l := (top_same l back hne (fun x => by rw [hb]; exact List.mem_reverse.symm)).symm
      rw [greatest_eq l hne hl (by omega) (by omega)]
      simp only [Option.bind_some]
      rw [if_neg hne0]
      show trustquorumlaw23_BallotsGreatest.j2 ((k + 1) + 1) _ _ _ _ _ = _
      rw [trustquorumlaw23_BallotsGreatest.j2, List.length_map]
      refine last_loop l back (top l) hl hn (hl _ hm) (fun y hy => top_ge l y hy) (fun k hk => ?_) l.length 0 false (k + 1) (by omega) (by omega) (.inr ⟨top l, by simpa using hm, rfl⟩)
      rw [greatest_eq back hbne hbo (by omega) (by omega), hsame]
  | succ r ih =>
    intro back k hr hb hk
    obtain ⟨k, rfl⟩ : ∃ m, k = m + 1 := ⟨k - 1, by omega⟩
    have hs : r < l.length := by omega
    have hbl : back.length ≤ 900 := by rw [hb, List.length_reverse, List.length_drop]; omega
    have e0 : (((r + 1 : Nat) : Int) - 1) = (r : Int) := by omega
    have e1 : wrap64 ((r : Int) - 1) = (r : Int) - 1 := w64 (by omega) (by omega)
    rw [e0, trustquorumlaw23_BallotsGreatest.l1, if_pos (by omega), if_pos (by omega), if_pos (by rw [List.length_map]; omega), if_pos (by rw [List.length_map]; omega), rd_map l r hs, e1]
    have := ih (back ++ [l[r]]) k (by omega) (by rw [hb, List.drop_eq_getElem_cons hs, List.reverse_cons]) (by omega)
    rw [List.map_append] at this
    exact this

theorem draw_loop (L : List Int) (r : Nat) : ∀ (l : List Bt) (p : Int) (k : Nat), St L p → okB l → l.length + r ≤ 900 → 3000 + r ≤ k →
    trustquorumlaw23_BallotsGreatest.l0 k (l.map mkB) (r : Int) L p = some true := by
  induction r with
  | zero =>
    intro l p k hs hl hn hk
    obtain ⟨k, rfl⟩ : ∃ m, k = m + 1 := ⟨k - 1, by omega⟩
    rw [trustquorumlaw23_BallotsGreatest.l0, if_neg (by omega), List.length_map, w64 (by omega) (by omega)]
    exact back_loop l hl (by omega) l.length [] k (by omega) (by rw [List.drop_length]; rfl) (by omega)
  | succ r ih =>
    intro l p k hs hl hn hk
    obtain ⟨k, rfl⟩ : ∃ m, k = m + 1 := ⟨k - 1, by omega⟩
    obtain ⟨c, i, p', hb, hi, _, hs'⟩ := Ballot_eq hs
    rw [trustquorumlaw23_BallotsGreatest.l0, if_pos (by omega), hb]
    simp only [Option.bind_some]
    rw [if_pos (by rw [List.length_map]; omega)]
    have e0 : wrap64 (((r + 1 : Nat) : Int) - 1) = (r : Int) := by rw [w64 (by omega) (by omega)]; omega
    rw [e0]
    have := ih (l ++ [(c, i)]) p' k hs' (by intro x hx; rcases List.mem_append.1 hx with h | h; exact hl x h; rw [List.mem_singleton.1 h]; exact hi) (by rw [List.length_append]; simp only [List.length_cons, List.length_nil]; omega) (by omega)
    rw [List.map_append] at this
    exact this

theorem BallotsGreatest : trustquorumlaw23_BallotsGreatest.Pure := by
  intro l0 _ _ _
  obtain ⟨L, hL, s0⟩ := New_eq l0
  obtain ⟨r, p, h1, r0, r1, s1⟩ := N_eq (n := 7) s0 (by omega) (by omega)
  obtain ⟨n, rfl⟩ := Int.eq_ofNat_of_zero_le r0
  obtain ⟨K, hK⟩ : ∃ K, 4000 ≤ K := ⟨4000, Nat.le_refl _⟩
  refine ⟨K, ?_⟩
  unfold trustquorumlaw23_BallotsGreatest.f
  rw [hL]; simp only [Option.bind_some]
  rw [h1]; simp only [Option.bind_some]
  exact draw_loop L n [] p K s1 (by intro x hx; cases hx) (by simp only [List.length_nil]; omega) (by omega)

end Go.Proofs.Ytogdpfmlldaeeaa.Pure
