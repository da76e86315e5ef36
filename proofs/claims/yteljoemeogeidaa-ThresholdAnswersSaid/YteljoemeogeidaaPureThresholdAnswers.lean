/- For every list of numbers, whatever two small trusts and whatever number, package threshold answers as its reference does: the statement over numbers and lists that the row asks. No condition. -/
import Derived.Test.YteljoemeogeidaaQThresholdAnswersx15
import Derived.OpenShut
set_option linter.unusedSimpArgs false
set_option linter.unusedVariables false
namespace Go.Proofs.Yteljoemeogeidaa.Pure
open Go.RowKit Go.Proofs.Yteljoemeogeidaa.QThresholdAnswers Go.Proofs.YteljoemeogeidaaW.PrintWords Go.Proofs.YteljoemeogeidaaW.PrintLast Go.Proofs.YteljoemeogeidaaW.PrintMore

theorem w64 {x : Int} (h : -9223372036854775808 ≤ x) (h' : x ≤ 9223372036854775807) : wrap64 x = x := by unfold wrap64; omega
structure St (L : List Int) (p : Int) : Prop where
  len : L.length ≤ 400
  lo : 0 ≤ p
  hi : p ≤ 400
theorem New_eq (l : List Int) : ∃ L, trustquorummake_New.f l = some (L, 0) ∧ St L 0 := by
  unfold trustquorummake_New.f
  have h0 : 0 ≤ mn (l.length : Int) 400 := by unfold mn; split <;> omega
  have h1 : mn (l.length : Int) 400 ≤ l.length := by unfold mn; split <;> omega
  have h2 : mn (l.length : Int) 400 ≤ 400 := by unfold mn; split <;> omega
  rw [if_pos h0, if_pos h1]
  refine ⟨_, rfl, ⟨?_, by omega, by omega⟩⟩
  rw [List.length_take]; omega
theorem N_eq {L : List Int} {p n : Int} (h : St L p) (hn : 1 ≤ n) (hn2 : n ≤ 1000000) : ∃ r p', trustquorummake_Tape_N.f L p n = some (r, p') ∧ 0 ≤ r ∧ r < n ∧ St L p' := by
  unfold trustquorummake_Tape_N.f
  by_cases h1 : p ≥ (L.length : Int)
  · exact ⟨0, p, by rw [if_pos h1], by omega, by omega, h⟩
  · have hp : p < L.length := by omega
    have h3 := h.len
    have h4 := h.lo
    have e1 : wrap64 (p + 1) = p + 1 := w64 (by omega) (by omega)
    have b1 := Int.tmod_lt_of_pos (rd L p) (show 0 < n by omega)
    have b2 := Int.lt_tmod_of_pos (rd L p) (show 0 < n by omega)
    rw [if_neg h1, if_pos h.lo, if_pos hp, if_neg (by omega), e1]
    by_cases h5 : Int.tmod (rd L p) n < 0
    · rw [if_pos h5, w64 (by omega) (by omega)]
      exact ⟨_, _, rfl, by omega, by omega, ⟨h.len, by omega, by omega⟩⟩
    · rw [if_neg h5]
      exact ⟨_, _, rfl, by omega, by omega, ⟨h.len, by omega, by omega⟩⟩
theorem Range_eq {L : List Int} {p a b : Int} (h : St L p) (ha : -1000 ≤ a) (hab : a ≤ b) (hb : b ≤ 100000) : ∃ r p', trustquorummake_Tape_Range.f L p a b = some (r, p') ∧ a ≤ r ∧ r ≤ b ∧ St L p' := by
  have e1 : wrap64 (b - a) = b - a := w64 (by omega) (by omega)
  have e2 : wrap64 (b - a + 1) = b - a + 1 := w64 (by omega) (by omega)
  obtain ⟨r, p', hr, h0, h1, hs⟩ := N_eq (n := b - a + 1) h (by omega) (by omega)
  refine ⟨a + r, p', ?_, by omega, by omega, hs⟩
  unfold trustquorummake_Tape_Range.f
  rw [e1, e2, hr]
  simp only [Option.bind_some]
  rw [w64 (x := a + r) (by omega) (by omega)]
theorem rd_at (l : List Int) (s : Nat) (h : s < l.length) : rd l (s : Int) = l[s]'h := by unfold rd; simp [List.getD, h]
theorem rdS_at (l : List S27) (s : Nat) (h : s < l.length) : rd_T27 l (s : Int) = l[s]'h := by unfold rd_T27; simp [List.getD, h]
theorem nx (s : Nat) (h : s ≤ 10000000) : wrap64 ((s : Int) + 1) = ((s + 1 : Nat) : Int) := by rw [w64 (by omega) (by omega)]; omega
def tb (m : Nat) (k : Int) : Bool := decide (0 ≤ k) && decide (k < 10) && m.testBit k.toNat
theorem shl_eq : ∀ i, i < 10 → shl .i64 1 ((i : Nat) : Int) = ((2 ^ i : Nat) : Int) := by decide +kernel
theorem wr10 (n : Int) (h0 : 0 ≤ n) (h1 : n < 2 ^ 10) : IntKind.i64.wrap n = n := by rw [IntKind.wrap_i64]; omega
theorem and_eq (a b : Nat) (ha : a < 1024) (hb : b < 1024) : Go.bits .and .i64 (a : Int) (b : Int) = ((a &&& b : Nat) : Int) := (bits_nat .i64 10 (by decide) wr10 a b ha hb).1
theorem or_eq (a b : Nat) (ha : a < 1024) (hb : b < 1024) : Go.bits .or .i64 (a : Int) (b : Int) = ((a ||| b : Nat) : Int) := (bits_nat .i64 10 (by decide) wr10 a b ha hb).2
theorem pow_lt (i : Nat) (h : i < 10) : 2 ^ i < 1024 := by
  have : 2 ^ i < 2 ^ 10 := Nat.pow_lt_pow_right (by decide) h
  omega
theorem shr_eq (m i : Nat) (hi : i < 10) : shr .i64 (m : Int) (i : Int) = ((m / 2 ^ i : Nat) : Int) := by
  unfold shr
  have e : min ((i : Int)).toNat IntKind.i64.bits = i := by
    have : IntKind.i64.bits = 64 := by decide
    rw [this]; omega
  rw [e]; simp
theorem has_ref (m : Nat) (hm : m < 1024) (k : Int) : trustquorumref01_Has.f (m : Int) k = some (tb m k) := by
  unfold trustquorumref01_Has.f trustquorumref01_Valid.f tb
  rw [if_pos (by omega), decide_eq_true (show (m : Int) ≤ 1023 by omega)]
  simp only [Option.bind_some, if_true]
  by_cases h0 : k ≥ 0
  · rw [if_pos h0]
    by_cases h1 : k < 10
    · obtain ⟨i, rfl⟩ := Int.eq_ofNat_of_zero_le h0
      have hd : m / 2 ^ i < 1024 := Nat.lt_of_le_of_lt (Nat.div_le_self _ _) hm
      have a1 := and_eq (m / 2 ^ i) 1 hd (by omega)
      rw [if_pos h1, if_pos h0, shr_eq m i (by omega)]
      rw [show ((1 : Nat) : Int) = 1 from rfl] at a1
      rw [a1, decide_eq_true (show 0 ≤ (i : Int) by omega), decide_eq_true h1, Int.toNat_natCast, Nat.and_one_is_mod, Nat.testBit_eq_decide_div_mod_eq]
      congr 1
      simp only [Bool.true_and]
      by_cases h : m / 2 ^ i % 2 = 1
      · rw [h]; rfl
      · rw [decide_eq_false h, beq_eq_false_iff_ne]; omega
    · rw [if_neg h1, decide_eq_false h1]; simp
  · rw [if_neg h0, decide_eq_false (show ¬ 0 ≤ k by omega)]; simp

theorem shl10 : shl .i64 1 10 = 1024 := by decide +kernel
theorem nsValid_eq (a : Int) : nodeset_Valid.f a = some (decide (0 ≤ a ∧ a < 1024)) := by
  unfold nodeset_Valid.f nodeset_below.f
  rw [shl10]
  by_cases h : a ≥ 0
  · rw [if_pos h, if_pos (by omega)]
    simp only [Option.bind_some]
    congr 1; rw [decide_eq_decide]; omega
  · rw [if_neg h]
    simp only [Option.bind_some]
    congr 1; rw [eq_comm, decide_eq_false_iff_not]; omega
theorem and_pow (m i : Nat) : (((m &&& 2 ^ i : Nat) : Int) != 0) = m.testBit i := by
  cases h : m.testBit i
  · have e : m &&& 2 ^ i = 0 := by
      apply Nat.eq_of_testBit_eq
      intro j
      rw [Nat.testBit_and, Nat.testBit_two_pow, Nat.zero_testBit]
      by_cases hj : i = j
      · subst hj; rw [h]; rfl
      · rw [decide_eq_false hj, Bool.and_false]
    rw [e]; rfl
  · rw [bne_iff_ne]
    intro e
    have e2 : m &&& 2 ^ i = 0 := by omega
    have h2 := congrArg (fun x : Nat => x.testBit i) e2
    simp only [Nat.testBit_and, Nat.testBit_two_pow, Nat.zero_testBit, h, decide_true, Bool.and_true] at h2
    cases h2
theorem has_eq (m : Nat) (hm : m < 1024) (k : Int) : nodeset_Has.f (m : Int) k = some (tb m k) := by
  unfold nodeset_Has.f tb
  rw [nsValid_eq, decide_eq_true (show 0 ≤ (m : Int) ∧ (m : Int) < 1024 by omega)]
  simp only [Option.bind_some, if_true]
  by_cases h0 : k ≥ 0
  · rw [if_pos h0]
    by_cases h1 : k < 10
    · obtain ⟨i, rfl⟩ := Int.eq_ofNat_of_zero_le h0
      rw [if_pos h1, if_pos h0, shl_eq i (by omega), and_eq m (2 ^ i) hm (pow_lt i (by omega)), decide_eq_true (show 0 ≤ (i : Int) by omega), decide_eq_true h1, Int.toNat_natCast, and_pow]
      rfl
    · rw [if_neg h1, decide_eq_false h1]; simp
  · rw [if_neg h0, decide_eq_false (show ¬ 0 ≤ k by omega)]; simp

mutual
def fuT : S27 → Nat
  | ⟨_, ns, inn⟩ => 10 + 3 * ns.length + fuL inn
def fuL : List S27 → Nat
  | [] => 0
  | t :: l => 3 + fuT t + fuL l
end
theorem fuT_eq (t : S27) : fuT t = 10 + 3 * t.f1.length + fuL t.f2 := by cases t; rw [fuT]
theorem fuL_drop (l : List S27) (s : Nat) (h : s < l.length) : fuL (l.drop s) = 3 + fuT (l[s]'h) + fuL (l.drop (s + 1)) := by rw [List.drop_eq_getElem_cons h, fuL]
theorem fuL_len : ∀ l : List S27, l.length ≤ fuL l
  | [] => Nat.le_refl _
  | t :: l => by have := fuL_len l; rw [fuL, List.length_cons]; omega
theorem fuL_le (l : List S27) (s : Nat) : fuL (l.drop s) ≤ fuL l := by
  induction l generalizing s with
  | nil => rw [List.drop_nil]; exact Nat.le_refl _
  | cons t l ih =>
    cases s with
    | zero => exact Nat.le_refl _
    | succ s => rw [List.drop_succ_cons, fuL]; have := ih s; omega
mutual
def depT : S27 → Int
  | ⟨_, _, inn⟩ => depL inn 0 + 1
def depL : List S27 → Int → Int
  | [], c => c
  | t :: l, c => depL l (mx c (depT t))
end
mutual
def sizT : S27 → Int
  | ⟨_, ns, inn⟩ => sizL inn ((ns.length : Int) + (inn.length : Int))
def sizL : List S27 → Int → Int
  | [], c => c
  | t :: l, c => sizL l (c + sizT t)
end
def ofR : List Int → Nat → Int × Int
  | [], m => ((m : Int), 0)
  | k :: l, m => if k < 0 ∨ 10 ≤ k then (0, 5) else if tb m k = true then (0, 6) else ofR l (m ||| 2 ^ k.toNat)
def outR (ns : List Int) : Bool := ns.any fun k => decide (k < 0 ∨ 10 ≤ k)
mutual
def chkT : S27 → Int
  | ⟨th, ns, inn⟩ => if th < 1 ∨ th > (ns.length : Int) + (inn.length : Int) then 4 else if outR ns = true then 5 else if (ofR ns 0).2 = 0 then chkL inn else (ofR ns 0).2
def chkL : List S27 → Int
  | [] => 0
  | t :: l => if chkT t = 0 then chkL l else chkT t
end
def valT (t : S27) : Int := if depT t > 4 then 3 else if sizT t > 200 then 3 else chkT t
theorem dep_bd (N : Nat) : ∀ t : S27, fuT t ≤ N → 0 ≤ depT t ∧ depT t ≤ fuT t := by
  induction N with
  | zero => intro t h; rw [fuT_eq] at h; omega
  | succ N ih =>
    intro t h
    have key : ∀ (l : List S27) (c : Int), fuL l ≤ N → 0 ≤ c → 0 ≤ depL l c ∧ depL l c ≤ c + fuL l := by
      intro l
      induction l with
      | nil => intro c _ hc; rw [depL, fuL]; omega
      | cons x l ihl =>
        intro c hf hc
        rw [fuL] at hf
        obtain ⟨a, b⟩ := ih x (by omega)
        have hm : 0 ≤ mx c (depT x) ∧ mx c (depT x) ≤ c + fuT x := by unfold mx; split <;> omega
        obtain ⟨a', b'⟩ := ihl (mx c (depT x)) (by omega) hm.1
        rw [depL, fuL]; omega
    obtain ⟨th, ns, inn⟩ := t
    rw [fuT] at h ⊢
    have := key inn 0 (by omega) (by omega)
    rw [depT]; omega
theorem siz_bd (N : Nat) : ∀ t : S27, fuT t ≤ N → 0 ≤ sizT t ∧ sizT t ≤ 2 * fuT t := by
  induction N with
  | zero => intro t h; rw [fuT_eq] at h; omega
  | succ N ih =>
    intro t h
    have key : ∀ (l : List S27) (c : Int), fuL l ≤ N → 0 ≤ c → 0 ≤ sizL l c ∧ sizL l c ≤ c + 2 * fuL l - l.length := by
      intro l
      induction l with
      | nil => intro c _ hc; rw [sizL, fuL]; simp only [List.length_nil]; omega
      | cons x l ihl =>
        intro c hf hc
        rw [fuL] at hf
        obtain ⟨a, b⟩ := ih x (by omega)
        obtain ⟨a', b'⟩ := ihl (c + sizT x) (by omega) (by omega)
        rw [sizL, fuL, List.length_cons]; omega
    obtain ⟨th, ns, inn⟩ := t
    rw [fuT] at h ⊢
    have := key inn (ns.length + inn.length) (by omega) (by omega)
    rw [sizT]; omega

theorem trustquorumref02_Size_eq (N : Nat) : ∀ (t : S27) (k : Nat), fuT t ≤ N → fuT t ≤ 1000000 → fuT t ≤ k → trustquorumref02_Size.f k t.f0 t.f1 t.f2 = some (sizT t) := by
  induction N with
  | zero => intro t k h; rw [fuT_eq] at h; omega
  | succ N ih =>
    intro t k h hb hk
    obtain ⟨th, ns, inn⟩ := t
    rw [fuT] at h hb hk
    have hl := fuL_len inn
    have key : ∀ (r s : Nat) (c : Int) (k : Nat), s + r = inn.length → fuL (inn.drop s) + 2 ≤ k → 0 ≤ c → c + 2 * fuL (inn.drop s) ≤ 10000000 → trustquorumref02_Size.l0 k c inn (inn.length : Int) (s : Int) = some (sizL (inn.drop s) c) := by
      intro r
      induction r with
      | zero =>
        intro s c k h1 hk _ _
        obtain ⟨k, rfl⟩ : ∃ m, k = m + 1 := ⟨k - 1, by omega⟩
        rw [trustquorumref02_Size.l0, if_neg (by omega), List.drop_of_length_le (by omega), sizL]
      | succ r ihr =>
        intro s c k h1 hk hc0 hc1
        obtain ⟨k, rfl⟩ : ∃ m, k = m + 1 := ⟨k - 1, by omega⟩
        have hs : s < inn.length := by omega
        have hd := fuL_drop inn s hs
        have hle := fuL_le inn s
        have hb2 := siz_bd _ inn[s] (Nat.le_refl _)
        rw [trustquorumref02_Size.l0, if_pos (by omega), if_pos (by omega), if_pos (by omega), rdS_at inn s hs, ih inn[s] k (by omega) (by omega) (by omega)]
        simp only [Option.bind_some]
        rw [w64 (x := c + sizT inn[s]) (by omega) (by omega), nx s (by omega), ihr (s + 1) (c + sizT inn[s]) k (by omega) (by omega) (by omega) (by omega), List.drop_eq_getElem_cons hs, sizL]
    obtain ⟨k, rfl⟩ : ∃ m, k = m + 1 := ⟨k - 1, by omega⟩
    show trustquorumref02_Size.f (k + 1) th ns inn = _
    rw [trustquorumref02_Size.f, w64 (by omega) (by omega), sizT]
    exact key inn.length 0 _ k (by omega) (by rw [List.drop_zero]; omega) (by omega) (by rw [List.drop_zero]; omega)

theorem trustquorumref02_Depth_eq (N : Nat) : ∀ (t : S27) (k : Nat), fuT t ≤ N → fuT t ≤ 1000000 → fuT t ≤ k → trustquorumref02_Depth.f k t.f0 t.f1 t.f2 = some (depT t) := by
  induction N with
  | zero => intro t k h; rw [fuT_eq] at h; omega
  | succ N ih =>
    intro t k h hb hk
    obtain ⟨th, ns, inn⟩ := t
    rw [fuT] at h hb hk
    have hl := fuL_len inn
    have key : ∀ (r s : Nat) (c : Int) (k : Nat), s + r = inn.length → fuL (inn.drop s) + 2 ≤ k → 0 ≤ c → c + fuL (inn.drop s) ≤ 10000000 → trustquorumref02_Depth.l0 k c inn (inn.length : Int) (s : Int) = some (depL (inn.drop s) c + 1) := by
      intro r
      induction r with
      | zero =>
        intro s c k h1 hk hc0 hc1
        obtain ⟨k, rfl⟩ : ∃ m, k = m + 1 := ⟨k - 1, by omega⟩
        rw [trustquorumref02_Depth.l0, if_neg (by omega), List.drop_of_length_le (by omega), depL, w64 (by omega) (by omega)]
      | succ r ihr =>
        intro s c k h1 hk hc0 hc1
        obtain ⟨k, rfl⟩ : ∃ m, k = m + 1 := ⟨k - 1, by omega⟩
        have hs : s < inn.length := by omega
        have hd := fuL_drop inn s hs
        have hle := fuL_le inn s
        have hb2 := dep_bd _ inn[s] (Nat.le_refl _)
        have hm : 0 ≤ mx c (depT inn[s]) ∧ mx c (depT inn[s]) ≤ c + fuT inn[s] := by unfold mx; split <;> omega
        rw [trustquorumref02_Depth.l0, if_pos (by omega), if_pos (by omega), if_pos (by omega), rdS_at inn s hs, ih inn[s] k (by omega) (by omega) (by omega)]
        simp only [Option.bind_some]
        rw [nx s (by omega), ihr (s + 1) (mx c (depT inn[s])) k (by omega) (by omega) (by omega) (by omega), List.drop_eq_getElem_cons hs, depL]
    obtain ⟨k, rfl⟩ : ∃ m, k = m + 1 := ⟨k - 1, by omega⟩
    show trustquorumref02_Depth.f (k + 1) th ns inn = _
    rw [trustquorumref02_Depth.f, depT]
    exact key inn.length 0 0 k (by omega) (by rw [List.drop_zero]; omega) (by omega) (by rw [List.drop_zero]; omega)

theorem trustquorumref01_Of_loop (l : List Int) (hl : l.length ≤ 1000000) (r : Nat) : ∀ (s m k : Nat), s + r = l.length → m < 1024 → 2 * r + 2 ≤ k → trustquorumref01_Of.l0 k (m : Int) l (l.length : Int) (s : Int) = some (ofR (l.drop s) m) := by
  induction r with
  | zero =>
    intro s m k h1 hm hk
    obtain ⟨k, rfl⟩ : ∃ q, k = q + 1 := ⟨k - 1, by omega⟩
    rw [trustquorumref01_Of.l0, if_neg (by omega), List.drop_of_length_le (by omega), ofR]
  | succ r ih =>
    intro s m k h1 hm hk
    obtain ⟨k, rfl⟩ : ∃ q, k = q + 2 := ⟨k - 2, by omega⟩
    have hs : s < l.length := by omega
    show trustquorumref01_Of.l0 ((k + 1) + 1) _ _ _ _ = _
    rw [trustquorumref01_Of.l0, if_pos (by omega), if_pos (by omega), if_pos (by omega), rd_at l s hs, List.drop_eq_getElem_cons hs, ofR]
    generalize l[s] = x
    by_cases h0 : x < 0
    · rw [if_pos h0, trustquorumref01_Of.j1, if_pos rfl, if_pos (.inl h0)]
    · rw [if_neg h0, trustquorumref01_Of.j1]
      by_cases h2 : x ≥ 10
      · rw [if_pos (decide_eq_true h2), if_pos (.inr h2)]
      · rw [if_neg (by rw [decide_eq_true_eq]; exact h2), if_neg (show ¬ (x < 0 ∨ 10 ≤ x) by omega), has_ref m hm x]
        simp only [Option.bind_some]
        cases ht : tb m x
        · simp only [Bool.false_eq_true, if_false]
          obtain ⟨i, rfl⟩ := Int.eq_ofNat_of_zero_le (show 0 ≤ x by omega)
          have hp := pow_lt i (by omega)
          rw [if_pos (show 0 ≤ (i : Int) by omega), shl_eq i (by omega), or_eq m (2 ^ i) hm hp, nx s (by omega), Int.toNat_natCast]
          exact ih (s + 1) (m ||| 2 ^ i) k (by omega) (Nat.or_lt_two_pow (n := 10) hm hp) (by omega)
        · simp only [if_true]
theorem trustquorumref01_Of_eq (l : List Int) (hl : l.length ≤ 1000000) {k : Nat} (hk : 2 * l.length + 2 ≤ k) : trustquorumref01_Of.f k l = some (ofR l 0) := by
  unfold trustquorumref01_Of.f
  exact trustquorumref01_Of_loop l hl l.length 0 0 k (by omega) (by omega) hk

theorem check_eq (N : Nat) : ∀ (t : S27) (k : Nat), fuT t ≤ N → fuT t ≤ 1000000 → fuT t ≤ k → trustquorumref02_check.f k t.f0 t.f1 t.f2 = some (chkT t) := by
  induction N with
  | zero => intro t k h; rw [fuT_eq] at h; omega
  | succ N ih =>
    intro t k h hb hk
    obtain ⟨th, ns, inn⟩ := t
    rw [fuT] at h hb hk
    have hl := fuL_len inn
    have key : ∀ (r s : Nat) (k : Nat), s + r = inn.length → fuL (inn.drop s) + 2 ≤ k → trustquorumref02_check.l1 k inn (inn.length : Int) (s : Int) = some (chkL (inn.drop s)) := by
      intro r
      induction r with
      | zero =>
        intro s k h1 hk
        obtain ⟨k, rfl⟩ : ∃ m, k = m + 1 := ⟨k - 1, by omega⟩
        rw [trustquorumref02_check.l1, if_neg (by omega), List.drop_of_length_le (by omega), chkL]
      | succ r ihr =>
        intro s k h1 hk
        obtain ⟨k, rfl⟩ : ∃ m, k = m + 1 := ⟨k - 1, by omega⟩
        have hs : s < inn.length := by omega
        have hd := fuL_drop inn s hs
        have hle := fuL_le inn s
        rw [trustquorumref02_check.l1, if_pos (by omega), if_pos (by omega), if_pos (by omega), rdS_at inn s hs, ih inn[s] k (by omega) (by omega) (by omega)]
        simp only [Option.bind_some]
        rw [nx s (by omega), List.drop_eq_getElem_cons hs, chkL]
        by_cases hc : chkT inn[s] = 0
        · rw [if_pos hc, if_pos hc]; exact ihr (s + 1) k (by omega) (by omega)
        · rw [if_neg hc, if_neg hc]
    have nodes : ∀ (r s : Nat) (k : Nat), s + r = ns.length → r + 2 * ns.length + fuL inn + 5 ≤ k → trustquorumref02_check.l0 k ns (ns.length : Int) (s : Int) th ns inn = some (if outR (ns.drop s) = true then 5 else if (ofR ns 0).2 = 0 then chkL inn else (ofR ns 0).2) := by
      intro r
      induction r with
      | zero =>
        intro s k h1 hk
        obtain ⟨k, rfl⟩ : ∃ m, k = m + 1 := ⟨k - 1, by omega⟩
        rw [trustquorumref02_check.l0, if_neg (by omega), List.drop_of_length_le (by omega), trustquorumref01_Of_eq ns (by omega) (by omega)]
        simp only [Option.bind_some]
        rw [if_neg (show ¬ (outR [] = true) by decide)]
        by_cases he : (ofR ns 0).2 = 0
        · rw [if_pos he, if_pos he]; exact key inn.length 0 k (by omega) (by rw [List.drop_zero]; omega)
        · rw [if_neg he, if_neg he]
      | succ r ihr =>
        intro s k h1 hk
        obtain ⟨k, rfl⟩ : ∃ m, k = m + 1 := ⟨k - 1, by omega⟩
        have hs : s < ns.length := by omega
        have ho : outR (ns.drop s) = (decide (ns[s] < 0 ∨ 10 ≤ ns[s]) || outR (ns.drop (s + 1))) := by rw [List.drop_eq_getElem_cons hs]; unfold outR; rw [List.any_cons]
        rw [trustquorumref02_check.l0, if_pos (by omega), if_pos (by omega), if_pos (by omega), rd_at ns s hs, nx s (by omega), ho]
        by_cases h0 : ns[s] < 0
        · rw [if_pos h0, decide_eq_true (.inl h0), Bool.true_or, if_pos rfl]
        · rw [if_neg h0]
          by_cases h2 : ns[s] ≥ 10
          · rw [if_pos h2, decide_eq_true (.inr h2), Bool.true_or, if_pos rfl]
          · rw [if_neg h2, decide_eq_false (by omega), Bool.false_or]
            exact ihr (s + 1) k (by omega) (by omega)
    obtain ⟨k, rfl⟩ : ∃ m, k = m + 2 := ⟨k - 2, by omega⟩
    show trustquorumref02_check.f ((k + 1) + 1) th ns inn = _
    rw [trustquorumref02_check.f, w64 (by omega) (by omega), chkT]
    by_cases h0 : th < 1
    · rw [if_pos h0, trustquorumref02_check.j0, if_pos rfl, if_pos (.inl h0)]
    · rw [if_neg h0, trustquorumref02_check.j0]
      by_cases h1 : th > (ns.length : Int) + (inn.length : Int)
      · rw [if_pos (decide_eq_true h1), if_pos (.inr h1)]
      · rw [if_neg (by rw [decide_eq_true_eq]; exact h1), if_neg (by omega)]
        exact nodes ns.length 0 k (by omega) (by omega)
theorem refValid_eq (t : S27) {k : Nat} (hb : fuT t ≤ 1000000) (hk : fuT t ≤ k) : trustquorumref02_Valid.f k t.f0 t.f1 t.f2 = some (valT t) := by
  unfold trustquorumref02_Valid.f valT
  rw [trustquorumref02_Depth_eq _ t k (Nat.le_refl _) hb hk, trustquorumref02_Size_eq _ t k (Nat.le_refl _) hb hk, check_eq _ t k (Nat.le_refl _) hb hk]
  simp only [Option.bind_some]
  split
  · rfl
  · split <;> rfl

def cntN : List Int → Nat → Int
  | [], _ => 0
  | k :: l, m => (if tb m k = true then 1 else 0) + cntN l m
mutual
def satT : S27 → Nat → Bool
  | ⟨th, ns, inn⟩, m => decide (th ≤ cntN ns m + satL inn m)
def satL : List S27 → Nat → Int
  | [], _ => 0
  | t :: l, m => (if satT t m = true then 1 else 0) + satL l m
end
theorem sat_eq (m : Nat) (hm : m < 1024) (N : Nat) : ∀ (t : S27) (k : Nat), fuT t ≤ N → fuT t ≤ 1000000 → fuT t ≤ k → threshold_Satisfied.f k t.f0 t.f1 t.f2 (m : Int) = some (satT t m) := by
  induction N with
  | zero => intro t k h; rw [fuT_eq] at h; omega
  | succ N ih =>
    intro t k h hb hk
    obtain ⟨th, ns, inn⟩ := t
    rw [fuT] at h hb hk
    have hl := fuL_len inn
    have key : ∀ (r s : Nat) (c : Int) (k : Nat), s + r = inn.length → fuL (inn.drop s) + 2 ≤ k → 0 ≤ c → c + r ≤ 10000000 → threshold_Satisfied.l1 k (m : Int) c inn (inn.length : Int) (s : Int) th ns inn = some (decide (th ≤ c + satL (inn.drop s) m)) := by
      intro r
      induction r with
      | zero =>
        intro s c k h1 hk _ _
        obtain ⟨k, rfl⟩ : ∃ q, k = q + 1 := ⟨k - 1, by omega⟩
        rw [threshold_Satisfied.l1, if_neg (by omega), List.drop_of_length_le (by omega), satL, Int.add_zero]
      | succ r ihr =>
        intro s c k h1 hk hc0 hc1
        obtain ⟨k, rfl⟩ : ∃ q, k = q + 1 := ⟨k - 1, by omega⟩
        have hs : s < inn.length := by omega
        have hd := fuL_drop inn s hs
        have hle := fuL_le inn s
        rw [threshold_Satisfied.l1, if_pos (by omega), if_pos (by omega), if_pos (by omega), rdS_at inn s hs, ih inn[s] k (by omega) (by omega) (by omega)]
        simp only [Option.bind_some]
        rw [nx s (by omega), List.drop_eq_getElem_cons hs, satL]
        cases hq : satT inn[s] m
        · rw [if_neg (by decide), if_neg (by decide), ihr (s + 1) c k (by omega) (by omega) (by omega) (by omega), Int.zero_add]
        · rw [if_pos rfl, if_pos rfl, w64 (x := c + 1) (by omega) (by omega), ihr (s + 1) (c + 1) k (by omega) (by omega) (by omega) (by omega), Int.add_assoc]
    have nodes : ∀ (r s : Nat) (c : Int) (k : Nat), s + r = ns.length → r + fuL inn + 3 ≤ k → 0 ≤ c → c + r + inn.length ≤ 10000000 → threshold_Satisfied.l0 k (m : Int) c ns (ns.length : Int) (s : Int) th ns inn = some (decide (th ≤ c + cntN (ns.drop s) m + satL inn m)) := by
      intro r
      induction r with
      | zero =>
        intro s c k h1 hk hc0 hc1
        obtain ⟨k, rfl⟩ : ∃ q, k = q + 1 := ⟨k - 1, by omega⟩
        rw [threshold_Satisfied.l0, if_neg (by omega), List.drop_of_length_le (by omega), cntN, Int.add_zero]
        exact key inn.length 0 c k (by omega) (by rw [List.drop_zero]; omega) hc0 (by omega)
      | succ r ihr =>
        intro s c k h1 hk hc0 hc1
        obtain ⟨k, rfl⟩ : ∃ q, k = q + 1 := ⟨k - 1, by omega⟩
        have hs : s < ns.length := by omega
        rw [threshold_Satisfied.l0, if_pos (by omega), if_pos (by omega), if_pos (by omega), rd_at ns s hs, has_eq m hm]
        simp only [Option.bind_some]
        rw [nx s (by omega), List.drop_eq_getElem_cons hs, cntN]
        cases hq : tb m ns[s]
        · rw [if_neg (by decide), if_neg (by decide), ihr (s + 1) c k (by omega) (by omega) (by omega) (by omega), Int.zero_add]
        · rw [if_pos rfl, if_pos rfl, w64 (x := c + 1) (by omega) (by omega), ihr (s + 1) (c + 1) k (by omega) (by omega) (by omega) (by omega), Int.add_assoc c 1]
    obtain ⟨k, rfl⟩ : ∃ q, k = q + 1 := ⟨k - 1, by omega⟩
    show threshold_Satisfied.f (k + 1) th ns inn (m : Int) = _
    rw [threshold_Satisfied.f, nsValid_eq, decide_eq_true (show 0 ≤ (m : Int) ∧ (m : Int) < 1024 by omega)]
    simp only [Option.bind_some, if_true]
    have := nodes ns.length 0 0 k (by omega) (by omega) (by omega) (by omega)
    rw [List.drop_zero, Int.zero_add] at this
    rw [satT]
    exact this
theorem satisfied_eq (t : S27) (m : Nat) (hm : m < 1024) {k : Nat} (hb : fuT t ≤ 1000000) (hk : fuT t ≤ k) : threshold_Satisfied.f k t.f0 t.f1 t.f2 (m : Int) = some (satT t m) := sat_eq m hm _ t k (Nat.le_refl _) hb hk
theorem blocked_eq (t : S27) (m : Nat) (hm : m < 1024) {k : Nat} (hb : fuT t ≤ 1000000) (hk : fuT t ≤ k) : threshold_Blocked.f k t.f0 t.f1 t.f2 (m : Int) = some (!satT t (1023 - m)) := by
  unfold threshold_Blocked.f
  rw [nsValid_eq, decide_eq_true (show 0 ≤ (m : Int) ∧ (m : Int) < 1024 by omega), w64 (by omega) (by omega), show (1023 : Int) - (m : Int) = ((1023 - m : Nat) : Int) by omega]
  simp only [Option.bind_some, if_true]
  rw [satisfied_eq t (1023 - m) (by omega) hb hk]
  rfl
theorem rvalid_eq (a : Int) : trustquorumref01_Valid.f a = some (decide (0 ≤ a ∧ a < 1024)) := by
  unfold trustquorumref01_Valid.f
  by_cases h : a ≥ 0
  · rw [if_pos h]; congr 1; rw [decide_eq_decide]; omega
  · rw [if_neg h, decide_eq_false (by omega)]
theorem rsat_eq (m : Nat) (hm : m < 1024) (N : Nat) : ∀ (t : S27) (k : Nat), fuT t ≤ N → fuT t ≤ 1000000 → fuT t ≤ k → trustquorumref02_Satisfied.f k t.f0 t.f1 t.f2 (m : Int) = some (satT t m) := by
  induction N with
  | zero => intro t k h; rw [fuT_eq] at h; omega
  | succ N ih =>
    intro t k h hb hk
    obtain ⟨th, ns, inn⟩ := t
    rw [fuT] at h hb hk
    have hl := fuL_len inn
    have key : ∀ (r s : Nat) (c : Int) (k : Nat), s + r = inn.length → fuL (inn.drop s) + 2 ≤ k → 0 ≤ c → c + r ≤ 10000000 → trustquorumref02_Satisfied.l1 k (m : Int) c inn (inn.length : Int) (s : Int) th ns inn = some (decide (th ≤ c + satL (inn.drop s) m)) := by
      intro r
      induction r with
      | zero =>
        intro s c k h1 hk _ _
        obtain ⟨k, rfl⟩ : ∃ q, k = q + 1 := ⟨k - 1, by omega⟩
        rw [trustquorumref02_Satisfied.l1, if_neg (by omega), List.drop_of_length_le (by omega), satL, Int.add_zero]
      | succ r ihr =>
        intro s c k h1 hk hc0 hc1
        obtain ⟨k, rfl⟩ : ∃ q, k = q + 1 := ⟨k - 1, by omega⟩
        have hs : s < inn.length := by omega
        have hd := fuL_drop inn s hs
        have hle := fuL_le inn s
        rw [trustquorumref02_Satisfied.l1, if_pos (by omega), if_pos (by omega), if_pos (by omega), rdS_at inn s hs, ih inn[s] k (by omega) (by omega) (by omega)]
        simp only [Option.bind_some]
        rw [nx s (by omega), List.drop_eq_getElem_cons hs, satL]
        cases hq : satT inn[s] m
        · rw [if_neg (by decide), if_neg (by decide), ihr (s + 1) c k (by omega) (by omega) (by omega) (by omega), Int.zero_add]
        · rw [if_pos rfl, if_pos rfl, w64 (x := c + 1) (by omega) (by omega), ihr (s + 1) (c + 1) k (by omega) (by omega) (by omega) (by omega), Int.add_assoc]
    have nodes : ∀ (r s : Nat) (c : Int) (k : Nat), s + r = ns.length → r + fuL inn + 3 ≤ k → 0 ≤ c → c + r + inn.length ≤ 10000000 → trustquorumref02_Satisfied.l0 k (m : Int) c ns (ns.length : Int) (s : Int) th ns inn = some (decide (th ≤ c + cntN (ns.drop s) m + satL inn m)) := by
      intro r
      induction r with
      | zero =>
        intro s c k h1 hk hc0 hc1
        obtain ⟨k, rfl⟩ : ∃ q, k = q + 1 := ⟨k - 1, by omega⟩
        rw [trustquorumref02_Satisfied.l0, if_neg (by omega), List.drop_of_length_le (by omega), cntN, Int.add_zero]
        exact key inn.length 0 c k (by omega) (by rw [List.drop_zero]; omega) hc0 (by omega)
      | succ r ihr =>
        intro s c k h1 hk hc0 hc1
        obtain ⟨k, rfl⟩ : ∃ q, k = q + 1 := ⟨k - 1, by omega⟩
        have hs : s < ns.length := by omega
        rw [trustquorumref02_Satisfied.l0, if_pos (by omega), if_pos (by omega), if_pos (by omega), rd_at ns s hs, has_ref m hm]
        simp only [Option.bind_some]
        rw [nx s (by omega), List.drop_eq_getElem_cons hs, cntN]
        cases hq : tb m ns[s]
        · rw [if_neg (by decide), if_neg (by decide), ihr (s + 1) c k (by omega) (by omega) (by omega) (by omega), Int.zero_add]
        · rw [if_pos rfl, if_pos rfl, w64 (x := c + 1) (by omega) (by omega), ihr (s + 1) (c + 1) k (by omega) (by omega) (by omega) (by omega), Int.add_assoc c 1]
    obtain ⟨k, rfl⟩ : ∃ q, k = q + 1 := ⟨k - 1, by omega⟩
    show trustquorumref02_Satisfied.f (k + 1) th ns inn (m : Int) = _
    rw [trustquorumref02_Satisfied.f, rvalid_eq, decide_eq_true (show 0 ≤ (m : Int) ∧ (m : Int) < 1024 by omega)]
    simp only [Option.bind_some, if_true]
    have := nodes ns.length 0 0 k (by omega) (by omega) (by omega) (by omega)
    rw [List.drop_zero, Int.zero_add] at this
    rw [satT]
    exact this
theorem rsatisfied_eq (t : S27) (m : Nat) (hm : m < 1024) {k : Nat} (hb : fuT t ≤ 1000000) (hk : fuT t ≤ k) : trustquorumref02_Satisfied.f k t.f0 t.f1 t.f2 (m : Int) = some (satT t m) := rsat_eq m hm _ t k (Nat.le_refl _) hb hk
theorem rblocked_eq (t : S27) (m : Nat) (hm : m < 1024) {k : Nat} (hb : fuT t ≤ 1000000) (hk : fuT t ≤ k) : trustquorumref02_Blocked.f k t.f0 t.f1 t.f2 (m : Int) = some (!satT t (1023 - m)) := by
  unfold trustquorumref02_Blocked.f
  rw [rvalid_eq, decide_eq_true (show 0 ≤ (m : Int) ∧ (m : Int) < 1024 by omega), w64 (by omega) (by omega), show (1023 : Int) - (m : Int) = ((1023 - m : Nat) : Int) by omega]
  simp only [Option.bind_some, if_true]
  rw [rsatisfied_eq t (1023 - m) (by omega) hb hk]
  rfl

theorem order_swap {L : List Int} (r : Nat) : ∀ (l : List Int) (p : Int) (k : Nat), St L p → r < l.length → l.length ≤ 100 → r + 2 ≤ k → ∃ l' p', trustquorummake_Tape_Order.l1 k l (r : Int) L p = some (l', p') ∧ l'.length = l.length ∧ St L p' := by
  induction r with
  | zero =>
    intro l p k hs hr hl hk
    obtain ⟨k, rfl⟩ : ∃ m, k = m + 1 := ⟨k - 1, by omega⟩
    exact ⟨l, p, by rw [trustquorummake_Tape_Order.l1, if_neg (by omega)], rfl, hs⟩
  | succ r ih =>
    intro l p k hs hr hl hk
    obtain ⟨k, rfl⟩ : ∃ m, k = m + 1 := ⟨k - 1, by omega⟩
    obtain ⟨q, p', hq, q0, q1, hs'⟩ := N_eq (n := ((r + 1 : Nat) : Int) + 1) hs (by omega) (by omega)
    obtain ⟨l', p'', h1, h2, h3⟩ := ih ((l.set ((r + 1 : Nat) : Int).toNat (rd l q)).set q.toNat (rd l ((r + 1 : Nat) : Int))) p' k hs' (by simp; omega) (by simp; omega) (by omega)
    refine ⟨l', p'', ?_, by rw [h2]; simp, h3⟩
    rw [trustquorummake_Tape_Order.l1, if_pos (by omega), w64 (x := ((r + 1 : Nat) : Int) + 1) (by omega) (by omega), hq]
    simp only [Option.bind_some]
    rw [if_pos q0, if_pos (by omega), if_pos (by omega), if_pos (by omega), w64 (x := ((r + 1 : Nat) : Int) - 1) (by omega) (by omega), show ((r + 1 : Nat) : Int) - 1 = (r : Int) by omega]
    exact h1
theorem order_fill {L : List Int} {n : Nat} (hn : 1 ≤ n) (hn2 : n ≤ 100) (r : Nat) : ∀ (l : List Int) (p : Int) (k : Nat), St L p → l.length + r = n → r + n + 5 ≤ k → ∃ l' p', trustquorummake_Tape_Order.l0 k (n : Int) l (l.length : Int) L p = some (l', p') ∧ l'.length = n ∧ St L p' := by
  induction r with
  | zero =>
    intro l p k hs hl hk
    obtain ⟨k, rfl⟩ : ∃ m, k = m + 1 := ⟨k - 1, by omega⟩
    obtain ⟨l', p', h1, h2, h3⟩ := order_swap (n - 1) l p k hs (by omega) (by omega) (by omega)
    refine ⟨l', p', ?_, by omega, h3⟩
    rw [trustquorummake_Tape_Order.l0, if_neg (by omega), w64 (x := (n : Int) - 1) (by omega) (by omega), show (n : Int) - 1 = ((n - 1 : Nat) : Int) by omega]
    exact h1
  | succ r ih =>
    intro l p k hs hl hk
    obtain ⟨k, rfl⟩ : ∃ m, k = m + 1 := ⟨k - 1, by omega⟩
    obtain ⟨l', p', h1, h2, h3⟩ := ih (l ++ [(l.length : Int)]) p k hs (by rw [List.length_append]; simp only [List.length_cons, List.length_nil]; omega) (by omega)
    refine ⟨l', p', ?_, h2, h3⟩
    rw [trustquorummake_Tape_Order.l0, if_pos (by omega), if_pos (by omega), nx l.length (by omega)]
    rw [List.length_append] at h1
    exact h1
theorem order_eq {L : List Int} {p : Int} {n : Nat} (h : St L p) (hn : 1 ≤ n) (hn2 : n ≤ 100) {k : Nat} (hk : 2 * n + 10 ≤ k) : ∃ l p', trustquorummake_Tape_Order.f k L p (n : Int) = some (l, p') ∧ l.length = n ∧ St L p' := by
  unfold trustquorummake_Tape_Order.f
  exact order_fill hn hn2 n [] p k h (by simp) (by omega)
theorem pick6 {L : List Int} {p : Int} (h : St L p) : ∃ c p', trustquorummake_Tape_Pick.f L p ([0, 0, 1, 1, 2, 3] : List Int) = some (c, p') ∧ 0 ≤ c ∧ c ≤ 3 ∧ St L p' := by
  obtain ⟨r, p', hr, h0, h1, hs⟩ := N_eq (n := 6) h (by omega) (by omega)
  have l6 : ((([0, 0, 1, 1, 2, 3] : List Int).length : Nat) : Int) = 6 := rfl
  unfold trustquorummake_Tape_Pick.f
  rw [l6, hr]
  simp only [Option.bind_some]
  rw [if_pos h0, if_pos h1]
  refine ⟨_, _, rfl, ?_, ?_, hs⟩
  all_goals
    have : r = 0 ∨ r = 1 ∨ r = 2 ∨ r = 3 ∨ r = 4 ∨ r = 5 := by omega
    rcases this with rfl | rfl | rfl | rfl | rfl | rfl <;> decide
def fd : Nat → Nat
  | 0 => 40
  | d + 1 => 40 + 3 * (3 + fd d)
theorem fd_ge (d : Nat) : 40 ≤ fd d := by cases d <;> simp only [fd] <;> omega
theorem copy_nodes {L : List Int} (n deep : Int) (ns : List Int) (hns : ns.length ≤ 5) (Q : Option (Int × List Int × List S27 × Int)) (p : Int) (K : Nat)
    (hQ : ∀ k, K ≤ k → trustquorummake_trust.l0 k n deep ns (ns.length : Int) (ns.length : Int) L p 0 ns = Q) (r : Nat) :
    ∀ (s k : Nat), s + r = ns.length → K + r ≤ k → trustquorummake_trust.l0 k n deep ns (ns.length : Int) (s : Int) L p 0 (ns.take s) = Q := by
  induction r with
  | zero =>
    intro s k h1 hk
    rw [show s = ns.length by omega, List.take_length]
    exact hQ k (by omega)
  | succ r ih =>
    intro s k h1 hk
    obtain ⟨k, rfl⟩ : ∃ m, k = m + 1 := ⟨k - 1, by omega⟩
    have hs : s < ns.length := by omega
    rw [trustquorummake_trust.l0, if_pos (by omega), if_pos (by omega), if_pos (by omega), if_pos (by rw [List.length_take]; omega), rd_at ns s hs, nx s (by omega), show ns.take s ++ [ns[s]] = ns.take (s + 1) by rw [List.take_succ_eq_append_getElem hs]]
    exact ih (s + 1) k (by omega) (by omega)
theorem trust_eq {L : List Int} {n : Nat} (hn : 1 ≤ n) (hn2 : n ≤ 10) (d : Nat) : (d : Int) ≤ 1000 → ∀ (p : Int) (k : Nat), St L p → fd d + 40 ≤ k → ∃ th ns inn p', trustquorummake_trust.f k L p (n : Int) (d : Int) = some (th, ns, inn, p') ∧ fuT ⟨th, ns, inn⟩ ≤ fd d ∧ St L p' := by
  induction d with
  | zero =>
    intro _ p k hs hk
    rw [fd] at hk
    obtain ⟨k, rfl⟩ : ∃ m, k = m + 1 := ⟨k - 1, by omega⟩
    obtain ⟨l, p1, h1, hl, s1⟩ := order_eq (n := n) hs hn (by omega) (k := k) (by omega)
    have hm : 1 ≤ mn (n : Int) 5 ∧ mn (n : Int) 5 ≤ 5 ∧ mn (n : Int) 5 ≤ n := by unfold mn; split <;> omega
    obtain ⟨r, p2, h2, r0, r1, s2⟩ := Range_eq (a := 1) (b := mn (n : Int) 5) s1 (by omega) (by omega) (by omega)
    obtain ⟨q, rfl⟩ := Int.eq_ofNat_of_zero_le (show 0 ≤ r by omega)
    have hlen : (l.take q).length = q := by rw [List.length_take]; omega
    obtain ⟨th, p3, h3, t0, t1, s3⟩ := Range_eq (a := 1) (b := ((l.take q).length : Int)) s2 (by omega) (by omega) (by omega)
    refine ⟨th, l.take q, [], p3, ?_, by rw [fuT, fuL, fd]; omega, s3⟩
    rw [trustquorummake_trust.f, h1]
    simp only [Option.bind_some]
    rw [h2]
    simp only [Option.bind_some]
    rw [if_pos (by omega), if_pos (by omega), Int.toNat_natCast]
    refine copy_nodes (n : Int) ((0 : Nat) : Int) (l.take q) (by omega) _ p2 1 (fun k hk => ?_) (l.take q).length 0 k (by omega) (by omega)
    obtain ⟨k, rfl⟩ : ∃ m, k = m + 1 := ⟨k - 1, by omega⟩
    rw [trustquorummake_trust.l0, if_neg (by omega), if_neg (by omega), w64 (x := ((l.take q).length : Int)) (by omega) (by omega), h3]
    rfl
  | succ d ih =>
    intro hdd0 p k hs hk
    have hdd : (d : Int) ≤ 1000 := by omega
    have ih := ih hdd
    have hfd := fd_ge d
    rw [fd] at hk
    obtain ⟨k, rfl⟩ : ∃ m, k = m + 1 := ⟨k - 1, by omega⟩
    obtain ⟨l, p1, h1, hl, s1⟩ := order_eq (n := n) hs hn (by omega) (k := k) (by omega)
    have hm : 1 ≤ mn (n : Int) 5 ∧ mn (n : Int) 5 ≤ 5 ∧ mn (n : Int) 5 ≤ n := by unfold mn; split <;> omega
    obtain ⟨r, p2, h2, r0, r1, s2⟩ := Range_eq (a := 1) (b := mn (n : Int) 5) s1 (by omega) (by omega) (by omega)
    obtain ⟨q, rfl⟩ := Int.eq_ofNat_of_zero_le (show 0 ≤ r by omega)
    have hlen : (l.take q).length = q := by rw [List.length_take]; omega
    have inner : ∀ (c : Nat) (inn : List S27) (p : Int) (k : Nat), St L p → inn.length + c ≤ 3 → fuL inn ≤ inn.length * (3 + fd d) → fd d + 40 + c + 3 ≤ k → 1 < ((d + 1 : Nat) : Int) → ∃ th ns inn' p', trustquorummake_trust.l1 k (n : Int) ((d + 1 : Nat) : Int) (c : Int) L p 0 (l.take q) inn = some (th, ns, inn', p') ∧ fuT ⟨th, ns, inn'⟩ ≤ fd (d + 1) ∧ St L p' := by
      intro c
      induction c with
      | zero =>
        intro inn p k hs hc hf hk hd
        obtain ⟨k, rfl⟩ : ∃ m, k = m + 1 := ⟨k - 1, by omega⟩
        have hmul : inn.length * (3 + fd d) ≤ 3 * (3 + fd d) := Nat.mul_le_mul_right _ (by omega)
        rw [trustquorummake_trust.l1, if_neg (by omega)]
        by_cases hi : (inn.length : Int) > 0
        · obtain ⟨z, pz, hz, z0, z1, sz⟩ := N_eq (n := 3) hs (by omega) (by omega)
          rw [if_pos hi, hz]
          simp only [Option.bind_some]
          by_cases hz0 : z = 0
          · obtain ⟨th, p3, h3, t0, t1, s3⟩ := Range_eq (a := 1) (b := (inn.length : Int)) sz (by omega) (by omega) (by omega)
            rw [if_pos hz0, w64 (x := (inn.length : Int)) (by omega) (by omega), h3]
            exact ⟨th, [], inn, p3, rfl, by rw [fuT, fd, List.length_nil]; omega, s3⟩
          · obtain ⟨th, p3, h3, t0, t1, s3⟩ := Range_eq (a := 1) (b := ((l.take q).length : Int) + (inn.length : Int)) sz (by omega) (by omega) (by omega)
            rw [if_neg hz0, w64 (x := ((l.take q).length : Int) + (inn.length : Int)) (by omega) (by omega), h3]
            exact ⟨th, _, inn, p3, rfl, by rw [fuT, fd]; omega, s3⟩
        · obtain ⟨th, p3, h3, t0, t1, s3⟩ := Range_eq (a := 1) (b := ((l.take q).length : Int) + (inn.length : Int)) hs (by omega) (by omega) (by omega)
          rw [if_neg hi, w64 (x := ((l.take q).length : Int) + (inn.length : Int)) (by omega) (by omega), h3]
          exact ⟨th, _, inn, p3, rfl, by rw [fuT, fd]; omega, s3⟩
      | succ c ihc =>
        intro inn p k hs hc hf hk hd
        obtain ⟨k, rfl⟩ : ∃ m, k = m + 1 := ⟨k - 1, by omega⟩
        obtain ⟨th, ns, inn', p', ht, hft, st⟩ := ih p k hs (by omega)
        have happ : ∀ (l : List S27) (t : S27), fuL (l ++ [t]) = fuL l + (3 + fuT t) := by
          intro l t
          induction l with
          | nil => rw [List.nil_append, fuL]; simp only [fuL]; omega
          | cons a l ih => rw [List.cons_append, fuL, fuL, ih]; omega
        obtain ⟨th2, ns2, inn2, p2', h2', hf2, st2⟩ := ihc (inn ++ [(⟨th, ns, inn'⟩ : S27)]) p' k st (by rw [List.length_append]; simp only [List.length_cons, List.length_nil]; omega) (by rw [happ, List.length_append]; simp only [List.length_cons, List.length_nil, Nat.zero_add, Nat.add_mul, Nat.one_mul]; omega) (by omega) hd
        refine ⟨th2, ns2, inn2, p2', ?_, hf2, st2⟩
        have hd2 : (d : Int) ≤ 1000 := hdd
        rw [trustquorummake_trust.l1, if_pos (by omega), w64 (x := ((d + 1 : Nat) : Int) - 1) (by omega) (by omega), show ((d + 1 : Nat) : Int) - 1 = (d : Int) by omega, ht]
        simp only [Option.bind_some]
        rw [if_pos (by omega), w64 (x := ((c + 1 : Nat) : Int) - 1) (by omega) (by omega), show ((c + 1 : Nat) : Int) - 1 = (c : Int) by omega]
        exact h2'
    by_cases hd : 1 < ((d + 1 : Nat) : Int)
    · obtain ⟨c, p3, h3, c0, c1, s3⟩ := pick6 s2
      obtain ⟨c, rfl⟩ := Int.eq_ofNat_of_zero_le c0
      obtain ⟨th, ns, inn, p4, h4, hf4, s4⟩ := inner c [] p3 (k - 6) s3 (by simp only [List.length_nil]; omega) (by rw [fuL]; omega) (by omega) hd
      refine ⟨th, ns, inn, p4, ?_, hf4, s4⟩
      rw [trustquorummake_trust.f, h1]
      simp only [Option.bind_some]
      rw [h2]
      simp only [Option.bind_some]
      rw [if_pos (by omega), if_pos (by omega), Int.toNat_natCast]
      refine copy_nodes (n : Int) ((d + 1 : Nat) : Int) (l.take q) (by omega) _ p2 (k - 5) (fun k' hk' => ?_) (l.take q).length 0 k (by omega) (by omega)
      obtain ⟨k', rfl⟩ : ∃ m, k' = m + 1 := ⟨k' - 1, by omega⟩
      rw [trustquorummake_trust.l0, if_neg (by omega), if_pos hd, h3]
      simp only [Option.bind_some]
      exact at_rounds (g := fun k => trustquorummake_trust.l1 k (n : Int) ((d + 1 : Nat) : Int) (c : Int) L p3 0 (l.take q) []) (fun k => (trustquorummake_trust.mono_l k).2.2 _ _ _ _ _ _ _ _) (show k - 6 ≤ k' by omega) h4
    · obtain ⟨th, p3, h3, t0, t1, s3⟩ := Range_eq (a := 1) (b := ((l.take q).length : Int)) s2 (by omega) (by omega) (by omega)
      refine ⟨th, l.take q, [], p3, ?_, by rw [fuT, fuL, fd]; omega, s3⟩
      rw [trustquorummake_trust.f, h1]
      simp only [Option.bind_some]
      rw [h2]
      simp only [Option.bind_some]
      rw [if_pos (by omega), if_pos (by omega), Int.toNat_natCast]
      refine copy_nodes (n : Int) ((d + 1 : Nat) : Int) (l.take q) (by omega) _ p2 1 (fun k hk => ?_) (l.take q).length 0 k (by omega) (by omega)
      obtain ⟨k, rfl⟩ : ∃ m, k = m + 1 := ⟨k - 1, by omega⟩
      rw [trustquorummake_trust.l0, if_neg (by omega), if_neg hd, w64 (x := ((l.take q).length : Int)) (by omega) (by omega), h3]
      rfl
theorem one_ok : ∀ r, r < 10 → chkT (⟨1, [((r : Nat) : Int)], []⟩ : S27) = 0 := by decide +kernel
theorem Trust_eq {L : List Int} {p n : Int} (h : St L p) (hn : 1 ≤ n) (hn2 : n ≤ 10) (d : Nat) (hd : d ≤ 4) {k : Nat} (hk : 6000 ≤ k) : ∃ th ns inn p', trustquorummake_Trust.f k L p n (d : Int) = some (th, ns, inn, p') ∧ fuT ⟨th, ns, inn⟩ ≤ 5800 ∧ chkT ⟨th, ns, inn⟩ = 0 ∧ depT ⟨th, ns, inn⟩ ≤ 4 ∧ sizT ⟨th, ns, inn⟩ ≤ 200 ∧ St L p' := by
  obtain ⟨n, rfl⟩ := Int.eq_ofNat_of_zero_le (show 0 ≤ n by omega)
  have hfd : fd d ≤ 5800 := by
    have : d = 0 ∨ d = 1 ∨ d = 2 ∨ d = 3 ∨ d = 4 := by omega
    rcases this with rfl | rfl | rfl | rfl | rfl <;> decide
  obtain ⟨th, ns, inn, p', h1, hf, hs⟩ := trust_eq (n := n) (by omega) (by omega) d (by omega) p k h (by omega)
  unfold trustquorummake_Trust.f
  rw [h1]
  simp only [Option.bind_some]
  have hv := refValid_eq ⟨th, ns, inn⟩ (k := k) (by omega) (by omega)
  rw [show trustquorumref02_Valid.f k th ns inn = some (valT ⟨th, ns, inn⟩) from hv]
  simp only [Option.bind_some]
  by_cases h0 : valT ⟨th, ns, inn⟩ = 0
  · rw [if_pos h0]
    unfold valT at h0
    by_cases a1 : depT ⟨th, ns, inn⟩ > 4
    · rw [if_pos a1] at h0; cases h0
    · rw [if_neg a1] at h0
      by_cases a2 : sizT ⟨th, ns, inn⟩ > 200
      · rw [if_pos a2] at h0; cases h0
      · rw [if_neg a2] at h0
        exact ⟨th, ns, inn, p', rfl, by omega, h0, by omega, by omega, hs⟩
  · rw [if_neg h0]
    obtain ⟨r, p2, h2, r0, r1, s2⟩ := N_eq (n := (n : Int)) hs (by omega) (by omega)
    rw [h2]
    obtain ⟨q, rfl⟩ := Int.eq_ofNat_of_zero_le r0
    refine ⟨1, [(q : Int)], [], p2, rfl, by rw [fuT, fuL]; simp, one_ok q (by omega), ?_, ?_, s2⟩
    · rw [depT, depL]; omega
    · rw [sizT, sizL]; simp

theorem awake_eq {k : Nat} (hk : 200 ≤ k) : trustquorumlaw02_awake.f k = some true := by
  obtain ⟨m, rfl⟩ : ∃ m, k = m + 200 := ⟨k - 200, by omega⟩
  unfold trustquorumlaw02_awake.f
  simp only [Option.bind_some]
  have hd : threshold_Dual.f (m + 200) 2 [0, 1] [(⟨1, [2, 3], []⟩ : S27)] = some (2, [0, 1], [⟨2, [2, 3], []⟩]) := by
    have d1 : threshold_Dual.f (m + 197) 1 [2, 3] [] = some (2, [2, 3], []) := by
      show threshold_Dual.f ((m + 196) + 1) 1 [2, 3] [] = _
      rw [threshold_Dual.f, show slices_Clone_int_int.f [2, 3] = some [2, 3] by decide +kernel]
      simp only [Option.bind_some]
      show threshold_Dual.l0 ((m + 195) + 1) _ _ _ _ _ _ = _
      rw [threshold_Dual.l0, if_neg (by simp), show wrap64 (wrap64 (wrap64 ((([2, 3] : List Int).length : Int) + (([] : List S27).length : Int)) + 1) - 1) = 2 by decide +kernel]
    show threshold_Dual.f ((m + 199) + 1) 2 [0, 1] [(⟨1, [2, 3], []⟩ : S27)] = _
    rw [threshold_Dual.f, show slices_Clone_int_int.f [0, 1] = some [0, 1] by decide +kernel]
    simp only [Option.bind_some]
    show threshold_Dual.l0 ((m + 198) + 1) _ _ _ _ _ _ = _
    rw [threshold_Dual.l0, if_pos (by simp), if_pos (by omega), if_pos (by simp)]
    show ((threshold_Dual.f (m + 198) 1 [2, 3] []).bind _) = _
    rw [at_rounds (g := fun k => threshold_Dual.f k 1 [2, 3] []) (fun k => threshold_Dual.mono _ _ _ k) (show m + 197 ≤ m + 198 by omega) d1]
    simp only [Option.bind_some]
    rw [if_pos (by simp)]
    show threshold_Dual.l0 ((m + 197) + 1) _ _ _ _ _ _ = _
    rw [threshold_Dual.l0, if_neg (by decide +kernel), show wrap64 (wrap64 (wrap64 ((([0, 1] : List Int).length : Int) + (([(⟨1, [2, 3], []⟩ : S27)] : List S27).length : Int)) + 1) - 2) = 2 by decide +kernel]
    rfl
  rw [hd]
  have hb : fuT (⟨2, [0, 1], [⟨1, [2, 3], []⟩]⟩ : S27) ≤ 100 := by decide +kernel
  have s5 := satisfied_eq (⟨2, [0, 1], [⟨1, [2, 3], []⟩]⟩ : S27) 5 (by omega) (k := m + 200) (by omega) (by omega)
  have s12 := satisfied_eq (⟨2, [0, 1], [⟨1, [2, 3], []⟩]⟩ : S27) 12 (by omega) (k := m + 200) (by omega) (by omega)
  have b3 := blocked_eq (⟨2, [0, 1], [⟨1, [2, 3], []⟩]⟩ : S27) 3 (by omega) (k := m + 200) (by omega) (by omega)
  have b4 := blocked_eq (⟨2, [0, 1], [⟨1, [2, 3], []⟩]⟩ : S27) 4 (by omega) (k := m + 200) (by omega) (by omega)
  simp only [Option.bind_some]
  rw [show threshold_Satisfied.f (m + 200) 2 [0, 1] [(⟨1, [2, 3], []⟩ : S27)] 5 = some true from s5.trans (by decide +kernel), show threshold_Satisfied.f (m + 200) 2 [0, 1] [(⟨1, [2, 3], []⟩ : S27)] 12 = some false from s12.trans (by decide +kernel),
    show threshold_Blocked.f (m + 200) 2 [0, 1] [(⟨1, [2, 3], []⟩ : S27)] 3 = some true from b3.trans (by decide +kernel), show threshold_Blocked.f (m + 200) 2 [0, 1] [(⟨1, [2, 3], []⟩ : S27)] 4 = some false from b4.trans (by decide +kernel)]
  rfl

theorem threshold_Size_eq (N : Nat) : ∀ (t : S27) (k : Nat), fuT t ≤ N → fuT t ≤ 1000000 → fuT t ≤ k → threshold_Size.f k t.f0 t.f1 t.f2 = some (sizT t) := by
  induction N with
  | zero => intro t k h; rw [fuT_eq] at h; omega
  | succ N ih =>
    intro t k h hb hk
    obtain ⟨th, ns, inn⟩ := t
    rw [fuT] at h hb hk
    have hl := fuL_len inn
    have key : ∀ (r s : Nat) (c : Int) (k : Nat), s + r = inn.length → fuL (inn.drop s) + 2 ≤ k → 0 ≤ c → c + 2 * fuL (inn.drop s) ≤ 10000000 → threshold_Size.l0 k c inn (inn.length : Int) (s : Int) = some (sizL (inn.drop s) c) := by
      intro r
      induction r with
      | zero =>
        intro s c k h1 hk _ _
        obtain ⟨k, rfl⟩ : ∃ m, k = m + 1 := ⟨k - 1, by omega⟩
        rw [threshold_Size.l0, if_neg (by omega), List.drop_of_length_le (by omega), sizL]
      | succ r ihr =>
        intro s c k h1 hk hc0 hc1
        obtain ⟨k, rfl⟩ : ∃ m, k = m + 1 := ⟨k - 1, by omega⟩
        have hs : s < inn.length := by omega
        have hd := fuL_drop inn s hs
        have hle := fuL_le inn s
        have hb2 := siz_bd _ inn[s] (Nat.le_refl _)
        rw [threshold_Size.l0, if_pos (by omega), if_pos (by omega), if_pos (by omega), rdS_at inn s hs, ih inn[s] k (by omega) (by omega) (by omega)]
        simp only [Option.bind_some]
        rw [w64 (x := c + sizT inn[s]) (by omega) (by omega), nx s (by omega), ihr (s + 1) (c + sizT inn[s]) k (by omega) (by omega) (by omega) (by omega), List.drop_eq_getElem_cons hs, sizL]
    obtain ⟨k, rfl⟩ : ∃ m, k = m + 1 := ⟨k - 1, by omega⟩
    show threshold_Size.f (k + 1) th ns inn = _
    rw [threshold_Size.f, w64 (by omega) (by omega), sizT]
    exact key inn.length 0 _ k (by omega) (by rw [List.drop_zero]; omega) (by omega) (by rw [List.drop_zero]; omega)

theorem threshold_Depth_eq (N : Nat) : ∀ (t : S27) (k : Nat), fuT t ≤ N → fuT t ≤ 1000000 → fuT t ≤ k → threshold_Depth.f k t.f0 t.f1 t.f2 = some (depT t) := by
  induction N with
  | zero => intro t k h; rw [fuT_eq] at h; omega
  | succ N ih =>
    intro t k h hb hk
    obtain ⟨th, ns, inn⟩ := t
    rw [fuT] at h hb hk
    have hl := fuL_len inn
    have key : ∀ (r s : Nat) (c : Int) (k : Nat), s + r = inn.length → fuL (inn.drop s) + 2 ≤ k → 0 ≤ c → c + fuL (inn.drop s) ≤ 10000000 → threshold_Depth.l0 k c inn (inn.length : Int) (s : Int) = some (depL (inn.drop s) c + 1) := by
      intro r
      induction r with
      | zero =>
        intro s c k h1 hk hc0 hc1
        obtain ⟨k, rfl⟩ : ∃ m, k = m + 1 := ⟨k - 1, by omega⟩
        rw [threshold_Depth.l0, if_neg (by omega), List.drop_of_length_le (by omega), depL, w64 (by omega) (by omega)]
      | succ r ihr =>
        intro s c k h1 hk hc0 hc1
        obtain ⟨k, rfl⟩ : ∃ m, k = m + 1 := ⟨k - 1, by omega⟩
        have hs : s < inn.length := by omega
        have hd := fuL_drop inn s hs
        have hle := fuL_le inn s
        have hb2 := dep_bd _ inn[s] (Nat.le_refl _)
        have hm : 0 ≤ mx c (depT inn[s]) ∧ mx c (depT inn[s]) ≤ c + fuT inn[s] := by unfold mx; split <;> omega
        rw [threshold_Depth.l0, if_pos (by omega), if_pos (by omega), if_pos (by omega), rdS_at inn s hs, ih inn[s] k (by omega) (by omega) (by omega)]
        simp only [Option.bind_some]
        rw [nx s (by omega), ihr (s + 1) (mx c (depT inn[s])) k (by omega) (by omega) (by omega) (by omega), List.drop_eq_getElem_cons hs, depL]
    obtain ⟨k, rfl⟩ : ∃ m, k = m + 1 := ⟨k - 1, by omega⟩
    show threshold_Depth.f (k + 1) th ns inn = _
    rw [threshold_Depth.f, depT]
    exact key inn.length 0 0 k (by omega) (by rw [List.drop_zero]; omega) (by omega) (by rw [List.drop_zero]; omega)

theorem nodeset_Of_loop (l : List Int) (hl : l.length ≤ 1000000) (r : Nat) : ∀ (s m k : Nat), s + r = l.length → m < 1024 → 2 * r + 2 ≤ k → nodeset_Of.l0 k (m : Int) l (l.length : Int) (s : Int) = some (ofR (l.drop s) m) := by
  induction r with
  | zero =>
    intro s m k h1 hm hk
    obtain ⟨k, rfl⟩ : ∃ q, k = q + 1 := ⟨k - 1, by omega⟩
    rw [nodeset_Of.l0, if_neg (by omega), List.drop_of_length_le (by omega), ofR]
  | succ r ih =>
    intro s m k h1 hm hk
    obtain ⟨k, rfl⟩ : ∃ q, k = q + 2 := ⟨k - 2, by omega⟩
    have hs : s < l.length := by omega
    show nodeset_Of.l0 ((k + 1) + 1) _ _ _ _ = _
    rw [nodeset_Of.l0, if_pos (by omega), if_pos (by omega), if_pos (by omega), rd_at l s hs, List.drop_eq_getElem_cons hs, ofR]
    generalize l[s] = x
    by_cases h0 : x < 0
    · rw [if_pos h0, nodeset_Of.j1, if_pos rfl, if_pos (.inl h0)]
    · rw [if_neg h0, nodeset_Of.j1]
      by_cases h2 : x ≥ 10
      · rw [if_pos (decide_eq_true h2), if_pos (.inr h2)]
      · rw [if_neg (by rw [decide_eq_true_eq]; exact h2), if_neg (show ¬ (x < 0 ∨ 10 ≤ x) by omega), has_eq m hm x]
        simp only [Option.bind_some]
        cases ht : tb m x
        · simp only [Bool.false_eq_true, if_false]
          obtain ⟨i, rfl⟩ := Int.eq_ofNat_of_zero_le (show 0 ≤ x by omega)
          have hp := pow_lt i (by omega)
          rw [if_pos (show 0 ≤ (i : Int) by omega), shl_eq i (by omega), or_eq m (2 ^ i) hm hp, nx s (by omega), Int.toNat_natCast]
          exact ih (s + 1) (m ||| 2 ^ i) k (by omega) (Nat.or_lt_two_pow (n := 10) hm hp) (by omega)
        · simp only [if_true]
theorem nodeset_Of_eq (l : List Int) (hl : l.length ≤ 1000000) {k : Nat} (hk : 2 * l.length + 2 ≤ k) : nodeset_Of.f k l = some (ofR l 0) := by
  unfold nodeset_Of.f
  exact nodeset_Of_loop l hl l.length 0 0 k (by omega) (by omega) hk

theorem node_eq (k : Int) : threshold_node.f k = some (decide (0 ≤ k ∧ k < 10)) := by
  unfold threshold_node.f
  by_cases h : k ≥ 0
  · rw [if_pos h]; congr 1; rw [decide_eq_decide]; omega
  · rw [if_neg h]; congr 1; rw [eq_comm, decide_eq_false_iff_not]; omega
theorem bad_eq (k : Int) : threshold_level_1.f k = some (decide (k < 0 ∨ 10 ≤ k)) := by
  unfold threshold_level_1.f
  rw [node_eq]
  simp only [Option.bind_some]
  congr 1
  by_cases h : 0 ≤ k ∧ k < 10
  · rw [decide_eq_true h, decide_eq_false (by omega)]; rfl
  · rw [decide_eq_false h, decide_eq_true (by omega)]; rfl
theorem indexf_loop (l : List Int) (hl : l.length ≤ 1000000) (r : Nat) : ∀ (s k : Nat), s + r = l.length → r + 1 ≤ k → ∃ x, slices_IndexFunc_int_int__on_49.l0 k l (l.length : Int) (s : Int) = some x ∧ decide (x ≥ 0) = outR (l.drop s) := by
  induction r with
  | zero =>
    intro s k h1 hk
    obtain ⟨k, rfl⟩ : ∃ q, k = q + 1 := ⟨k - 1, by omega⟩
    exact ⟨-1, by rw [slices_IndexFunc_int_int__on_49.l0, if_neg (by omega)], by rw [List.drop_of_length_le (by omega)]; decide⟩
  | succ r ih =>
    intro s k h1 hk
    obtain ⟨k, rfl⟩ : ∃ q, k = q + 1 := ⟨k - 1, by omega⟩
    have hs : s < l.length := by omega
    have ho : outR (l.drop s) = (decide (l[s] < 0 ∨ 10 ≤ l[s]) || outR (l.drop (s + 1))) := by rw [List.drop_eq_getElem_cons hs]; unfold outR; rw [List.any_cons]
    rw [slices_IndexFunc_int_int__on_49.l0, if_pos (by omega), if_pos (by omega), if_pos (by omega), rd_at l s hs, bad_eq, ho]
    simp only [Option.bind_some]
    by_cases hb : l[s] < 0 ∨ 10 ≤ l[s]
    · exact ⟨(s : Int), by rw [if_pos (decide_eq_true hb)], by rw [decide_eq_true hb, decide_eq_true (by omega), Bool.true_or]⟩
    · obtain ⟨x, hx, hd⟩ := ih (s + 1) k (by omega) (by omega)
      exact ⟨x, by rw [if_neg (by rw [decide_eq_true_eq]; exact hb), nx s (by omega)]; exact hx, by rw [hd, decide_eq_false hb, Bool.false_or]⟩
theorem containsf_eq (l : List Int) (hl : l.length ≤ 1000000) {k : Nat} (hk : l.length + 1 ≤ k) : slices_ContainsFunc_int_int__on_49.f k l = some (outR l) := by
  obtain ⟨x, hx, hd⟩ := indexf_loop l hl l.length 0 k (by omega) hk
  unfold slices_ContainsFunc_int_int__on_49.f slices_IndexFunc_int_int__on_49.f
  rw [show (0 : Int) = ((0 : Nat) : Int) from rfl, hx]
  simp only [Option.bind_some]
  rw [List.drop_zero] at hd
  rw [← hd]
  rfl
theorem level_eq (N : Nat) : ∀ (t : S27) (k : Nat), fuT t ≤ N → fuT t ≤ 1000000 → fuT t ≤ k → threshold_level.f k t.f0 t.f1 t.f2 = some (chkT t) := by
  induction N with
  | zero => intro t k h; rw [fuT_eq] at h; omega
  | succ N ih =>
    intro t k h hb hk
    obtain ⟨th, ns, inn⟩ := t
    rw [fuT] at h hb hk
    have hl := fuL_len inn
    have key : ∀ (r s : Nat) (k : Nat), s + r = inn.length → fuL (inn.drop s) + 2 ≤ k → threshold_level.l0 k inn (inn.length : Int) (s : Int) = some (chkL (inn.drop s)) := by
      intro r
      induction r with
      | zero =>
        intro s k h1 hk
        obtain ⟨k, rfl⟩ : ∃ m, k = m + 1 := ⟨k - 1, by omega⟩
        rw [threshold_level.l0, if_neg (by omega), List.drop_of_length_le (by omega), chkL]
      | succ r ihr =>
        intro s k h1 hk
        obtain ⟨k, rfl⟩ : ∃ m, k = m + 1 := ⟨k - 1, by omega⟩
        have hs : s < inn.length := by omega
        have hd := fuL_drop inn s hs
        have hle := fuL_le inn s
        rw [threshold_level.l0, if_pos (by omega), if_pos (by omega), if_pos (by omega), rdS_at inn s hs, ih inn[s] k (by omega) (by omega) (by omega)]
        simp only [Option.bind_some]
        rw [nx s (by omega), List.drop_eq_getElem_cons hs, chkL]
        by_cases hc : chkT inn[s] = 0
        · rw [if_pos hc, if_pos hc]; exact ihr (s + 1) k (by omega) (by omega)
        · rw [if_neg hc, if_neg hc]
    obtain ⟨k, rfl⟩ : ∃ m, k = m + 2 := ⟨k - 2, by omega⟩
    show threshold_level.f ((k + 1) + 1) th ns inn = _
    rw [threshold_level.f, w64 (by omega) (by omega), chkT]
    by_cases h0 : th < 1
    · rw [if_pos h0, threshold_level.j0, if_pos rfl, if_pos (.inl h0)]
    · rw [if_neg h0, threshold_level.j0]
      by_cases h1 : th > (ns.length : Int) + (inn.length : Int)
      · rw [if_pos (decide_eq_true h1), if_pos (.inr h1)]
      · rw [if_neg (by rw [decide_eq_true_eq]; exact h1), if_neg (show ¬ (th < 1 ∨ th > (ns.length : Int) + (inn.length : Int)) by omega), containsf_eq ns (by omega) (by omega), nodeset_Of_eq ns (by omega) (by omega)]
        simp only [Option.bind_some]
        cases ho : outR ns
        · rw [if_neg (show ¬ (false = true) by decide), if_neg (show ¬ (false = true) by decide)]
          by_cases he : (ofR ns 0).2 = 0
          · rw [if_pos he, if_pos he]; exact key inn.length 0 k (by omega) (by rw [List.drop_zero]; omega)
          · rw [if_neg he, if_neg he]
        · rw [if_pos rfl, if_pos rfl]
theorem valid_eq (t : S27) {k : Nat} (hb : fuT t ≤ 1000000) (hk : fuT t ≤ k) : threshold_Valid.f k t.f0 t.f1 t.f2 = some (valT t) := by
  unfold threshold_Valid.f valT
  rw [threshold_Depth_eq _ t k (Nat.le_refl _) hb hk, threshold_Size_eq _ t k (Nat.le_refl _) hb hk, level_eq _ t k (Nat.le_refl _) hb hk]
  simp only [Option.bind_some]
  split
  · rfl
  · split <;> rfl
def useN : List Int → Nat → Nat
  | [], m => m
  | k :: l, m => useN l (if 0 ≤ k ∧ k < 10 then m ||| 2 ^ k.toNat else m)
mutual
def useT : S27 → Nat
  | ⟨_, ns, inn⟩ => useL inn (useN ns 0)
def useL : List S27 → Nat → Nat
  | [], m => m
  | t :: l, m => useL l (m ||| useT t)
end
theorem useN_lt : ∀ (l : List Int) (m : Nat), m < 1024 → useN l m < 1024
  | [], _, h => h
  | k :: l, m, h => by
    rw [useN]
    by_cases hk : 0 ≤ k ∧ k < 10
    · rw [if_pos hk]; exact useN_lt l _ (Nat.or_lt_two_pow (n := 10) h (pow_lt k.toNat (by omega)))
    · rw [if_neg hk]; exact useN_lt l m h
mutual
theorem useT_lt : ∀ t : S27, useT t < 1024
  | ⟨_, ns, inn⟩ => by rw [useT]; exact useL_lt inn _ (useN_lt ns 0 (by omega))
theorem useL_lt : ∀ (l : List S27) (m : Nat), m < 1024 → useL l m < 1024
  | [], _, h => h
  | t :: l, m, h => by rw [useL]; exact useL_lt l _ (Nat.or_lt_two_pow (n := 10) h (useT_lt t))
end
theorem uses_eq (N : Nat) : ∀ (t : S27) (k : Nat), fuT t ≤ N → fuT t ≤ 1000000 → fuT t ≤ k → threshold_Uses.f k t.f0 t.f1 t.f2 = some ((useT t : Nat) : Int) := by
  induction N with
  | zero => intro t k h; rw [fuT_eq] at h; omega
  | succ N ih =>
    intro t k h hb hk
    obtain ⟨th, ns, inn⟩ := t
    rw [fuT] at h hb hk
    have hl := fuL_len inn
    have key : ∀ (r s m : Nat) (k : Nat), s + r = inn.length → fuL (inn.drop s) + 2 ≤ k → m < 1024 → threshold_Uses.l1 k (m : Int) inn (inn.length : Int) (s : Int) = some ((useL (inn.drop s) m : Nat) : Int) := by
      intro r
      induction r with
      | zero =>
        intro s m k h1 hk hm
        obtain ⟨k, rfl⟩ : ∃ q, k = q + 1 := ⟨k - 1, by omega⟩
        rw [threshold_Uses.l1, if_neg (by omega), List.drop_of_length_le (by omega), useL]
      | succ r ihr =>
        intro s m k h1 hk hm
        obtain ⟨k, rfl⟩ : ∃ q, k = q + 1 := ⟨k - 1, by omega⟩
        have hs : s < inn.length := by omega
        have hd := fuL_drop inn s hs
        have hle := fuL_le inn s
        rw [threshold_Uses.l1, if_pos (by omega), if_pos (by omega), if_pos (by omega), rdS_at inn s hs, ih inn[s] k (by omega) (by omega) (by omega)]
        simp only [Option.bind_some]
        rw [nx s (by omega), List.drop_eq_getElem_cons hs, useL, or_eq m _ hm (useT_lt _)]
        exact ihr (s + 1) _ k (by omega) (by omega) (Nat.or_lt_two_pow (n := 10) hm (useT_lt _))
    have nodes : ∀ (r s m : Nat) (k : Nat), s + r = ns.length → r + fuL inn + 3 ≤ k → m < 1024 → threshold_Uses.l0 k (m : Int) ns (ns.length : Int) (s : Int) th ns inn = some ((useL inn (useN (ns.drop s) m) : Nat) : Int) := by
      intro r
      induction r with
      | zero =>
        intro s m k h1 hk hm
        obtain ⟨k, rfl⟩ : ∃ q, k = q + 1 := ⟨k - 1, by omega⟩
        rw [threshold_Uses.l0, if_neg (by omega), List.drop_of_length_le (by omega), useN]
        exact key inn.length 0 m k (by omega) (by rw [List.drop_zero]; omega) hm
      | succ r ihr =>
        intro s m k h1 hk hm
        obtain ⟨k, rfl⟩ : ∃ q, k = q + 1 := ⟨k - 1, by omega⟩
        have hs : s < ns.length := by omega
        rw [threshold_Uses.l0, if_pos (by omega), if_pos (by omega), if_pos (by omega), rd_at ns s hs, node_eq]
        simp only [Option.bind_some]
        rw [nx s (by omega), List.drop_eq_getElem_cons hs, useN]
        by_cases hq : 0 ≤ ns[s] ∧ ns[s] < 10
        · rw [if_pos (decide_eq_true hq), if_pos hq, if_pos hq.1]
          obtain ⟨i, hi⟩ := Int.eq_ofNat_of_zero_le hq.1
          have h10 : i < 10 := by omega
          rw [hi, shl_eq i h10, or_eq m _ hm (pow_lt i h10), Int.toNat_natCast]
          exact ihr (s + 1) _ k (by omega) (by omega) (Nat.or_lt_two_pow (n := 10) hm (pow_lt i h10))
        · rw [if_neg (by rw [decide_eq_true_eq]; exact hq), if_neg hq]
          exact ihr (s + 1) m k (by omega) (by omega) hm
    obtain ⟨k, rfl⟩ : ∃ q, k = q + 1 := ⟨k - 1, by omega⟩
    show threshold_Uses.f (k + 1) th ns inn = _
    rw [threshold_Uses.f, useT]
    exact nodes ns.length 0 0 k (by omega) (by omega) (by omega)

theorem usesref_eq (N : Nat) : ∀ (t : S27) (k : Nat), fuT t ≤ N → fuT t ≤ 1000000 → fuT t ≤ k → trustquorumref02_Uses.f k t.f0 t.f1 t.f2 = some ((useT t : Nat) : Int) := by
  induction N with
  | zero => intro t k h; rw [fuT_eq] at h; omega
  | succ N ih =>
    intro t k h hb hk
    obtain ⟨th, ns, inn⟩ := t
    rw [fuT] at h hb hk
    have hl := fuL_len inn
    have key : ∀ (r s m : Nat) (k : Nat), s + r = inn.length → fuL (inn.drop s) + 2 ≤ k → m < 1024 → trustquorumref02_Uses.l1 k (m : Int) inn (inn.length : Int) (s : Int) = some ((useL (inn.drop s) m : Nat) : Int) := by
      intro r
      induction r with
      | zero =>
        intro s m k h1 hk hm
        obtain ⟨k, rfl⟩ : ∃ q, k = q + 1 := ⟨k - 1, by omega⟩
        rw [trustquorumref02_Uses.l1, if_neg (by omega), List.drop_of_length_le (by omega), useL]
      | succ r ihr =>
        intro s m k h1 hk hm
        obtain ⟨k, rfl⟩ : ∃ q, k = q + 1 := ⟨k - 1, by omega⟩
        have hs : s < inn.length := by omega
        have hd := fuL_drop inn s hs
        have hle := fuL_le inn s
        rw [trustquorumref02_Uses.l1, if_pos (by omega), if_pos (by omega), if_pos (by omega), rdS_at inn s hs, ih inn[s] k (by omega) (by omega) (by omega)]
        simp only [Option.bind_some]
        rw [nx s (by omega), List.drop_eq_getElem_cons hs, useL, or_eq m _ hm (useT_lt _)]
        exact ihr (s + 1) _ k (by omega) (by omega) (Nat.or_lt_two_pow (n := 10) hm (useT_lt _))
    have nodes : ∀ (r s m : Nat) (k : Nat), s + r = ns.length → r + fuL inn + 3 ≤ k → m < 1024 → trustquorumref02_Uses.l0 k (m : Int) ns (ns.length : Int) (s : Int) th ns inn = some ((useL inn (useN (ns.drop s) m) : Nat) : Int) := by
      intro r
      induction r with
      | zero =>
        intro s m k h1 hk hm
        obtain ⟨k, rfl⟩ : ∃ q, k = q + 1 := ⟨k - 1, by omega⟩
        rw [trustquorumref02_Uses.l0, if_neg (by omega), List.drop_of_length_le (by omega), useN]
        exact key inn.length 0 m k (by omega) (by rw [List.drop_zero]; omega) hm
      | succ r ihr =>
        intro s m k h1 hk hm
        obtain ⟨k, rfl⟩ : ∃ q, k = q + 1 := ⟨k - 1, by omega⟩
        have hs : s < ns.length := by omega
        rw [trustquorumref02_Uses.l0, if_pos (by omega), if_pos (by omega), if_pos (by omega), rd_at ns s hs, nx s (by omega), List.drop_eq_getElem_cons hs, useN]
        by_cases h0 : ns[s] ≥ 0
        · rw [if_pos h0]
          by_cases h9 : ns[s] < 10
          · rw [if_pos h9, if_pos h0, if_pos ⟨h0, h9⟩]
            obtain ⟨i, hi⟩ := Int.eq_ofNat_of_zero_le h0
            have h10 : i < 10 := by omega
            rw [hi, shl_eq i h10, or_eq m _ hm (pow_lt i h10), Int.toNat_natCast]
            exact ihr (s + 1) _ k (by omega) (by omega) (Nat.or_lt_two_pow (n := 10) hm (pow_lt i h10))
          · rw [if_neg h9, if_neg (show ¬ (0 ≤ ns[s] ∧ ns[s] < 10) by omega)]
            exact ihr (s + 1) m k (by omega) (by omega) hm
        · rw [if_neg h0, if_neg (show ¬ (0 ≤ ns[s] ∧ ns[s] < 10) by omega)]
          exact ihr (s + 1) m k (by omega) (by omega) hm
    obtain ⟨k, rfl⟩ : ∃ q, k = q + 1 := ⟨k - 1, by omega⟩
    show trustquorumref02_Uses.f (k + 1) th ns inn = _
    rw [trustquorumref02_Uses.f, useT]
    exact nodes ns.length 0 0 k (by omega) (by omega) (by omega)

theorem refints_eq (l : List Int) (hl : l.length ≤ 1000000) (r : Nat) : ∀ (s k : Nat), s + r = l.length → r + 1 ≤ k → trustquorumref01_Same.l0 k l l (l.length : Int) (s : Int) = some true := by
  induction r with
  | zero =>
    intro s k h1 hk
    obtain ⟨k, rfl⟩ : ∃ m, k = m + 1 := ⟨k - 1, by omega⟩
    rw [trustquorumref01_Same.l0, if_neg (by omega)]
  | succ r ih =>
    intro s k h1 hk
    obtain ⟨k, rfl⟩ : ∃ m, k = m + 1 := ⟨k - 1, by omega⟩
    rw [trustquorumref01_Same.l0, if_pos (by omega), if_pos (by omega), if_pos (by omega), if_pos (by omega), if_pos rfl, nx s (by omega)]
    exact ih (s + 1) k (by omega) (by omega)
theorem refsame_refl (N : Nat) : ∀ (t : S27) (k : Nat), fuT t ≤ N → fuT t ≤ 1000000 → fuT t ≤ k → trustquorumref02_Same.f k t.f0 t.f1 t.f2 t.f0 t.f1 t.f2 = some true := by
  induction N with
  | zero => intro t k h; rw [fuT_eq] at h; omega
  | succ N ih =>
    intro t k h hb hk
    obtain ⟨th, ns, inn⟩ := t
    rw [fuT] at h hb hk
    have hl := fuL_len inn
    have key : ∀ (r s : Nat) (k : Nat), s + r = inn.length → fuL (inn.drop s) + 2 ≤ k → trustquorumref02_Same.l0 k (inn.length : Int) (s : Int) th ns inn th ns inn = some true := by
      intro r
      induction r with
      | zero =>
        intro s k h1 hk
        obtain ⟨k, rfl⟩ : ∃ m, k = m + 1 := ⟨k - 1, by omega⟩
        rw [trustquorumref02_Same.l0, if_neg (by omega)]
      | succ r ihr =>
        intro s k h1 hk
        obtain ⟨k, rfl⟩ : ∃ m, k = m + 1 := ⟨k - 1, by omega⟩
        have hs : s < inn.length := by omega
        have hd := fuL_drop inn s hs
        have hle := fuL_le inn s
        rw [trustquorumref02_Same.l0, if_pos (by omega), if_pos (by omega), if_pos (by omega), if_pos (by omega), rdS_at inn s hs, ih inn[s] k (by omega) (by omega) (by omega)]
        simp only [Option.bind_some, if_true]
        rw [nx s (by omega)]
        exact ihr (s + 1) k (by omega) (by omega)
    obtain ⟨k, rfl⟩ : ∃ m, k = m + 2 := ⟨k - 2, by omega⟩
    show trustquorumref02_Same.f ((k + 1) + 1) th ns inn th ns inn = _
    rw [trustquorumref02_Same.f, if_pos rfl]
    unfold trustquorumref01_Same.f
    rw [if_pos rfl, show (0 : Int) = ((0 : Nat) : Int) from rfl, refints_eq ns (by omega) ns.length 0 (k + 1) (by omega) (by omega)]
    simp only [Option.bind_some, if_true]
    rw [bne_self_eq_false, trustquorumref02_Same.j0, if_neg (by decide)]
    exact key inn.length 0 k (by omega) (by rw [List.drop_zero]; omega)

theorem sat_same (t : S27) (a : Int) {k : Nat} (hb : fuT t ≤ 1000000) (hk : fuT t + 1 ≤ k) : ∃ b, threshold_Satisfied.f k t.f0 t.f1 t.f2 a = some b ∧ trustquorumref02_Satisfied.f k t.f0 t.f1 t.f2 a = some b := by
  by_cases h : 0 ≤ a ∧ a < 1024
  · obtain ⟨m, rfl⟩ := Int.eq_ofNat_of_zero_le h.1
    exact ⟨_, satisfied_eq t m (by omega) hb (by omega), rsatisfied_eq t m (by omega) hb (by omega)⟩
  · obtain ⟨k, rfl⟩ : ∃ q, k = q + 1 := ⟨k - 1, by omega⟩
    refine ⟨false, ?_, ?_⟩
    · rw [threshold_Satisfied.f, nsValid_eq, decide_eq_false h]; rfl
    · rw [trustquorumref02_Satisfied.f, rvalid_eq, decide_eq_false h]; rfl
theorem blk_same (t : S27) (a : Int) {k : Nat} (hb : fuT t ≤ 1000000) (hk : fuT t + 1 ≤ k) : ∃ b, threshold_Blocked.f k t.f0 t.f1 t.f2 a = some b ∧ trustquorumref02_Blocked.f k t.f0 t.f1 t.f2 a = some b := by
  by_cases h : 0 ≤ a ∧ a < 1024
  · obtain ⟨m, rfl⟩ := Int.eq_ofNat_of_zero_le h.1
    exact ⟨_, blocked_eq t m (by omega) hb (by omega), rblocked_eq t m (by omega) hb (by omega)⟩
  · refine ⟨false, ?_, ?_⟩
    · unfold threshold_Blocked.f; rw [nsValid_eq, decide_eq_false h]; rfl
    · unfold trustquorumref02_Blocked.f; rw [rvalid_eq, decide_eq_false h]; rfl
theorem ints_loop (a b : List Int) (hl : a.length = b.length) (hb : a.length ≤ 1000000) (r : Nat) : ∀ (s k k' : Nat), s + r = a.length → r + 1 ≤ k → r + 1 ≤ k' → ∃ c, slices_Equal_int_int.l0 k a b (a.length : Int) (s : Int) = some c ∧ trustquorumref01_Same.l0 k' a b (a.length : Int) (s : Int) = some c := by
  induction r with
  | zero =>
    intro s k k' h1 hk hk'
    obtain ⟨k, rfl⟩ : ∃ q, k = q + 1 := ⟨k - 1, by omega⟩
    obtain ⟨k', rfl⟩ : ∃ q, k' = q + 1 := ⟨k' - 1, by omega⟩
    exact ⟨true, by rw [slices_Equal_int_int.l0, if_neg (by omega)], by rw [trustquorumref01_Same.l0, if_neg (by omega)]⟩
  | succ r ih =>
    intro s k k' h1 hk hk'
    obtain ⟨k, rfl⟩ : ∃ q, k = q + 1 := ⟨k - 1, by omega⟩
    obtain ⟨k', rfl⟩ : ∃ q, k' = q + 1 := ⟨k' - 1, by omega⟩
    obtain ⟨c, e1, e2⟩ := ih (s + 1) k k' (by omega) (by omega) (by omega)
    by_cases he : rd a (s : Int) = rd b (s : Int)
    · exact ⟨c, by rw [slices_Equal_int_int.l0, if_pos (by omega), if_pos (by omega), if_pos (by omega), if_pos (by omega), if_pos he, nx s (by omega)]; exact e1, by rw [trustquorumref01_Same.l0, if_pos (by omega), if_pos (by omega), if_pos (by omega), if_pos (by omega), if_pos he, nx s (by omega)]; exact e2⟩
    · exact ⟨false, by rw [slices_Equal_int_int.l0, if_pos (by omega), if_pos (by omega), if_pos (by omega), if_pos (by omega), if_neg he], by rw [trustquorumref01_Same.l0, if_pos (by omega), if_pos (by omega), if_pos (by omega), if_pos (by omega), if_neg he]⟩
theorem ints_same (a b : List Int) (hb : a.length ≤ 1000000) {k k' : Nat} (hk : a.length + 1 ≤ k) (hk' : a.length + 1 ≤ k') : ∃ c, slices_Equal_int_int.f k a b = some c ∧ trustquorumref01_Same.f k' a b = some c := by
  unfold slices_Equal_int_int.f trustquorumref01_Same.f
  by_cases h : (a.length : Int) = (b.length : Int)
  · obtain ⟨c, e1, e2⟩ := ints_loop a b (by omega) hb a.length 0 k k' (by omega) (by omega) (by omega)
    exact ⟨c, by rw [if_pos h]; exact e1, by rw [if_pos h]; exact e2⟩
  · exact ⟨false, by rw [if_neg h], by rw [if_neg h]⟩
theorem same_same (N : Nat) : ∀ (t u : S27) (k k' : Nat), fuT t ≤ N → fuT t ≤ 1000000 → fuT t ≤ k → fuT t ≤ k' → ∃ c, threshold_Same.f k t.f0 t.f1 t.f2 u.f0 u.f1 u.f2 = some c ∧ trustquorumref02_Same.f k' t.f0 t.f1 t.f2 u.f0 u.f1 u.f2 = some c := by
  induction N with
  | zero => intro t u k k' h; rw [fuT_eq] at h; omega
  | succ N ih =>
    intro t u k k' h hb hk hk'
    obtain ⟨th, ns, inn⟩ := t
    obtain ⟨th2, ns2, inn2⟩ := u
    rw [fuT] at h hb hk hk'
    have hl := fuL_len inn
    have key : inn.length = inn2.length → ∀ (r s k k' : Nat), s + r = inn.length → fuL (inn.drop s) + 2 ≤ k → fuL (inn.drop s) + 2 ≤ k' → ∃ c, api_Trust__on_21.l0 k inn2 inn (inn.length : Int) (s : Int) = some c ∧ trustquorumref02_Same.l0 k' (inn.length : Int) (s : Int) th ns inn th2 ns2 inn2 = some c := by
      intro hlen r
      induction r with
      | zero =>
        intro s k k' h1 hk hk'
        obtain ⟨k, rfl⟩ : ∃ m, k = m + 1 := ⟨k - 1, by omega⟩
        obtain ⟨k', rfl⟩ : ∃ m, k' = m + 1 := ⟨k' - 1, by omega⟩
        exact ⟨true, by rw [api_Trust__on_21.l0, if_neg (by omega)], by rw [trustquorumref02_Same.l0, if_neg (by omega)]⟩
      | succ r ihr =>
        intro s k k' h1 hk hk'
        obtain ⟨k, rfl⟩ : ∃ m, k = m + 1 := ⟨k - 1, by omega⟩
        obtain ⟨k', rfl⟩ : ∃ m, k' = m + 1 := ⟨k' - 1, by omega⟩
        have hs : s < inn.length := by omega
        have hd := fuL_drop inn s hs
        have hle := fuL_le inn s
        obtain ⟨c, e1, e2⟩ := ihr (s + 1) k k' (by omega) (by omega) (by omega)
        obtain ⟨x, f1, g2⟩ := ih inn[s] (inn2[s]'(by omega)) k k' (by omega) (by omega) (by omega) (by omega)
        cases x
        · exact ⟨false, by rw [api_Trust__on_21.l0, if_pos (by omega), if_pos (by omega), if_pos (by omega), if_pos (by omega), rdS_at inn s hs, rdS_at inn2 s (by omega), f1]; rfl, by rw [trustquorumref02_Same.l0, if_pos (by omega), if_pos (by omega), if_pos (by omega), if_pos (by omega), rdS_at inn s hs, rdS_at inn2 s (by omega), g2]; rfl⟩
        · exact ⟨c, by rw [api_Trust__on_21.l0, if_pos (by omega), if_pos (by omega), if_pos (by omega), if_pos (by omega), rdS_at inn s hs, rdS_at inn2 s (by omega), f1]; simp only [Option.bind_some, if_true]; rw [nx s (by omega)]; exact e1, by rw [trustquorumref02_Same.l0, if_pos (by omega), if_pos (by omega), if_pos (by omega), if_pos (by omega), rdS_at inn s hs, rdS_at inn2 s (by omega), g2]; simp only [Option.bind_some, if_true]; rw [nx s (by omega)]; exact e2⟩
    obtain ⟨k, rfl⟩ : ∃ m, k = m + 1 := ⟨k - 1, by omega⟩
    obtain ⟨k', rfl⟩ : ∃ m, k' = m + 2 := ⟨k' - 2, by omega⟩
    obtain ⟨c, e1, e2⟩ := ints_same ns ns2 (by omega) (k := k) (k' := k' + 1) (by omega) (by omega)
    show ∃ c, threshold_Same.f (k + 1) th ns inn th2 ns2 inn2 = some c ∧ trustquorumref02_Same.f ((k' + 1) + 1) th ns inn th2 ns2 inn2 = some c
    rw [threshold_Same.f, trustquorumref02_Same.f]
    by_cases ht : th = th2
    · rw [if_pos ht, if_pos ht, e1, e2]
      simp only [Option.bind_some]
      cases c
      · exact ⟨false, rfl, by rw [if_neg (by decide), trustquorumref02_Same.j0, if_pos rfl]⟩
      · rw [if_pos rfl, if_pos rfl]
        by_cases hn : (inn.length : Int) = (inn2.length : Int)
        · obtain ⟨c, e3, e4⟩ := key (by omega) inn.length 0 k k' (by omega) (by rw [List.drop_zero]; omega) (by rw [List.drop_zero]; omega)
          refine ⟨c, ?_, ?_⟩
          · rw [if_pos hn, show (0 : Int) = ((0 : Nat) : Int) from rfl, e3]; rfl
          · rw [show ((inn.length : Int) != (inn2.length : Int)) = false from bne_eq_false_iff_eq.2 hn, trustquorumref02_Same.j0, if_neg (by decide)]; exact e4
        · refine ⟨false, ?_, ?_⟩
          · rw [if_neg hn]; rfl
          · rw [show ((inn.length : Int) != (inn2.length : Int)) = true from bne_iff_ne.2 hn, trustquorumref02_Same.j0, if_pos rfl]
    · rw [if_neg ht, if_neg ht, trustquorumref02_Same.j0, if_pos rfl]
      exact ⟨false, rfl, rfl⟩
mutual
def dwT : S27 → S27
  | ⟨th, ns, inn⟩ => ⟨wrap64 (wrap64 (wrap64 ((ns.length : Int) + (inn.length : Int)) + 1) - th), ns, dwL inn⟩
def dwL : List S27 → List S27
  | [] => []
  | t :: l => dwT t :: dwL l
end
theorem dual_eta (t : S27) : (⟨t.f0, t.f1, t.f2⟩ : S27) = t := by cases t; rfl
mutual
theorem dw_fu : ∀ t : S27, fuT (dwT t) = fuT t
  | ⟨th, ns, inn⟩ => by rw [dwT, fuT, fuT, dw_fuL inn]
theorem dw_fuL : ∀ l : List S27, fuL (dwL l) = fuL l
  | [] => rfl
  | t :: l => by rw [dwL, fuL, fuL, dw_fu t, dw_fuL l]
end
theorem clone_eq (l : List Int) (h : l.length ≤ 1000000) : slices_Clone_int_int.f l = some l := by
  unfold slices_Clone_int_int.f
  simp only [Option.bind_some, List.length_nil, List.nil_append]
  rw [if_pos (by omega)]
theorem dwT_eq (N : Nat) : ∀ (t : S27) (k : Nat), fuT t ≤ N → fuT t ≤ 1000000 → fuT t ≤ k → threshold_Dual.f k t.f0 t.f1 t.f2 = some ((dwT t).f0, (dwT t).f1, (dwT t).f2) := by
  induction N with
  | zero => intro t k h; rw [fuT_eq] at h; omega
  | succ N ih =>
    intro t k h hb hk
    obtain ⟨th, ns, inn⟩ := t
    rw [fuT] at h hb hk
    have hl := fuL_len inn
    have key : ∀ (r s : Nat) (d : Int) (acc : List S27) (k : Nat), s + r = inn.length → fuL (inn.drop s) + 2 ≤ k → acc.length ≤ s → threshold_Dual.l0 k inn (inn.length : Int) (s : Int) d ns acc = some (d, ns, acc ++ dwL (inn.drop s)) := by
      intro r
      induction r with
      | zero =>
        intro s d acc k h1 hk _
        obtain ⟨k, rfl⟩ : ∃ q, k = q + 1 := ⟨k - 1, by omega⟩
        rw [threshold_Dual.l0, if_neg (by omega), List.drop_of_length_le (by omega), dwL, List.append_nil]
      | succ r ihr =>
        intro s d acc k h1 hk ha
        obtain ⟨k, rfl⟩ : ∃ q, k = q + 1 := ⟨k - 1, by omega⟩
        have hs : s < inn.length := by omega
        have hd := fuL_drop inn s hs
        have hle := fuL_le inn s
        rw [threshold_Dual.l0, if_pos (by omega), if_pos (by omega), if_pos (by omega), rdS_at inn s hs, ih inn[s] k (by omega) (by omega) (by omega)]
        simp only [Option.bind_some]
        rw [if_pos (by omega), nx s (by omega), ihr (s + 1) d _ k (by omega) (by omega) (by rw [List.length_append]; simp only [List.length_cons, List.length_nil]; omega), List.drop_eq_getElem_cons hs, dwL, List.append_assoc, dual_eta, List.singleton_append]
    obtain ⟨k, rfl⟩ : ∃ q, k = q + 1 := ⟨k - 1, by omega⟩
    show threshold_Dual.f (k + 1) th ns inn = _
    rw [threshold_Dual.f, clone_eq ns (by omega), dwT]
    simp only [Option.bind_some]
    have := key inn.length 0 (wrap64 (wrap64 (wrap64 ((ns.length : Int) + (inn.length : Int)) + 1) - th)) [] k (by omega) (by rw [List.drop_zero]; omega) (by simp)
    rw [List.drop_zero, List.nil_append] at this
    exact this
theorem rdwT_eq (N : Nat) : ∀ (t : S27) (k : Nat), fuT t ≤ N → fuT t ≤ 1000000 → fuT t ≤ k → trustquorumref02_Dual.f k t.f0 t.f1 t.f2 = some ((dwT t).f0, (dwT t).f1, (dwT t).f2) := by
  induction N with
  | zero => intro t k h; rw [fuT_eq] at h; omega
  | succ N ih =>
    intro t k h hb hk
    obtain ⟨th, ns, inn⟩ := t
    rw [fuT] at h hb hk
    have hl := fuL_len inn
    have key : ∀ (r s : Nat) (d : Int) (acc : List S27) (k : Nat), s + r = inn.length → fuL (inn.drop s) + 2 ≤ k → acc.length ≤ s → trustquorumref02_Dual.l0 k inn (inn.length : Int) (s : Int) d ns acc = some (d, ns, acc ++ dwL (inn.drop s)) := by
      intro r
      induction r with
      | zero =>
        intro s d acc k h1 hk _
        obtain ⟨k, rfl⟩ : ∃ q, k = q + 1 := ⟨k - 1, by omega⟩
        rw [trustquorumref02_Dual.l0, if_neg (by omega), List.drop_of_length_le (by omega), dwL, List.append_nil]
      | succ r ihr =>
        intro s d acc k h1 hk ha
        obtain ⟨k, rfl⟩ : ∃ q, k = q + 1 := ⟨k - 1, by omega⟩
        have hs : s < inn.length := by omega
        have hd := fuL_drop inn s hs
        have hle := fuL_le inn s
        rw [trustquorumref02_Dual.l0, if_pos (by omega), if_pos (by omega), if_pos (by omega), rdS_at inn s hs, ih inn[s] k (by omega) (by omega) (by omega)]
        simp only [Option.bind_some]
        rw [if_pos (by omega), nx s (by omega), ihr (s + 1) d _ k (by omega) (by omega) (by rw [List.length_append]; simp only [List.length_cons, List.length_nil]; omega), List.drop_eq_getElem_cons hs, dwL, List.append_assoc, dual_eta, List.singleton_append]
    obtain ⟨k, rfl⟩ : ∃ q, k = q + 1 := ⟨k - 1, by omega⟩
    show trustquorumref02_Dual.f (k + 1) th ns inn = _
    rw [trustquorumref02_Dual.f, dwT]
    simp only [Option.bind_some, List.length_nil, List.nil_append]
    rw [if_pos (by omega)]
    have := key inn.length 0 (wrap64 (wrap64 (wrap64 ((ns.length : Int) + (inn.length : Int)) + 1) - th)) [] k (by omega) (by rw [List.drop_zero]; omega) (by simp)
    rw [List.drop_zero, List.nil_append] at this
    exact this

theorem fuL_append : ∀ a b : List S27, fuL (a ++ b) = fuL a + fuL b
  | [], b => by rw [List.nil_append, fuL, Nat.zero_add]
  | t :: a, b => by rw [List.cons_append, fuL, fuL, fuL_append a b]; omega
theorem fuL_set : ∀ (l : List S27) (i : Nat) (x : S27) (h : i < l.length), fuL (l.set i x) + fuT (l[i]'h) = fuL l + fuT x
  | t :: l, 0, x, _ => by rw [List.set_cons_zero, fuL, fuL, List.getElem_cons_zero]; omega
  | t :: l, i + 1, x, h => by
    have := fuL_set l i x (by rw [List.length_cons] at h; omega)
    rw [List.set_cons_succ, fuL, fuL, List.getElem_cons_succ]; omega
theorem pickA {L : List Int} {p : Int} (h : St L p) (l : List Int) (h1 : 1 ≤ l.length) (h2 : l.length ≤ 100) : ∃ c p', trustquorummake_Tape_Pick.f L p l = some (c, p') ∧ c ∈ l ∧ St L p' := by
  obtain ⟨r, p', hr, r0, r1, hs⟩ := N_eq (n := (l.length : Int)) h (by omega) (by omega)
  obtain ⟨r, rfl⟩ := Int.eq_ofNat_of_zero_le r0
  unfold trustquorummake_Tape_Pick.f
  rw [hr]
  simp only [Option.bind_some]
  rw [if_pos r0, if_pos r1, rd_at l r (by omega)]
  exact ⟨_, _, rfl, List.getElem_mem (by omega), hs⟩
theorem wrap_loop {L : List Int} (r : Nat) : ∀ (th : Int) (ns : List Int) (inn : List S27) (p : Int) (k : Nat), r ≤ 1000 → r + 1 ≤ k → ∃ th' ns' inn', trustquorummake_BentTrust.l0 k (r : Int) L p th ns inn = some (th', ns', inn', p) ∧ fuT ⟨th', ns', inn'⟩ ≤ fuT ⟨th, ns, inn⟩ + 13 * r := by
  induction r with
  | zero =>
    intro th ns inn p k _ hk
    obtain ⟨k, rfl⟩ : ∃ m, k = m + 1 := ⟨k - 1, by omega⟩
    rw [trustquorummake_BentTrust.l0, if_neg (by omega)]
    exact ⟨_, _, _, rfl, by omega⟩
  | succ r ih =>
    intro th ns inn p k hr hk
    obtain ⟨k, rfl⟩ : ∃ m, k = m + 1 := ⟨k - 1, by omega⟩
    obtain ⟨a, b, c, e, hf⟩ := ih 1 [] [⟨th, ns, inn⟩] p k (by omega) (by omega)
    rw [trustquorummake_BentTrust.l0, if_pos (by omega), w64 (x := ((r + 1 : Nat) : Int) - 1) (by omega) (by omega), show ((r + 1 : Nat) : Int) - 1 = (r : Int) by omega, e]
    refine ⟨_, _, _, rfl, Nat.le_trans hf ?_⟩
    rw [fuT_eq ⟨1, [], [⟨th, ns, inn⟩]⟩]
    simp only [List.length_nil]
    rw [fuL, fuL]; omega
theorem pad_loop {L : List Int} (th : Int) (ns : List Int) (inn : List S27) (hi : inn.length ≤ 1000000) (r : Nat) : ∀ (acc : List S27) (p : Int) (k : Nat), acc.length + r ≤ 1000 → r + 1 ≤ k → ∃ inn', trustquorummake_BentTrust.l1 k acc (r : Int) L p th ns inn = some (th, ns, inn', p) ∧ fuL inn' ≤ fuL acc + fuL inn + 16 * r := by
  induction r with
  | zero =>
    intro acc p k hr hk
    obtain ⟨k, rfl⟩ : ∃ m, k = m + 1 := ⟨k - 1, by omega⟩
    rw [trustquorummake_BentTrust.l1, if_neg (by omega), if_pos (by omega)]
    exact ⟨_, rfl, by rw [fuL_append]; omega⟩
  | succ r ih =>
    intro acc p k hr hk
    obtain ⟨k, rfl⟩ : ∃ m, k = m + 1 := ⟨k - 1, by omega⟩
    obtain ⟨c, e, hf⟩ := ih (acc ++ [(⟨1, [Int.tmod ((r + 1 : Nat) : Int) 10], []⟩ : S27)]) p k (by rw [List.length_append]; simp only [List.length_cons, List.length_nil]; omega) (by omega)
    rw [trustquorummake_BentTrust.l1, if_pos (by omega), if_pos (by omega), w64 (x := ((r + 1 : Nat) : Int) - 1) (by omega) (by omega), show ((r + 1 : Nat) : Int) - 1 = (r : Int) by omega, e]
    refine ⟨_, rfl, Nat.le_trans hf ?_⟩
    rw [fuL_append, fuL, fuL, fuT_eq]
    simp only [List.length_cons, List.length_nil]
    rw [fuL]; omega
theorem bent_flat {L : List Int} (th : Int) (ns : List Int) (inn : List S27) (hb : fuT ⟨th, ns, inn⟩ ≤ 20000) {p : Int} (hs : St L p) {k : Nat} (hk : 150 ≤ k) : ∃ th' ns' inn' p', trustquorummake_BentTrust.j0 (k + 1) false L p th ns inn = some (th', ns', inn', p') ∧ fuT ⟨th', ns', inn'⟩ ≤ fuT ⟨th, ns, inn⟩ + 1700 ∧ St L p' := by
  have e0 := fuT_eq (⟨th, ns, inn⟩ : S27)
  simp only at e0
  have hl := fuL_len inn
  obtain ⟨r, p1, h1, r0, r1, s1⟩ := N_eq (n := 6) hs (by omega) (by omega)
  rw [trustquorummake_BentTrust.j0, if_neg (by decide), h1]
  simp only [Option.bind_some, List.length_nil, List.nil_append]
  by_cases c0 : r = 0
  · obtain ⟨c, p2, h2, _, s2⟩ := pickA s1 [0, (-1), wrap64 ((ns.length : Int) + (inn.length : Int)), wrap64 ((wrap64 ((ns.length : Int) + (inn.length : Int))) + 1)] (by simp) (by simp)
    rw [if_pos c0, h2]
    exact ⟨_, _, _, _, rfl, by rw [fuT, fuT]; omega, s2⟩
  rw [if_neg c0]
  by_cases c1 : r = 1
  · obtain ⟨c, p2, h2, _, s2⟩ := pickA s1 [(-1), 0, 9, 10] (by simp) (by simp)
    rw [if_pos c1, if_pos (by omega), h2]
    simp only [Option.bind_some]
    rw [if_pos (by omega)]
    exact ⟨_, _, _, _, rfl, by rw [fuT, fuT, List.length_append]; simp only [List.length_cons, List.length_nil]; omega, s2⟩
  rw [if_neg c1]
  by_cases c2 : r = 2
  · rw [if_pos c2]
    exact ⟨_, _, _, _, rfl, by rw [fuT, fuT]; simp only [List.length_nil]; omega, s1⟩
  rw [if_neg c2]
  by_cases c3 : r = 3
  · rw [if_pos c3, if_pos (by omega), if_pos (by omega)]
    exact ⟨_, _, _, _, rfl, by rw [fuT, fuT, fuL_append, fuL, fuL, fuT_eq]; simp only [List.length_nil]; rw [fuL]; omega, s1⟩
  rw [if_neg c3]
  by_cases c4 : r = 4
  · obtain ⟨i, p2, h2, i0, i1, s2⟩ := Range_eq (a := 1) (b := 4) s1 (by omega) (by omega) (by omega)
    obtain ⟨i, rfl⟩ := Int.eq_ofNat_of_zero_le (show 0 ≤ i by omega)
    obtain ⟨a, b, c, e, hf⟩ := wrap_loop (L := L) i th ns inn p2 k (by omega) (by omega)
    rw [if_pos c4, h2]
    simp only [Option.bind_some]
    exact ⟨a, b, c, p2, e, by omega, s2⟩
  · obtain ⟨c, p2, h2, hc, s2⟩ := pickA s1 [20, 60, 101] (by simp) (by simp)
    have hc2 : 0 ≤ c ∧ c ≤ 101 := by simp only [List.mem_cons, List.not_mem_nil, or_false] at hc; omega
    obtain ⟨i, rfl⟩ := Int.eq_ofNat_of_zero_le hc2.1
    obtain ⟨d, e, hf⟩ := pad_loop (L := L) th ns inn (by omega) i [] p2 k (by simp; omega) (by omega)
    rw [if_neg c4, h2]
    simp only [Option.bind_some]
    refine ⟨th, ns, d, p2, e, ?_, s2⟩
    rw [fuL] at hf
    rw [fuT, fuT]; omega
theorem bent_eq {L : List Int} (N : Nat) : ∀ (t : S27) (p : Int) (k : Nat), fuT t ≤ N → fuT t ≤ 20000 → St L p → fuT t + 200 ≤ k → ∃ th ns inn p', trustquorummake_BentTrust.f k L p t.f0 t.f1 t.f2 = some (th, ns, inn, p') ∧ fuT ⟨th, ns, inn⟩ ≤ fuT t + 1700 ∧ St L p' := by
  induction N with
  | zero => intro t p k h; rw [fuT_eq] at h; omega
  | succ N ih =>
    intro t p k h hb hs hk
    obtain ⟨th, ns, inn⟩ := t
    obtain ⟨k, rfl⟩ : ∃ m, k = m + 2 := ⟨k - 2, by omega⟩
    have e0 := fuT_eq (⟨th, ns, inn⟩ : S27)
    simp only at e0
    have hl := fuL_len inn
    show ∃ th' ns' inn' p', trustquorummake_BentTrust.f ((k + 1) + 1) L p th ns inn = some (th', ns', inn', p') ∧ _
    rw [trustquorummake_BentTrust.f]
    by_cases c0 : (inn.length : Int) > 0
    · obtain ⟨r, p1, h1, r0, r1, s1⟩ := N_eq (n := 2) hs (by omega) (by omega)
      rw [if_pos c0, h1]
      simp only [Option.bind_some]
      cases hq : (r == 1)
      · exact bent_flat th ns inn hb s1 (by omega)
      · obtain ⟨i, p2, h2, i0, i1, s2⟩ := N_eq (n := (inn.length : Int)) s1 (by omega) (by omega)
        obtain ⟨i, rfl⟩ := Int.eq_ofNat_of_zero_le i0
        have hi : i < inn.length := by omega
        have hd := fuL_drop inn i hi
        have hle := fuL_le inn i
        obtain ⟨a, b, c, p3, e, hf, s3⟩ := ih inn[i] p2 k (by omega) (by omega) s2 (by omega)
        have hset := fuL_set inn i ⟨a, b, c⟩ hi
        rw [trustquorummake_BentTrust.j0, if_pos rfl]
        simp only [Option.bind_some, List.length_nil, List.nil_append]
        rw [if_pos (by omega), h2]
        simp only [Option.bind_some]
        rw [if_pos i0, if_pos i1, rdS_at inn i hi, e]
        simp only [Option.bind_some]
        refine ⟨_, _, _, _, rfl, ?_, s3⟩
        rw [fuT, fuT, Int.toNat_natCast]; omega
    · rw [if_neg c0]
      exact bent_flat th ns inn hb hs (by omega)
mutual
def enT : S27 → Nat
  | ⟨_, ns, inn⟩ => 1 + ns.length + enL inn
def enL : List S27 → Nat
  | [] => 0
  | t :: l => enT t + enL l
end
mutual
theorem en_fu : ∀ t : S27, fuT t + 3 ≤ 13 * enT t
  | ⟨th, ns, inn⟩ => by have := en_fuL inn; rw [fuT, enT]; omega
theorem en_fuL : ∀ l : List S27, fuL l ≤ 13 * enL l
  | [] => by rw [fuL]; omega
  | t :: l => by have := en_fu t; have := en_fuL l; rw [fuL, enL]; omega
end
theorem g27_mk {th : Int} {ns : List Int} {inn : List S27} (h : g27 ⟨th, ns, inn⟩) : ns.length * 8 ≤ 140737488351232 ∧ inn.length * 56 ≤ 140737488351232 ∧ ∀ y ∈ inn, g27 y := by
  obtain ⟨m, h⟩ := h
  cases m with
  | zero => exact absurd h (by simp [g27n])
  | succ m =>
    obtain ⟨_, ⟨h1, _⟩, h2, h3⟩ := h
    exact ⟨h1, h2, fun y hy => ⟨m, h3 y hy⟩⟩
theorem entries_eq (D : Nat) :
    (∀ (t : S27) (n : Int) (k : Nat), g27 t → 0 ≤ n → n ≤ 400 → 401 - n ≤ D → 2 * (401 - n) + 4 ≤ k → ∃ n', trustquorummake_entries.f k t.f0 t.f1 t.f2 n = some n' ∧ n + 1 ≤ n' ∧ (n' ≤ 400 → n' = n + enT t)) ∧
    (∀ (th : Int) (ns : List Int) (inn : List S27) (s : Nat) (n : Int) (k : Nat), (∀ y ∈ inn, g27 y) → inn.length * 56 ≤ 140737488351232 → s ≤ inn.length → 0 ≤ n → 401 - n ≤ D → 2 * (401 - n) + 5 ≤ k → 1 ≤ k → ∃ n', trustquorummake_entries.l0 k n (s : Int) th ns inn = some n' ∧ n ≤ n' ∧ (n' ≤ 400 → n' = n + enL (inn.drop s))) := by
  have stop : ∀ (th : Int) (ns : List Int) (inn : List S27) (s : Nat) (n : Int) (k : Nat), 1 ≤ k → 400 < n → ∃ n', trustquorummake_entries.l0 k n (s : Int) th ns inn = some n' ∧ n ≤ n' ∧ (n' ≤ 400 → n' = n + enL (inn.drop s)) := by
    intro th ns inn s n k hk hn
    obtain ⟨k, rfl⟩ : ∃ m, k = m + 1 := ⟨k - 1, by omega⟩
    rw [trustquorummake_entries.l0]
    refine ⟨n, ?_, by omega, fun h => by omega⟩
    by_cases h : (s : Int) < (inn.length : Int)
    · rw [if_pos h, if_neg (by omega)]
    · rw [if_neg h]
  induction D with
  | zero =>
    refine ⟨fun t n k _ _ h1 h2 _ => by omega, fun th ns inn s n k _ _ _ h0 h1 hk hk1 => stop th ns inn s n k hk1 (by omega)⟩
  | succ D ih =>
    obtain ⟨_, ihl⟩ := ih
    have hf : ∀ (t : S27) (n : Int) (k : Nat), g27 t → 0 ≤ n → n ≤ 400 → 401 - n ≤ ((D + 1 : Nat) : Int) → 2 * (401 - n) + 4 ≤ k → ∃ n', trustquorummake_entries.f k t.f0 t.f1 t.f2 n = some n' ∧ n + 1 ≤ n' ∧ (n' ≤ 400 → n' = n + enT t) := by
      intro t n k hg h0 h1 h2 hk
      obtain ⟨th, ns, inn⟩ := t
      obtain ⟨g1, g2, g3⟩ := g27_mk hg
      obtain ⟨k, rfl⟩ : ∃ m, k = m + 1 := ⟨k - 1, by omega⟩
      have e : wrap64 (n + wrap64 (1 + (ns.length : Int))) = n + 1 + (ns.length : Int) := by rw [w64 (x := 1 + (ns.length : Int)) (by omega) (by omega), w64 (by omega) (by omega)]; omega
      show ∃ n', trustquorummake_entries.f (k + 1) th ns inn n = some n' ∧ _
      rw [trustquorummake_entries.f, e]
      by_cases hn : n + 1 + (ns.length : Int) ≤ 400
      · obtain ⟨n', e1, e2, e3⟩ := ihl th ns inn 0 (n + 1 + (ns.length : Int)) k g3 g2 (by omega) (by omega) (by omega) (by omega) (by omega)
        refine ⟨n', e1, by omega, fun h => ?_⟩
        have := e3 h
        rw [List.drop_zero] at this
        rw [enT]; omega
      · obtain ⟨n', e1, e2, e3⟩ := stop th ns inn 0 (n + 1 + (ns.length : Int)) k (by omega) (by omega)
        exact ⟨n', e1, by omega, fun h => by omega⟩
    refine ⟨hf, ?_⟩
    intro th ns inn s n k hg hb hs h0 h1 hk hk1
    by_cases hn : n ≤ 400
    · obtain ⟨k, rfl⟩ : ∃ m, k = m + 1 := ⟨k - 1, by omega⟩
      rw [trustquorummake_entries.l0]
      by_cases h : (s : Int) < (inn.length : Int)
      · have hs2 : s < inn.length := by omega
        obtain ⟨n1, a1, a2, a3⟩ := hf inn[s] n k (hg _ (List.getElem_mem hs2)) h0 hn h1 (by omega)
        rw [if_pos h, if_pos hn, if_pos (by omega), rdS_at inn s hs2, a1]
        simp only [Option.bind_some]
        rw [w64 (x := (s : Int) + 1) (by omega) (by omega), show (s : Int) + 1 = ((s + 1 : Nat) : Int) by omega]
        have he : enL (inn.drop s) = enT inn[s] + enL (inn.drop (s + 1)) := by rw [List.drop_eq_getElem_cons hs2, enL]
        by_cases hn1 : n1 ≤ 400
        · obtain ⟨n', e1, e2, e3⟩ := ihl th ns inn (s + 1) n1 k hg hb (by omega) (by omega) (by omega) (by omega) (by omega)
          exact ⟨n', e1, by omega, fun h => by have := e3 h; have := a3 hn1; omega⟩
        · obtain ⟨n', e1, e2, e3⟩ := stop th ns inn (s + 1) n1 k (by omega) (by omega)
          exact ⟨n', e1, by omega, fun h => by omega⟩
      · rw [if_neg h]
        exact ⟨n, rfl, by omega, fun _ => by rw [List.drop_of_length_le (by omega), enL]; omega⟩
    · exact stop th ns inn s n k hk1 (by omega)
theorem small_eq (t : S27) (hg : g27 t) {k : Nat} (hk : 1000 ≤ k) : ∃ b, trustquorummake_SmallTrust.f k t.f0 t.f1 t.f2 = some b ∧ (b = true → fuT t ≤ 5200) := by
  obtain ⟨n, e, _, h⟩ := (entries_eq 401).1 t 0 k hg (by omega) (by omega) (by omega) (by omega)
  refine ⟨decide (n ≤ 400), by unfold trustquorummake_SmallTrust.f; rw [e]; rfl, fun hb => ?_⟩
  have hb := of_decide_eq_true hb
  have := h hb
  have := en_fu t
  omega
section
variable {L : List Int} (sx : Int) (y : List S27) (hy : y.length = 5) (hf : ∀ t ∈ y, fuT t ≤ 10000) (a b x : S27)
theorem ans_l2 {K : Nat} (hK : 20000 ≤ K) (ms : List Int) (hm : ms.length = 8) (z : S27) (hz : fuT z ≤ 10000) (i : Nat) (hi : i < 5) (H : ∀ (p : Int) (k : Nat), St L p → K ≤ k → trustquorumlaw02_ThresholdAnswers.l0 k sx y 5 ((i + 1 : Nat) : Int) a.f0 a.f1 a.f2 b.f0 b.f1 b.f2 L p x.f0 x.f1 x.f2 = some true) (r : Nat) : ∀ (s k : Nat) (p : Int), s + r = 8 → St L p → K + r + 1 ≤ k →
    trustquorumlaw02_ThresholdAnswers.l2 k sx y 5 (i : Int) ms 8 (s : Int) a.f0 a.f1 a.f2 b.f0 b.f1 b.f2 L p x.f0 x.f1 x.f2 z.f0 z.f1 z.f2 = some true := by
  induction r with
  | zero =>
    intro s k p h1 hs hk
    obtain ⟨k, rfl⟩ : ∃ m, k = m + 1 := ⟨k - 1, by omega⟩
    rw [trustquorumlaw02_ThresholdAnswers.l2, if_neg (by omega), nx i (by omega)]
    exact H p k hs (by omega)
  | succ r ih =>
    intro s k p h1 hs hk
    obtain ⟨k, rfl⟩ : ∃ m, k = m + 1 := ⟨k - 1, by omega⟩
    obtain ⟨u, e1, e2⟩ := sat_same z (rd ms (s : Int)) (k := k) (by omega) (by omega)
    obtain ⟨v, e3, e4⟩ := blk_same z (rd ms (s : Int)) (k := k) (by omega) (by omega)
    rw [trustquorumlaw02_ThresholdAnswers.l2, if_pos (by omega), if_pos (by omega), if_pos (by omega), e1, e2, e3, e4]
    simp only [Option.bind_some]
    rw [bne_self_eq_false, bne_self_eq_false, if_neg (by decide), if_neg (by decide), nx s (by omega)]
    exact ih (s + 1) k p (by omega) hs (by omega)
theorem ans_l1 {K : Nat} (hK : 20000 ≤ K) (ws : List S27) (hw : ws.length = 3) (z : S27) (hz : fuT z ≤ 10000) (i : Nat) (hi : i < 5) (H : ∀ (p : Int) (k : Nat), St L p → K ≤ k → trustquorumlaw02_ThresholdAnswers.l0 k sx y 5 ((i + 1 : Nat) : Int) a.f0 a.f1 a.f2 b.f0 b.f1 b.f2 L p x.f0 x.f1 x.f2 = some true) (r : Nat) : ∀ (s k : Nat) (p : Int), s + r = 3 → St L p → K + r + 20 ≤ k →
    trustquorumlaw02_ThresholdAnswers.l1 k sx y 5 (i : Int) ws 3 (s : Int) a.f0 a.f1 a.f2 b.f0 b.f1 b.f2 L p x.f0 x.f1 x.f2 z.f0 z.f1 z.f2 = some true := by
  induction r with
  | zero =>
    intro s k p h1 hs hk
    obtain ⟨k, rfl⟩ : ∃ m, k = m + 1 := ⟨k - 1, by omega⟩
    obtain ⟨o1, p1, h2, _, _, s1⟩ := N_eq (n := 1024) hs (by omega) (by omega)
    obtain ⟨o2, p2, h3, _, _, s2⟩ := N_eq (n := 1024) s1 (by omega) (by omega)
    obtain ⟨o3, p3, h4, _, _, s3⟩ := N_eq (n := 1024) s2 (by omega) (by omega)
    rw [trustquorumlaw02_ThresholdAnswers.l1, if_neg (by omega), h2]
    simp only [Option.bind_some]
    rw [h3]
    simp only [Option.bind_some]
    rw [h4]
    simp only [Option.bind_some]
    exact ans_l2 sx y a b x hK [sx, (-1), 1024, 0, 1023, o1, o2, o3] rfl z hz i hi H 8 0 k p3 rfl s3 (by omega)
  | succ r ih =>
    intro s k p h1 hs hk
    obtain ⟨k, rfl⟩ : ∃ m, k = m + 1 := ⟨k - 1, by omega⟩
    obtain ⟨u, e1, e2⟩ := same_same _ z (rd_T27 ws (s : Int)) k k (Nat.le_refl _) (by omega) (by omega) (by omega)
    rw [trustquorumlaw02_ThresholdAnswers.l1, if_pos (by omega), if_pos (by omega), if_pos (by omega), e1, e2]
    simp only [Option.bind_some]
    rw [bne_self_eq_false, if_neg (by decide), nx s (by omega)]
    exact ih (s + 1) k p (by omega) hs (by omega)
include hf hy in
theorem ans_l0 (r : Nat) : ∀ (i k : Nat) (p : Int), i + r = 5 → St L p → 20000 + 100 * r ≤ k →
    trustquorumlaw02_ThresholdAnswers.l0 k sx y 5 (i : Int) a.f0 a.f1 a.f2 b.f0 b.f1 b.f2 L p x.f0 x.f1 x.f2 = some true := by
  induction r with
  | zero =>
    intro i k p h1 hs hk
    obtain ⟨k, rfl⟩ : ∃ m, k = m + 1 := ⟨k - 1, by omega⟩
    rw [trustquorumlaw02_ThresholdAnswers.l0, if_neg (by omega), awake_eq (by omega)]
    rfl
  | succ r ih =>
    intro i k p h1 hs hk
    obtain ⟨k, rfl⟩ : ∃ m, k = m + 2 := ⟨k - 2, by omega⟩
    have hi : i < y.length := by omega
    have hz := hf _ (List.getElem_mem hi)
    have hd := dw_fu y[i]
    have H := fun (p : Int) (k : Nat) (hs : St L p) (hk : 20000 + 100 * r ≤ k) => ih (i + 1) k p (by omega) hs hk
    show trustquorumlaw02_ThresholdAnswers.l0 ((k + 1) + 1) _ _ _ _ _ _ _ _ _ _ _ _ _ _ _ = _
    rw [trustquorumlaw02_ThresholdAnswers.l0, if_pos (by omega), if_pos (by omega), if_pos (by omega), rdS_at y i hi]
    rw [valid_eq y[i] (k := k + 1) (by omega) (by omega), refValid_eq y[i] (k := k + 1) (by omega) (by omega)]
    simp only [Option.bind_some, if_true]
    rw [threshold_Size_eq _ y[i] (k + 1) (Nat.le_refl _) (by omega) (by omega), trustquorumref02_Size_eq _ y[i] (k + 1) (Nat.le_refl _) (by omega) (by omega)]
    simp only [Option.bind_some, if_true]
    rw [threshold_Depth_eq _ y[i] (k + 1) (Nat.le_refl _) (by omega) (by omega), trustquorumref02_Depth_eq _ y[i] (k + 1) (Nat.le_refl _) (by omega) (by omega)]
    simp only [Option.bind_some, if_true]
    rw [uses_eq _ y[i] (k + 1) (Nat.le_refl _) (by omega) (by omega), usesref_eq _ y[i] (k + 1) (Nat.le_refl _) (by omega) (by omega)]
    simp only [Option.bind_some, if_true]
    rw [dwT_eq _ y[i] (k + 1) (Nat.le_refl _) (by omega) (by omega), rdwT_eq _ y[i] (k + 1) (Nat.le_refl _) (by omega) (by omega)]
    simp only [Option.bind_some]
    rw [refsame_refl _ (dwT y[i]) (k + 1) (Nat.le_refl _) (by omega) (by omega)]
    simp only [Option.bind_some, Bool.not_true]
    rw [trustquorumlaw02_ThresholdAnswers.j2, if_neg (by decide)]
    simp only [Option.bind_some]
    simp only [dual_eta]
    exact ans_l1 sx y a b x (K := 20000 + 100 * r) (by omega) [x, a, b] rfl y[i] hz i (by omega) H 3 0 k p rfl hs (by omega)
end
theorem ThresholdAnswers : trustquorumlaw02_ThresholdAnswers.Pure := by
  intro l0 a0 a1 a2 b0 b1 b2 sx _ _ _ hga hgb _
  obtain ⟨L, hL, s0⟩ := New_eq l0
  obtain ⟨K, hK⟩ : ∃ K : Nat, 40000 ≤ K := ⟨40000, Nat.le_refl _⟩
  obtain ⟨ba, ea, fa⟩ := small_eq ⟨a0, a1, a2⟩ hga (k := K + 1) (by omega)
  obtain ⟨bb, eb, fb⟩ := small_eq ⟨b0, b1, b2⟩ hgb (k := K + 1) (by omega)
  have hj1 : trustquorumlaw02_ThresholdAnswers.j0 (K + 1) l0 sx true a0 a1 a2 b0 b1 b2 = some true := by
    rw [trustquorumlaw02_ThresholdAnswers.j0, if_pos rfl, awake_eq (by omega)]; rfl
  refine ⟨K + 1, ?_⟩
  unfold trustquorumlaw02_ThresholdAnswers.f
  rw [ea]
  simp only [Option.bind_some]
  cases ba
  · rw [if_neg (by decide)]; exact hj1
  rw [if_pos rfl, eb]
  simp only [Option.bind_some]
  cases bb
  · exact hj1
  have ha := fa rfl
  have hb := fb rfl
  obtain ⟨n, p1, h1, n0, n1, s1⟩ := Range_eq (a := 1) (b := 10) s0 (by omega) (by omega) (by omega)
  obtain ⟨th, ns, inn, p2, h2, hx, _, _, _, s2⟩ := Trust_eq (n := n) s1 (by omega) (by omega) 3 (by omega) (k := K) (by omega)
  obtain ⟨yh, yn, yi, p3, h3, hy, s3⟩ := bent_eq _ (⟨th, ns, inn⟩ : S27) p2 K (Nat.le_refl _) (by omega) s2 (by omega)
  obtain ⟨zh, zn, zi, p4, h4, hz, s4⟩ := bent_eq _ (⟨yh, yn, yi⟩ : S27) p3 K (Nat.le_refl _) (by omega) s3 (by omega)
  rw [Bool.not_true, trustquorumlaw02_ThresholdAnswers.j0, if_neg (by decide), hL]
  simp only [Option.bind_some]
  rw [h1]
  simp only [Option.bind_some]
  rw [show (3 : Int) = ((3 : Nat) : Int) from rfl, h2]
  simp only [Option.bind_some]
  rw [h3]
  simp only [Option.bind_some]
  rw [h4]
  simp only [Option.bind_some]
  exact ans_l0 (L := L) sx [⟨th, ns, inn⟩, ⟨yh, yn, yi⟩, ⟨zh, zn, zi⟩, ⟨a0, a1, a2⟩, ⟨b0, b1, b2⟩] rfl (fun t ht => by
    simp only [List.mem_cons, List.not_mem_nil, or_false] at ht
    rcases ht with rfl | rfl | rfl | rfl | rfl <;> omega) ⟨a0, a1, a2⟩ ⟨b0, b1, b2⟩ ⟨th, ns, inn⟩ 5 0 K p4 rfl s4 (by omega)

end Go.Proofs.Yteljoemeogeidaa.Pure
