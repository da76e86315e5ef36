/- For every list of numbers, a drawn trust and the same with its entries in another order have the same size, depth and nodes, are satisfied and blocked by the same sets, and the other is valid: the statement over numbers and lists that the row asks. No condition. -/
import Derived.Test.YteljoemeogeidaaQThresholdOrderx11
import Derived.OpenShut
set_option linter.unusedSimpArgs false
set_option linter.unusedVariables false
namespace Go.Proofs.Yteljoemeogeidaa.Pure
open Go.RowKit Go.Proofs.Yteljoemeogeidaa.QThresholdOrder Go.Proofs.YteljoemeogeidaaW.PrintWords Go.Proofs.YteljoemeogeidaaW.PrintLast Go.Proofs.YteljoemeogeidaaW.PrintMore

-- numbers, bits of sets, and the source of numbers
theorem w64 {x : Int} (h : -9223372036854775808 ≤ x) (h' : x ≤ 9223372036854775807) : wrap64 x = x := by unfold wrap64; omega
structure St (L : List Int) (p : Int) : Prop where
  len : L.length ≤ 400
  lo : 0 ≤ p
  hi : p ≤ 400
theorem New_eq (l : List Int) : ∃ L, trustquorummake_New.f l = some (L, 0) ∧ St L 0 := by
  unfold trustquorummake_New.f
  have h0 : 0 ≤ mn (l.length : Int) 400 := by unfold mn; split <;> omega
  have h1 : mn (l.length : Int) 400 ≤ l.length := by unfold mn; split <;> omega
  have h2 : mn (l.length : Int) 400 ≤ 400 := by unfold mn; split <;> omega
  rw [if_pos h0, if_pos h1]
  refine ⟨_, rfl, ⟨?_, by omega, by omega⟩⟩
  rw [List.length_take]; omega
theorem N_eq {L : List Int} {p n : Int} (h : St L p) (hn : 1 ≤ n) (hn2 : n ≤ 1000000) : ∃ r p', trustquorummake_Tape_N.f L p n = some (r, p') ∧ 0 ≤ r ∧ r < n ∧ St L p' := by
  unfold trustquorummake_Tape_N.f
  by_cases h1 : p ≥ (L.length : Int)
  · exact ⟨0, p, by rw [if_pos h1], by omega, by omega, h⟩
  · have hp : p < L.length := by omega
    have h3 := h.len
    have h4 := h.lo
    have e1 : wrap64 (p + 1) = p + 1 := w64 (by omega) (by omega)
    have b1 := Int.tmod_lt_of_pos (rd L p) (show 0 < n by omega)
    have b2 := Int.lt_tmod_of_pos (rd L p) (show 0 < n by omega)
    rw [if_neg h1, if_pos h.lo, if_pos hp, if_neg (by omega), e1]
    by_cases h5 : Int.tmod (rd L p) n < 0
    · rw [if_pos h5, w64 (by omega) (by omega)]
      exact ⟨_, _, rfl, by omega, by omega, ⟨h.len, by omega, by omega⟩⟩
    · rw [if_neg h5]
      exact ⟨_, _, rfl, by omega, by omega, ⟨h.len, by omega, by omega⟩⟩
theorem Range_eq {L : List Int} {p a b : Int} (h : St L p) (ha : -1000 ≤ a) (hab : a ≤ b) (hb : b ≤ 100000) : ∃ r p', trustquorummake_Tape_Range.f L p a b = some (r, p') ∧ a ≤ r ∧ r ≤ b ∧ St L p' := by
  have e1 : wrap64 (b - a) = b - a := w64 (by omega) (by omega)
  have e2 : wrap64 (b - a + 1) = b - a + 1 := w64 (by omega) (by omega)
  obtain ⟨r, p', hr, h0, h1, hs⟩ := N_eq (n := b - a + 1) h (by omega) (by omega)
  refine ⟨a + r, p', ?_, by omega, by omega, hs⟩
  unfold trustquorummake_Tape_Range.f
  rw [e1, e2, hr]
  simp only [Option.bind_some]
  rw [w64 (x := a + r) (by omega) (by omega)]
theorem rd_at (l : List Int) (s : Nat) (h : s < l.length) : rd l (s : Int) = l[s]'h := by unfold rd; simp [List.getD, h]
theorem rdS_at (l : List S27) (s : Nat) (h : s < l.length) : rd_T27 l (s : Int) = l[s]'h := by unfold rd_T27; simp [List.getD, h]
theorem nx (s : Nat) (h : s ≤ 10000000) : wrap64 ((s : Int) + 1) = ((s + 1 : Nat) : Int) := by rw [w64 (by omega) (by omega)]; omega
/-- is node k in the set m -/
def tb (m : Nat) (k : Int) : Bool := decide (0 ≤ k) && decide (k < 10) && m.testBit k.toNat
theorem shl_eq : ∀ i, i < 10 → shl .i64 1 ((i : Nat) : Int) = ((2 ^ i : Nat) : Int) := by decide +kernel
theorem wr10 (n : Int) (h0 : 0 ≤ n) (h1 : n < 2 ^ 10) : IntKind.i64.wrap n = n := by rw [IntKind.wrap_i64]; omega
theorem and_eq (a b : Nat) (ha : a < 1024) (hb : b < 1024) : Go.bits .and .i64 (a : Int) (b : Int) = ((a &&& b : Nat) : Int) := (bits_nat .i64 10 (by decide) wr10 a b ha hb).1
theorem or_eq (a b : Nat) (ha : a < 1024) (hb : b < 1024) : Go.bits .or .i64 (a : Int) (b : Int) = ((a ||| b : Nat) : Int) := (bits_nat .i64 10 (by decide) wr10 a b ha hb).2
theorem pow_lt (i : Nat) (h : i < 10) : 2 ^ i < 1024 := by
  have : 2 ^ i < 2 ^ 10 := Nat.pow_lt_pow_right (by decide) h
  omega
theorem shr_eq (m i : Nat) (hi : i < 10) : shr .i64 (m : Int) (i : Int) = ((m / 2 ^ i : Nat) : Int) := by
  unfold shr
  have e : min ((i : Int)).toNat IntKind.i64.bits = i := by
    have : IntKind.i64.bits = 64 := by decide
    rw [this]; omega
  rw [e]; simp
theorem has_ref (m : Nat) (hm : m < 1024) (k : Int) : trustquorumref01_Has.f (m : Int) k = some (tb m k) := by
  unfold trustquorumref01_Has.f trustquorumref01_Valid.f tb
  rw [if_pos (by omega), decide_eq_true (show (m : Int) ≤ 1023 by omega)]
  simp only [Option.bind_some, if_true]
  by_cases h0 : k ≥ 0
  · rw [if_pos h0]
    by_cases h1 : k < 10
    · obtain ⟨i, rfl⟩ := Int.eq_ofNat_of_zero_le h0
      have hd : m / 2 ^ i < 1024 := Nat.lt_of_le_of_lt (Nat.div_le_self _ _) hm
      have a1 := and_eq (m / 2 ^ i) 1 hd (by omega)
      rw [if_pos h1, if_pos h0, shr_eq m i (by omega)]
      rw [show ((1 : Nat) : Int) = 1 from rfl] at a1
      rw [a1, decide_eq_true (show 0 ≤ (i : Int) by omega), decide_eq_true h1, Int.toNat_natCast, Nat.and_one_is_mod, Nat.testBit_eq_decide_div_mod_eq]
      congr 1
      simp only [Bool.true_and]
      by_cases h : m / 2 ^ i % 2 = 1
      · rw [h]; rfl
      · rw [decide_eq_false h, beq_eq_false_iff_ne]; omega
    · rw [if_neg h1, decide_eq_false h1]; simp
  · rw [if_neg h0, decide_eq_false (show ¬ 0 ≤ k by omega)]; simp

theorem shl10 : shl .i64 1 10 = 1024 := by decide +kernel
theorem nsValid_eq (a : Int) : nodeset_Valid.f a = some (decide (0 ≤ a ∧ a < 1024)) := by
  unfold nodeset_Valid.f nodeset_below.f
  rw [shl10]
  by_cases h : a ≥ 0
  · rw [if_pos h, if_pos (by omega)]
    simp only [Option.bind_some]
    congr 1; rw [decide_eq_decide]; omega
  · rw [if_neg h]
    simp only [Option.bind_some]
    congr 1; rw [eq_comm, decide_eq_false_iff_not]; omega
theorem and_pow (m i : Nat) : (((m &&& 2 ^ i : Nat) : Int) != 0) = m.testBit i := by
  cases h : m.testBit i
  · have e : m &&& 2 ^ i = 0 := by
      apply Nat.eq_of_testBit_eq
      intro j
      rw [Nat.testBit_and, Nat.testBit_two_pow, Nat.zero_testBit]
      by_cases hj : i = j
      · subst hj; rw [h]; rfl
      · rw [decide_eq_false hj, Bool.and_false]
    rw [e]; rfl
  · rw [bne_iff_ne]
    intro e
    have e2 : m &&& 2 ^ i = 0 := by omega
    have h2 := congrArg (fun x : Nat => x.testBit i) e2
    simp only [Nat.testBit_and, Nat.testBit_two_pow, Nat.zero_testBit, h, decide_true, Bool.and_true] at h2
    cases h2
theorem has_eq (m : Nat) (hm : m < 1024) (k : Int) : nodeset_Has.f (m : Int) k = some (tb m k) := by
  unfold nodeset_Has.f tb
  rw [nsValid_eq, decide_eq_true (show 0 ≤ (m : Int) ∧ (m : Int) < 1024 by omega)]
  simp only [Option.bind_some, if_true]
  by_cases h0 : k ≥ 0
  · rw [if_pos h0]
    by_cases h1 : k < 10
    · obtain ⟨i, rfl⟩ := Int.eq_ofNat_of_zero_le h0
      rw [if_pos h1, if_pos h0, shl_eq i (by omega), and_eq m (2 ^ i) hm (pow_lt i (by omega)), decide_eq_true (show 0 ≤ (i : Int) by omega), decide_eq_true h1, Int.toNat_natCast, and_pow]
      rfl
    · rw [if_neg h1, decide_eq_false h1]; simp
  · rw [if_neg h0, decide_eq_false (show ¬ 0 ≤ k by omega)]; simp

-- trees of trusts: a bound on rounds, and what the functions say
mutual
def fuT : S27 → Nat
  | ⟨_, ns, inn⟩ => 10 + 3 * ns.length + fuL inn
def fuL : List S27 → Nat
  | [] => 0
  | t :: l => 3 + fuT t + fuL l
end
theorem fuT_eq (t : S27) : fuT t = 10 + 3 * t.f1.length + fuL t.f2 := by cases t; rw [fuT]
theorem fuL_drop (l : List S27) (s : Nat) (h : s < l.length) : fuL (l.drop s) = 3 + fuT (l[s]'h) + fuL (l.drop (s + 1)) := by rw [List.drop_eq_getElem_cons h, fuL]
theorem fuL_len : ∀ l : List S27, l.length ≤ fuL l
  | [] => Nat.le_refl _
  | t :: l => by have := fuL_len l; rw [fuL, List.length_cons]; omega
theorem fuL_le (l : List S27) (s : Nat) : fuL (l.drop s) ≤ fuL l := by
  induction l generalizing s with
  | nil => rw [List.drop_nil]; exact Nat.le_refl _
  | cons t l ih =>
    cases s with
    | zero => exact Nat.le_refl _
    | succ s => rw [List.drop_succ_cons, fuL]; have := ih s; omega
mutual
def depT : S27 → Int
  | ⟨_, _, inn⟩ => depL inn 0 + 1
def depL : List S27 → Int → Int
  | [], c => c
  | t :: l, c => depL l (mx c (depT t))
end
mutual
def sizT : S27 → Int
  | ⟨_, ns, inn⟩ => sizL inn ((ns.length : Int) + (inn.length : Int))
def sizL : List S27 → Int → Int
  | [], c => c
  | t :: l, c => sizL l (c + sizT t)
end
def ofR : List Int → Nat → Int × Int
  | [], m => ((m : Int), 0)
  | k :: l, m => if k < 0 ∨ 10 ≤ k then (0, 5) else if tb m k = true then (0, 6) else ofR l (m ||| 2 ^ k.toNat)
def outR (ns : List Int) : Bool := ns.any fun k => decide (k < 0 ∨ 10 ≤ k)
mutual
def chkT : S27 → Int
  | ⟨th, ns, inn⟩ => if th < 1 ∨ th > (ns.length : Int) + (inn.length : Int) then 4 else if outR ns = true then 5 else if (ofR ns 0).2 = 0 then chkL inn else (ofR ns 0).2
def chkL : List S27 → Int
  | [] => 0
  | t :: l => if chkT t = 0 then chkL l else chkT t
end
def valT (t : S27) : Int := if depT t > 4 then 3 else if sizT t > 200 then 3 else chkT t
theorem dep_bd (N : Nat) : ∀ t : S27, fuT t ≤ N → 0 ≤ depT t ∧ depT t ≤ fuT t := by
  induction N with
  | zero => intro t h; rw [fuT_eq] at h; omega
  | succ N ih =>
    intro t h
    have key : ∀ (l : List S27) (c : Int), fuL l ≤ N → 0 ≤ c → 0 ≤ depL l c ∧ depL l c ≤ c + fuL l := by
      intro l
      induction l with
      | nil => intro c _ hc; rw [depL, fuL]; omega
      | cons x l ihl =>
        intro c hf hc
        rw [fuL] at hf
        obtain ⟨a, b⟩ := ih x (by omega)
        have hm : 0 ≤ mx c (depT x) ∧ mx c (depT x) ≤ c + fuT x := by unfold mx; split <;> omega
        obtain ⟨a', b'⟩ := ihl (mx c (depT x)) (by omega) hm.1
        rw [depL, fuL]; omega
    obtain ⟨th, ns, inn⟩ := t
    rw [fuT] at h ⊢
    have := key inn 0 (by omega) (by omega)
    rw [depT]; omega
theorem siz_bd (N : Nat) : ∀ t : S27, fuT t ≤ N → 0 ≤ sizT t ∧ sizT t ≤ 2 * fuT t := by
  induction N with
  | zero => intro t h; rw [fuT_eq] at h; omega
  | succ N ih =>
    intro t h
    have key : ∀ (l : List S27) (c : Int), fuL l ≤ N → 0 ≤ c → 0 ≤ sizL l c ∧ sizL l c ≤ c + 2 * fuL l - l.length := by
      intro l
      induction l with
      | nil => intro c _ hc; rw [sizL, fuL]; simp only [List.length_nil]; omega
      | cons x l ihl =>
        intro c hf hc
        rw [fuL] at hf
        obtain ⟨a, b⟩ := ih x (by omega)
        obtain ⟨a', b'⟩ := ihl (c + sizT x) (by omega) (by omega)
        rw [sizL, fuL, List.length_cons]; omega
    obtain ⟨th, ns, inn⟩ := t
    rw [fuT] at h ⊢
    have := key inn (ns.length + inn.length) (by omega) (by omega)
    rw [sizT]; omega

theorem trustquorumref02_Size_eq (N : Nat) : ∀ (t : S27) (k : Nat), fuT t ≤ N → fuT t ≤ 1000000 → fuT t ≤ k → trustquorumref02_Size.f k t.f0 t.f1 t.f2 = some (sizT t) := by
  induction N with
  | zero => intro t k h; rw [fuT_eq] at h; omega
  | succ N ih =>
    intro t k h hb hk
    obtain ⟨th, ns, inn⟩ := t
    rw [fuT] at h hb hk
    have hl := fuL_len inn
    have key : ∀ (r s : Nat) (c : Int) (k : Nat), s + r = inn.length → fuL (inn.drop s) + 2 ≤ k → 0 ≤ c → c + 2 * fuL (inn.drop s) ≤ 10000000 → trustquorumref02_Size.l0 k c inn (inn.length : Int) (s : Int) = some (sizL (inn.drop s) c) := by
      intro r
      induction r with
      | zero =>
        intro s c k h1 hk _ _
        obtain ⟨k, rfl⟩ : ∃ m, k = m + 1 := ⟨k - 1, by omega⟩
        rw [trustquorumref02_Size.l0, if_neg (by omega), List.drop_of_length_le (by omega), sizL]
      | succ r ihr =>
        intro s c k h1 hk hc0 hc1
        obtain ⟨k, rfl⟩ : ∃ m, k = m + 1 := ⟨k - 1, by omega⟩
        have hs : s < inn.length := by omega
        have hd := fuL_drop inn s hs
        have hle := fuL_le inn s
        have hb2 := siz_bd _ inn[s] (Nat.le_refl _)
        rw [trustquorumref02_Size.l0, if_pos (by omega), if_pos (by omega), if_pos (by omega), rdS_at inn s hs, ih inn[s] k (by omega) (by omega) (by omega)]
        simp only [Option.bind_some]
        rw [w64 (x := c + sizT inn[s]) (by omega) (by omega), nx s (by omega), ihr (s + 1) (c + sizT inn[s]) k (by omega) (by omega) (by omega) (by omega), List.drop_eq_getElem_cons hs, sizL]
    obtain ⟨k, rfl⟩ : ∃ m, k = m + 1 := ⟨k - 1, by omega⟩
    show trustquorumref02_Size.f (k + 1) th ns inn = _
    rw [trustquorumref02_Size.f, w64 (by omega) (by omega), sizT]
    exact key inn.length 0 _ k (by omega) (by rw [List.drop_zero]; omega) (by omega) (by rw [List.drop_zero]; omega)

theorem trustquorumref02_Depth_eq (N : Nat) : ∀ (t : S27) (k : Nat), fuT t ≤ N → fuT t ≤ 1000000 → fuT t ≤ k → trustquorumref02_Depth.f k t.f0 t.f1 t.f2 = some (depT t) := by
  induction N with
  | zero => intro t k h; rw [fuT_eq] at h; omega
  | succ N ih =>
    intro t k h hb hk
    obtain ⟨th, ns, inn⟩ := t
    rw [fuT] at h hb hk
    have hl := fuL_len inn
    have key : ∀ (r s : Nat) (c : Int) (k : Nat), s + r = inn.length → fuL (inn.drop s) + 2 ≤ k → 0 ≤ c → c + fuL (inn.drop s) ≤ 10000000 → trustquorumref02_Depth.l0 k c inn (inn.length : Int) (s : Int) = some (depL (inn.drop s) c + 1) := by
      intro r
      induction r with
      | zero =>
        intro s c k h1 hk hc0 hc1
        obtain ⟨k, rfl⟩ : ∃ m, k = m + 1 := ⟨k - 1, by omega⟩
        rw [trustquorumref02_Depth.l0, if_neg (by omega), List.drop_of_length_le (by omega), depL, w64 (by omega) (by omega)]
      | succ r ihr =>
        intro s c k h1 hk hc0 hc1
        obtain ⟨k, rfl⟩ : ∃ m, k = m + 1 := ⟨k - 1, by omega⟩
        have hs : s < inn.length := by omega
        have hd := fuL_drop inn s hs
        have hle := fuL_le inn s
        have hb2 := dep_bd _ inn[s] (Nat.le_refl _)
        have hm : 0 ≤ mx c (depT inn[s]) ∧ mx c (depT inn[s]) ≤ c + fuT inn[s] := by unfold mx; split <;> omega
        rw [trustquorumref02_Depth.l0, if_pos (by omega), if_pos (by omega), if_pos (by omega), rdS_at inn s hs, ih inn[s] k (by omega) (by omega) (by omega)]
        simp only [Option.bind_some]
        rw [nx s (by omega), ihr (s + 1) (mx c (depT inn[s])) k (by omega) (by omega) (by omega) (by omega), List.drop_eq_getElem_cons hs, depL]
    obtain ⟨k, rfl⟩ : ∃ m, k = m + 1 := ⟨k - 1, by omega⟩
    show trustquorumref02_Depth.f (k + 1) th ns inn = _
    rw [trustquorumref02_Depth.f, depT]
    exact key inn.length 0 0 k (by omega) (by rw [List.drop_zero]; omega) (by omega) (by rw [List.drop_zero]; omega)

theorem trustquorumref01_Of_loop (l : List Int) (hl : l.length ≤ 1000000) (r : Nat) : ∀ (s m k : Nat), s + r = l.length → m < 1024 → 2 * r + 2 ≤ k → trustquorumref01_Of.l0 k (m : Int) l (l.length : Int) (s : Int) = some (ofR (l.drop s) m) := by
  induction r with
  | zero =>
    intro s m k h1 hm hk
    obtain ⟨k, rfl⟩ : ∃ q, k = q + 1 := ⟨k - 1, by omega⟩
    rw [trustquorumref01_Of.l0, if_neg (by omega), List.drop_of_length_le (by omega), ofR]
  | succ r ih =>
    intro s m k h1 hm hk
    obtain ⟨k, rfl⟩ : ∃ q, k = q + 2 := ⟨k - 2, by omega⟩
    have hs : s < l.length := by omega
    show trustquorumref01_Of.l0 ((k + 1) + 1) _ _ _ _ = _
    rw [trustquorumref01_Of.l0, if_pos (by omega), if_pos (by omega), if_pos (by omega), rd_at l s hs, List.drop_eq_getElem_cons hs, ofR]
    generalize l[s] = x
    by_cases h0 : x < 0
    · rw [if_pos h0, trustquorumref01_Of.j1, if_pos rfl, if_pos (.inl h0)]
    · rw [if_neg h0, trustquorumref01_Of.j1]
      by_cases h2 : x ≥ 10
      · rw [if_pos (decide_eq_true h2), if_pos (.inr h2)]
      · rw [if_neg (by rw [decide_eq_true_eq]; exact h2), if_neg (show ¬ (x < 0 ∨ 10 ≤ x) by omega), has_ref m hm x]
        simp only [Option.bind_some]
        cases ht : tb m x
        · simp only [Bool.false_eq_true, if_false]
          obtain ⟨i, rfl⟩ := Int.eq_ofNat_of_zero_le (show 0 ≤ x by omega)
          have hp := pow_lt i (by omega)
          rw [if_pos (show 0 ≤ (i : Int) by omega), shl_eq i (by omega), or_eq m (2 ^ i) hm hp, nx s (by omega), Int.toNat_natCast]
          exact ih (s + 1) (m ||| 2 ^ i) k (by omega) (Nat.or_lt_two_pow (n := 10) hm hp) (by omega)
        · simp only [if_true]
theorem trustquorumref01_Of_eq (l : List Int) (hl : l.length ≤ 1000000) {k : Nat} (hk : 2 * l.length + 2 ≤ k) : trustquorumref01_Of.f k l = some (ofR l 0) := by
  unfold trustquorumref01_Of.f
  exact trustquorumref01_Of_loop l hl l.length 0 0 k (by omega) (by omega) hk

theorem check_eq (N : Nat) : ∀ (t : S27) (k : Nat), fuT t ≤ N → fuT t ≤ 1000000 → fuT t ≤ k → trustquorumref02_check.f k t.f0 t.f1 t.f2 = some (chkT t) := by
  induction N with
  | zero => intro t k h; rw [fuT_eq] at h; omega
  | succ N ih =>
    intro t k h hb hk
    obtain ⟨th, ns, inn⟩ := t
    rw [fuT] at h hb hk
    have hl := fuL_len inn
    have key : ∀ (r s : Nat) (k : Nat), s + r = inn.length → fuL (inn.drop s) + 2 ≤ k → trustquorumref02_check.l1 k inn (inn.length : Int) (s : Int) = some (chkL (inn.drop s)) := by
      intro r
      induction r with
      | zero =>
        intro s k h1 hk
        obtain ⟨k, rfl⟩ : ∃ m, k = m + 1 := ⟨k - 1, by omega⟩
        rw [trustquorumref02_check.l1, if_neg (by omega), List.drop_of_length_le (by omega), chkL]
      | succ r ihr =>
        intro s k h1 hk
        obtain ⟨k, rfl⟩ : ∃ m, k = m + 1 := ⟨k - 1, by omega⟩
        have hs : s < inn.length := by omega
        have hd := fuL_drop inn s hs
        have hle := fuL_le inn s
        rw [trustquorumref02_check.l1, if_pos (by omega), if_pos (by omega), if_pos (by omega), rdS_at inn s hs, ih inn[s] k (by omega) (by omega) (by omega)]
        simp only [Option.bind_some]
        rw [nx s (by omega), List.drop_eq_getElem_cons hs, chkL]
        by_cases hc : chkT inn[s] = 0
        · rw [if_pos hc, if_pos hc]; exact ihr (s + 1) k (by omega) (by omega)
        · rw [if_neg hc, if_neg hc]
    have nodes : ∀ (r s : Nat) (k : Nat), s + r = ns.length → r + 2 * ns.length + fuL inn + 5 ≤ k → trustquorumref02_check.l0 k ns (ns.length : Int) (s : Int) th ns inn = some (if outR (ns.drop s) = true then 5 else if (ofR ns 0).2 = 0 then chkL inn else (ofR ns 0).2) := by
      intro r
      induction r with
      | zero =>
        intro s k h1 hk
        obtain ⟨k, rfl⟩ : ∃ m, k = m + 1 := ⟨k - 1, by omega⟩
        rw [trustquorumref02_check.l0, if_neg (by omega), List.drop_of_length_le (by omega), trustquorumref01_Of_eq ns (by omega) (by omega)]
        simp only [Option.bind_some]
        rw [if_neg (show ¬ (outR [] = true) by decide)]
        by_cases he : (ofR ns 0).2 = 0
        · rw [if_pos he, if_pos he]; exact key inn.length 0 k (by omega) (by rw [List.drop_zero]; omega)
        · rw [if_neg he, if_neg he]
      | succ r ihr =>
        intro s k h1 hk
        obtain ⟨k, rfl⟩ : ∃ m, k = m + 1 := ⟨k - 1, by omega⟩
        have hs : s < ns.length := by omega
        have ho : outR (ns.drop s) = (decide (ns[s] < 0 ∨ 10 ≤ ns[s]) || outR (ns.drop (s + 1))) := by rw [List.drop_eq_getElem_cons hs]; unfold outR; rw [List.any_cons]
        rw [trustquorumref02_check.l0, if_pos (by omega), if_pos (by omega), if_pos (by omega), rd_at ns s hs, nx s (by omega), ho]
        by_cases h0 : ns[s] < 0
        · rw [if_pos h0, decide_eq_true (.inl h0), Bool.true_or, if_pos rfl]
        · rw [if_neg h0]
          by_cases h2 : ns[s] ≥ 10
          · rw [if_pos h2, decide_eq_true (.inr h2), Bool.true_or, if_pos rfl]
          · rw [if_neg h2, decide_eq_false (by omega), Bool.false_or]
            exact ihr (s + 1) k (by omega) (by omega)
    obtain ⟨k, rfl⟩ : ∃ m, k = m + 2 := ⟨k - 2, by omega⟩
    show trustquorumref02_check.f ((k + 1) + 1) th ns inn = _
    rw [trustquorumref02_check.f, w64 (by omega) (by omega), chkT]
    by_cases h0 : th < 1
    · rw [if_pos h0, trustquorumref02_check.j0, if_pos rfl, if_pos (.inl h0)]
    · rw [if_neg h0, trustquorumref02_check.j0]
      by_cases h1 : th > (ns.length : Int) + (inn.length : Int)
      · rw [if_pos (decide_eq_true h1), if_pos (.inr h1)]
      · rw [if_neg (by rw [decide_eq_true_eq]; exact h1), if_neg (by omega)]
        exact nodes ns.length 0 k (by omega) (by omega)
theorem refValid_eq (t : S27) {k : Nat} (hb : fuT t ≤ 1000000) (hk : fuT t ≤ k) : trustquorumref02_Valid.f k t.f0 t.f1 t.f2 = some (valT t) := by
  unfold trustquorumref02_Valid.f valT
  rw [trustquorumref02_Depth_eq _ t k (Nat.le_refl _) hb hk, trustquorumref02_Size_eq _ t k (Nat.le_refl _) hb hk, check_eq _ t k (Nat.le_refl _) hb hk]
  simp only [Option.bind_some]
  split
  · rfl
  · split <;> rfl

-- what satisfies a trust
def cntN : List Int → Nat → Int
  | [], _ => 0
  | k :: l, m => (if tb m k = true then 1 else 0) + cntN l m
mutual
def satT : S27 → Nat → Bool
  | ⟨th, ns, inn⟩, m => decide (th ≤ cntN ns m + satL inn m)
def satL : List S27 → Nat → Int
  | [], _ => 0
  | t :: l, m => (if satT t m = true then 1 else 0) + satL l m
end
theorem cntN_bd (m : Nat) : ∀ l : List Int, 0 ≤ cntN l m ∧ cntN l m ≤ l.length
  | [] => by rw [cntN]; simp
  | k :: l => by have := cntN_bd m l; rw [cntN, List.length_cons]; split <;> omega
theorem satL_bd (m : Nat) : ∀ l : List S27, 0 ≤ satL l m ∧ satL l m ≤ l.length
  | [] => by rw [satL]; simp
  | k :: l => by have := satL_bd m l; rw [satL, List.length_cons]; split <;> omega
theorem sat_eq (m : Nat) (hm : m < 1024) (N : Nat) : ∀ (t : S27) (k : Nat), fuT t ≤ N → fuT t ≤ 1000000 → fuT t ≤ k → threshold_Satisfied.f k t.f0 t.f1 t.f2 (m : Int) = some (satT t m) := by
  induction N with
  | zero => intro t k h; rw [fuT_eq] at h; omega
  | succ N ih =>
    intro t k h hb hk
    obtain ⟨th, ns, inn⟩ := t
    rw [fuT] at h hb hk
    have hl := fuL_len inn
    have key : ∀ (r s : Nat) (c : Int) (k : Nat), s + r = inn.length → fuL (inn.drop s) + 2 ≤ k → 0 ≤ c → c + r ≤ 10000000 → threshold_Satisfied.l1 k (m : Int) c inn (inn.length : Int) (s : Int) th ns inn = some (decide (th ≤ c + satL (inn.drop s) m)) := by
      intro r
      induction r with
      | zero =>
        intro s c k h1 hk _ _
        obtain ⟨k, rfl⟩ : ∃ q, k = q + 1 := ⟨k - 1, by omega⟩
        rw [threshold_Satisfied.l1, if_neg (by omega), List.drop_of_length_le (by omega), satL, Int.add_zero]
      | succ r ihr =>
        intro s c k h1 hk hc0 hc1
        obtain ⟨k, rfl⟩ : ∃ q, k = q + 1 := ⟨k - 1, by omega⟩
        have hs : s < inn.length := by omega
        have hd := fuL_drop inn s hs
        have hle := fuL_le inn s
        rw [threshold_Satisfied.l1, if_pos (by omega), if_pos (by omega), if_pos (by omega), rdS_at inn s hs, ih inn[s] k (by omega) (by omega) (by omega)]
        simp only [Option.bind_some]
        rw [nx s (by omega), List.drop_eq_getElem_cons hs, satL]
        cases hq : satT inn[s] m
        · rw [if_neg (by decide), if_neg (by decide), ihr (s + 1) c k (by omega) (by omega) (by omega) (by omega), Int.zero_add]
        · rw [if_pos rfl, if_pos rfl, w64 (x := c + 1) (by omega) (by omega), ihr (s + 1) (c + 1) k (by omega) (by omega) (by omega) (by omega), Int.add_assoc]
    have nodes : ∀ (r s : Nat) (c : Int) (k : Nat), s + r = ns.length → r + fuL inn + 3 ≤ k → 0 ≤ c → c + r + inn.length ≤ 10000000 → threshold_Satisfied.l0 k (m : Int) c ns (ns.length : Int) (s : Int) th ns inn = some (decide (th ≤ c + cntN (ns.drop s) m + satL inn m)) := by
      intro r
      induction r with
      | zero =>
        intro s c k h1 hk hc0 hc1
        obtain ⟨k, rfl⟩ : ∃ q, k = q + 1 := ⟨k - 1, by omega⟩
        rw [threshold_Satisfied.l0, if_neg (by omega), List.drop_of_length_le (by omega), cntN, Int.add_zero]
        exact key inn.length 0 c k (by omega) (by rw [List.drop_zero]; omega) hc0 (by omega)
      | succ r ihr =>
        intro s c k h1 hk hc0 hc1
        obtain ⟨k, rfl⟩ : ∃ q, k = q + 1 := ⟨k - 1, by omega⟩
        have hs : s < ns.length := by omega
        rw [threshold_Satisfied.l0, if_pos (by omega), if_pos (by omega), if_pos (by omega), rd_at ns s hs, has_eq m hm]
        simp only [Option.bind_some]
        rw [nx s (by omega), List.drop_eq_getElem_cons hs, cntN]
        cases hq : tb m ns[s]
        · rw [if_neg (by decide), if_neg (by decide), ihr (s + 1) c k (by omega) (by omega) (by omega) (by omega), Int.zero_add]
        · rw [if_pos rfl, if_pos rfl, w64 (x := c + 1) (by omega) (by omega), ihr (s + 1) (c + 1) k (by omega) (by omega) (by omega) (by omega), Int.add_assoc c 1]
    obtain ⟨k, rfl⟩ : ∃ q, k = q + 1 := ⟨k - 1, by omega⟩
    show threshold_Satisfied.f (k + 1) th ns inn (m : Int) = _
    rw [threshold_Satisfied.f, nsValid_eq, decide_eq_true (show 0 ≤ (m : Int) ∧ (m : Int) < 1024 by omega)]
    simp only [Option.bind_some, if_true]
    have := nodes ns.length 0 0 k (by omega) (by omega) (by omega) (by omega)
    rw [List.drop_zero, Int.zero_add] at this
    rw [satT]
    exact this
theorem satisfied_eq (t : S27) (m : Nat) (hm : m < 1024) {k : Nat} (hb : fuT t ≤ 1000000) (hk : fuT t ≤ k) : threshold_Satisfied.f k t.f0 t.f1 t.f2 (m : Int) = some (satT t m) := sat_eq m hm _ t k (Nat.le_refl _) hb hk
theorem blocked_eq (t : S27) (m : Nat) (hm : m < 1024) {k : Nat} (hb : fuT t ≤ 1000000) (hk : fuT t ≤ k) : threshold_Blocked.f k t.f0 t.f1 t.f2 (m : Int) = some (!satT t (1023 - m)) := by
  unfold threshold_Blocked.f
  rw [nsValid_eq, decide_eq_true (show 0 ≤ (m : Int) ∧ (m : Int) < 1024 by omega), w64 (by omega) (by omega), show (1023 : Int) - (m : Int) = ((1023 - m : Nat) : Int) by omega]
  simp only [Option.bind_some, if_true]
  rw [satisfied_eq t (1023 - m) (by omega) hb hk]
  rfl
-- a greater set
theorem cntN_mono {a b : Nat} (h : ∀ k, tb a k = true → tb b k = true) : ∀ l : List Int, cntN l a ≤ cntN l b
  | [] => Int.le_refl _
  | k :: l => by
    have := cntN_mono h l
    rw [cntN, cntN]
    by_cases ha : tb a k = true
    · rw [if_pos ha, if_pos (h k ha)]; omega
    · rw [if_neg ha]; split <;> omega
mutual
theorem satT_mono {a b : Nat} (h : ∀ k, tb a k = true → tb b k = true) : ∀ t : S27, satT t a = true → satT t b = true
  | ⟨th, ns, inn⟩, hs => by
    rw [satT, decide_eq_true_eq] at hs ⊢
    have h1 := cntN_mono h ns
    have h2 := satL_mono h inn
    omega
theorem satL_mono {a b : Nat} (h : ∀ k, tb a k = true → tb b k = true) : ∀ l : List S27, satL l a ≤ satL l b
  | [] => Int.le_refl _
  | t :: l => by
    have h1 := satL_mono h l
    have h2 := satT_mono h t
    rw [satL, satL]
    by_cases ha : satT t a = true
    · rw [if_pos ha, if_pos (h2 ha)]; omega
    · rw [if_neg ha]; split <;> omega
end
theorem tb_compl (m : Nat) (hm : m < 1024) (k : Int) (h0 : 0 ≤ k) (h1 : k < 10) : tb (1023 - m) k = !tb m k := by
  obtain ⟨i, rfl⟩ := Int.eq_ofNat_of_zero_le h0
  unfold tb
  rw [decide_eq_true h0, decide_eq_true h1, Int.toNat_natCast]
  simp only [Bool.true_and]
  have := Nat.testBit_two_pow_sub_succ (x := m) (n := 10) hm i
  rw [show 2 ^ 10 - (m + 1) = 1023 - m by omega] at this
  rw [this, decide_eq_true (show i < 10 by omega), Bool.true_and]
theorem tb_range {m : Nat} {k : Int} (h : tb m k = true) : 0 ≤ k ∧ k < 10 := by
  unfold tb at h
  simp only [Bool.and_eq_true, decide_eq_true_eq] at h
  exact h.1
-- valid trusts
theorem outR_mem {ns : List Int} (h : outR ns = false) : ∀ k ∈ ns, 0 ≤ k ∧ k < 10 := by
  intro k hk
  unfold outR at h
  rw [List.any_eq_false] at h
  have := h k hk
  rw [decide_eq_true_eq] at this
  omega
theorem chkT_ok {th : Int} {ns : List Int} {inn : List S27} (h : chkT ⟨th, ns, inn⟩ = 0) : 1 ≤ th ∧ th ≤ (ns.length : Int) + (inn.length : Int) ∧ outR ns = false ∧ (ofR ns 0).2 = 0 ∧ chkL inn = 0 := by
  rw [chkT] at h
  by_cases h0 : th < 1 ∨ th > (ns.length : Int) + (inn.length : Int)
  · rw [if_pos h0] at h; cases h
  · rw [if_neg h0] at h
    cases h1 : outR ns
    · rw [if_neg (by rw [h1]; decide)] at h
      by_cases h2 : (ofR ns 0).2 = 0
      · rw [if_pos h2] at h; exact ⟨by omega, by omega, rfl, h2, h⟩
      · rw [if_neg h2] at h; exact absurd h h2
    · rw [if_pos h1] at h; cases h
theorem chkL_cons {t : S27} {l : List S27} (h : chkL (t :: l) = 0) : chkT t = 0 ∧ chkL l = 0 := by
  rw [chkL] at h
  by_cases h0 : chkT t = 0
  · rw [if_pos h0] at h; exact ⟨h0, h⟩
  · rw [if_neg h0] at h; exact absurd h h0
theorem cntN_full (m : Nat) (h : ∀ k, 0 ≤ k → k < 10 → tb m k = true) : ∀ l : List Int, (∀ k ∈ l, 0 ≤ k ∧ k < 10) → cntN l m = l.length
  | [], _ => rfl
  | k :: l, hl => by
    have h1 := cntN_full m h l (fun x hx => hl x (List.mem_cons_of_mem _ hx))
    have h2 := hl k (by simp)
    rw [cntN, if_pos (h k h2.1 h2.2), h1, List.length_cons]; omega
theorem cntN_none (m : Nat) (h : ∀ k, tb m k = false) : ∀ l : List Int, cntN l m = 0
  | [] => rfl
  | k :: l => by rw [cntN, if_neg (by rw [h k]; decide), cntN_none m h l]; rfl
mutual
theorem satT_full (m : Nat) (h : ∀ k, 0 ≤ k → k < 10 → tb m k = true) : ∀ t : S27, chkT t = 0 → satT t m = true
  | ⟨th, ns, inn⟩, hc => by
    obtain ⟨h1, h2, h3, h4, h5⟩ := chkT_ok hc
    have a := cntN_full m h ns (outR_mem h3)
    have b := satL_full m h inn h5
    rw [satT, decide_eq_true_eq]; omega
theorem satL_full (m : Nat) (h : ∀ k, 0 ≤ k → k < 10 → tb m k = true) : ∀ l : List S27, chkL l = 0 → satL l m = l.length
  | [], _ => rfl
  | t :: l, hc => by
    obtain ⟨h1, h2⟩ := chkL_cons hc
    have a := satT_full m h t h1
    have b := satL_full m h l h2
    rw [satL, if_pos a, b, List.length_cons]; omega
end
mutual
theorem satT_none (m : Nat) (h : ∀ k, tb m k = false) : ∀ t : S27, chkT t = 0 → satT t m = false
  | ⟨th, ns, inn⟩, hc => by
    obtain ⟨h1, h2, h3, h4, h5⟩ := chkT_ok hc
    have a := cntN_none m h ns
    have b := satL_none m h inn h5
    rw [satT, decide_eq_false_iff_not]; omega
theorem satL_none (m : Nat) (h : ∀ k, tb m k = false) : ∀ l : List S27, chkL l = 0 → satL l m = 0
  | [], _ => rfl
  | t :: l, hc => by
    obtain ⟨h1, h2⟩ := chkL_cons hc
    have a := satT_none m h t h1
    have b := satL_none m h l h2
    rw [satL, if_neg (by rw [a]; decide), b]; rfl
end
theorem tb_all (k : Int) (h0 : 0 ≤ k) (h1 : k < 10) : tb 1023 k = true := by
  obtain ⟨i, rfl⟩ := Int.eq_ofNat_of_zero_le h0
  have : ∀ i, i < 10 → tb 1023 ((i : Nat) : Int) = true := by decide +kernel
  exact this i (by omega)
theorem tb_zero (k : Int) : tb 0 k = false := by unfold tb; rw [Nat.zero_testBit, Bool.and_false]

-- the drawn trust
theorem order_swap {L : List Int} (r : Nat) : ∀ (l : List Int) (p : Int) (k : Nat), St L p → r < l.length → l.length ≤ 100 → r + 2 ≤ k → ∃ l' p', trustquorummake_Tape_Order.l1 k l (r : Int) L p = some (l', p') ∧ l'.length = l.length ∧ St L p' := by
  induction r with
  | zero =>
    intro l p k hs hr hl hk
    obtain ⟨k, rfl⟩ : ∃ m, k = m + 1 := ⟨k - 1, by omega⟩
    exact ⟨l, p, by rw [trustquorummake_Tape_Order.l1, if_neg (by omega)], rfl, hs⟩
  | succ r ih =>
    intro l p k hs hr hl hk
    obtain ⟨k, rfl⟩ : ∃ m, k = m + 1 := ⟨k - 1, by omega⟩
    obtain ⟨q, p', hq, q0, q1, hs'⟩ := N_eq (n := ((r + 1 : Nat) : Int) + 1) hs (by omega) (by omega)
    obtain ⟨l', p'', h1, h2, h3⟩ := ih ((l.set ((r + 1 : Nat) : Int).toNat (rd l q)).set q.toNat (rd l ((r + 1 : Nat) : Int))) p' k hs' (by simp; omega) (by simp; omega) (by omega)
    refine ⟨l', p'', ?_, by rw [h2]; simp, h3⟩
    rw [trustquorummake_Tape_Order.l1, if_pos (by omega), w64 (x := ((r + 1 : Nat) : Int) + 1) (by omega) (by omega), hq]
    simp only [Option.bind_some]
    rw [if_pos q0, if_pos (by omega), if_pos (by omega), if_pos (by omega), w64 (x := ((r + 1 : Nat) : Int) - 1) (by omega) (by omega), show ((r + 1 : Nat) : Int) - 1 = (r : Int) by omega]
    exact h1
theorem order_fill {L : List Int} {n : Nat} (hn : 1 ≤ n) (hn2 : n ≤ 100) (r : Nat) : ∀ (l : List Int) (p : Int) (k : Nat), St L p → l.length + r = n → r + n + 5 ≤ k → ∃ l' p', trustquorummake_Tape_Order.l0 k (n : Int) l (l.length : Int) L p = some (l', p') ∧ l'.length = n ∧ St L p' := by
  induction r with
  | zero =>
    intro l p k hs hl hk
    obtain ⟨k, rfl⟩ : ∃ m, k = m + 1 := ⟨k - 1, by omega⟩
    obtain ⟨l', p', h1, h2, h3⟩ := order_swap (n - 1) l p k hs (by omega) (by omega) (by omega)
    refine ⟨l', p', ?_, by omega, h3⟩
    rw [trustquorummake_Tape_Order.l0, if_neg (by omega), w64 (x := (n : Int) - 1) (by omega) (by omega), show (n : Int) - 1 = ((n - 1 : Nat) : Int) by omega]
    exact h1
  | succ r ih =>
    intro l p k hs hl hk
    obtain ⟨k, rfl⟩ : ∃ m, k = m + 1 := ⟨k - 1, by omega⟩
    obtain ⟨l', p', h1, h2, h3⟩ := ih (l ++ [(l.length : Int)]) p k hs (by rw [List.length_append]; simp only [List.length_cons, List.length_nil]; omega) (by omega)
    refine ⟨l', p', ?_, h2, h3⟩
    rw [trustquorummake_Tape_Order.l0, if_pos (by omega), if_pos (by omega), nx l.length (by omega)]
    rw [List.length_append] at h1
    exact h1
theorem order_eq {L : List Int} {p : Int} {n : Nat} (h : St L p) (hn : 1 ≤ n) (hn2 : n ≤ 100) {k : Nat} (hk : 2 * n + 10 ≤ k) : ∃ l p', trustquorummake_Tape_Order.f k L p (n : Int) = some (l, p') ∧ l.length = n ∧ St L p' := by
  unfold trustquorummake_Tape_Order.f
  exact order_fill hn hn2 n [] p k h (by simp) (by omega)
theorem pick6 {L : List Int} {p : Int} (h : St L p) : ∃ c p', trustquorummake_Tape_Pick.f L p ([0, 0, 1, 1, 2, 3] : List Int) = some (c, p') ∧ 0 ≤ c ∧ c ≤ 3 ∧ St L p' := by
  obtain ⟨r, p', hr, h0, h1, hs⟩ := N_eq (n := 6) h (by omega) (by omega)
  have l6 : ((([0, 0, 1, 1, 2, 3] : List Int).length : Nat) : Int) = 6 := rfl
  unfold trustquorummake_Tape_Pick.f
  rw [l6, hr]
  simp only [Option.bind_some]
  rw [if_pos h0, if_pos h1]
  refine ⟨_, _, rfl, ?_, ?_, hs⟩
  all_goals
    have : r = 0 ∨ r = 1 ∨ r = 2 ∨ r = 3 ∨ r = 4 ∨ r = 5 := by omega
    rcases this with rfl | rfl | rfl | rfl | rfl | rfl <;> decide
/-- rounds and size of a drawn trust of so many levels -/
def fd : Nat → Nat
  | 0 => 40
  | d + 1 => 40 + 3 * (3 + fd d)
theorem fd_ge (d : Nat) : 40 ≤ fd d := by cases d <;> simp only [fd] <;> omega
theorem copy_nodes {L : List Int} (n deep : Int) (ns : List Int) (hns : ns.length ≤ 5) (Q : Option (Int × List Int × List S27 × Int)) (p : Int) (K : Nat)
    (hQ : ∀ k, K ≤ k → trustquorummake_trust.l0 k n deep ns (ns.length : Int) (ns.length : Int) L p 0 ns = Q) (r : Nat) :
    ∀ (s k : Nat), s + r = ns.length → K + r ≤ k → trustquorummake_trust.l0 k n deep ns (ns.length : Int) (s : Int) L p 0 (ns.take s) = Q := by
  induction r with
  | zero =>
    intro s k h1 hk
    rw [show s = ns.length by omega, List.take_length]
    exact hQ k (by omega)
  | succ r ih =>
    intro s k h1 hk
    obtain ⟨k, rfl⟩ : ∃ m, k = m + 1 := ⟨k - 1, by omega⟩
    have hs : s < ns.length := by omega
    rw [trustquorummake_trust.l0, if_pos (by omega), if_pos (by omega), if_pos (by omega), if_pos (by rw [List.length_take]; omega), rd_at ns s hs, nx s (by omega), show ns.take s ++ [ns[s]] = ns.take (s + 1) by rw [List.take_succ_eq_append_getElem hs]]
    exact ih (s + 1) k (by omega) (by omega)
theorem trust_eq {L : List Int} {n : Nat} (hn : 1 ≤ n) (hn2 : n ≤ 10) (d : Nat) : (d : Int) ≤ 1000 → ∀ (p : Int) (k : Nat), St L p → fd d + 40 ≤ k → ∃ th ns inn p', trustquorummake_trust.f k L p (n : Int) (d : Int) = some (th, ns, inn, p') ∧ fuT ⟨th, ns, inn⟩ ≤ fd d ∧ St L p' := by
  induction d with
  | zero =>
    intro _ p k hs hk
    rw [fd] at hk
    obtain ⟨k, rfl⟩ : ∃ m, k = m + 1 := ⟨k - 1, by omega⟩
    obtain ⟨l, p1, h1, hl, s1⟩ := order_eq (n := n) hs hn (by omega) (k := k) (by omega)
    have hm : 1 ≤ mn (n : Int) 5 ∧ mn (n : Int) 5 ≤ 5 ∧ mn (n : Int) 5 ≤ n := by unfold mn; split <;> omega
    obtain ⟨r, p2, h2, r0, r1, s2⟩ := Range_eq (a := 1) (b := mn (n : Int) 5) s1 (by omega) (by omega) (by omega)
    obtain ⟨q, rfl⟩ := Int.eq_ofNat_of_zero_le (show 0 ≤ r by omega)
    have hlen : (l.take q).length = q := by rw [List.length_take]; omega
    obtain ⟨th, p3, h3, t0, t1, s3⟩ := Range_eq (a := 1) (b := ((l.take q).length : Int)) s2 (by omega) (by omega) (by omega)
    refine ⟨th, l.take q, [], p3, ?_, by rw [fuT, fuL, fd]; omega, s3⟩
    rw [trustquorummake_trust.f, h1]
    simp only [Option.bind_some]
    rw [h2]
    simp only [Option.bind_some]
    rw [if_pos (by omega), if_pos (by omega), Int.toNat_natCast]
    refine copy_nodes (n : Int) ((0 : Nat) : Int) (l.take q) (by omega) _ p2 1 (fun k hk => ?_) (l.take q).length 0 k (by omega) (by omega)
    obtain ⟨k, rfl⟩ : ∃ m, k = m + 1 := ⟨k - 1, by omega⟩
    rw [trustquorummake_trust.l0, if_neg (by omega), if_neg (by omega), w64 (x := ((l.take q).length : Int)) (by omega) (by omega), h3]
    rfl
  | succ d ih =>
    intro hdd0 p k hs hk
    have hdd : (d : Int) ≤ 1000 := by omega
    have ih := ih hdd
    have hfd := fd_ge d
    rw [fd] at hk
    obtain ⟨k, rfl⟩ : ∃ m, k = m + 1 := ⟨k - 1, by omega⟩
    obtain ⟨l, p1, h1, hl, s1⟩ := order_eq (n := n) hs hn (by omega) (k := k) (by omega)
    have hm : 1 ≤ mn (n : Int) 5 ∧ mn (n : Int) 5 ≤ 5 ∧ mn (n : Int) 5 ≤ n := by unfold mn; split <;> omega
    obtain ⟨r, p2, h2, r0, r1, s2⟩ := Range_eq (a := 1) (b := mn (n : Int) 5) s1 (by omega) (by omega) (by omega)
    obtain ⟨q, rfl⟩ := Int.eq_ofNat_of_zero_le (show 0 ≤ r by omega)
    have hlen : (l.take q).length = q := by rw [List.length_take]; omega
    have inner : ∀ (c : Nat) (inn : List S27) (p : Int) (k : Nat), St L p → inn.length + c ≤ 3 → fuL inn ≤ inn.length * (3 + fd d) → fd d + 40 + c + 3 ≤ k → 1 < ((d + 1 : Nat) : Int) → ∃ th ns inn' p', trustquorummake_trust.l1 k (n : Int) ((d + 1 : Nat) : Int) (c : Int) L p 0 (l.take q) inn = some (th, ns, inn', p') ∧ fuT ⟨th, ns, inn'⟩ ≤ fd (d + 1) ∧ St L p' := by
      intro c
      induction c with
      | zero =>
        intro inn p k hs hc hf hk hd
        obtain ⟨k, rfl⟩ : ∃ m, k = m + 1 := ⟨k - 1, by omega⟩
        have hmul : inn.length * (3 + fd d) ≤ 3 * (3 + fd d) := Nat.mul_le_mul_right _ (by omega)
        rw [trustquorummake_trust.l1, if_neg (by omega)]
        by_cases hi : (inn.length : Int) > 0
        · obtain ⟨z, pz, hz, z0, z1, sz⟩ := N_eq (n := 3) hs (by omega) (by omega)
          rw [if_pos hi, hz]
          simp only [Option.bind_some]
          by_cases hz0 : z = 0
          · obtain ⟨th, p3, h3, t0, t1, s3⟩ := Range_eq (a := 1) (b := (inn.length : Int)) sz (by omega) (by omega) (by omega)
            rw [if_pos hz0, w64 (x := (inn.length : Int)) (by omega) (by omega), h3]
            exact ⟨th, [], inn, p3, rfl, by rw [fuT, fd, List.length_nil]; omega, s3⟩
          · obtain ⟨th, p3, h3, t0, t1, s3⟩ := Range_eq (a := 1) (b := ((l.take q).length : Int) + (inn.length : Int)) sz (by omega) (by omega) (by omega)
            rw [if_neg hz0, w64 (x := ((l.take q).length : Int) + (inn.length : Int)) (by omega) (by omega), h3]
            exact ⟨th, _, inn, p3, rfl, by rw [fuT, fd]; omega, s3⟩
        · obtain ⟨th, p3, h3, t0, t1, s3⟩ := Range_eq (a := 1) (b := ((l.take q).length : Int) + (inn.length : Int)) hs (by omega) (by omega) (by omega)
          rw [if_neg hi, w64 (x := ((l.take q).length : Int) + (inn.length : Int)) (by omega) (by omega), h3]
          exact ⟨th, _, inn, p3, rfl, by rw [fuT, fd]; omega, s3⟩
      | succ c ihc =>
        intro inn p k hs hc hf hk hd
        obtain ⟨k, rfl⟩ : ∃ m, k = m + 1 := ⟨k - 1, by omega⟩
        obtain ⟨th, ns, inn', p', ht, hft, st⟩ := ih p k hs (by omega)
        have happ : ∀ (l : List S27) (t : S27), fuL (l ++ [t]) = fuL l + (3 + fuT t) := by
          intro l t
          induction l with
          | nil => rw [List.nil_append, fuL]; simp only [fuL]; omega
          | cons a l ih => rw [List.cons_append, fuL, fuL, ih]; omega
        obtain ⟨th2, ns2, inn2, p2', h2', hf2, st2⟩ := ihc (inn ++ [(⟨th, ns, inn'⟩ : S27)]) p' k st (by rw [List.length_append]; simp only [List.length_cons, List.length_nil]; omega) (by rw [happ, List.length_append]; simp only [List.length_cons, List.length_nil, Nat.zero_add, Nat.add_mul, Nat.one_mul]; omega) (by omega) hd
        refine ⟨th2, ns2, inn2, p2', ?_, hf2, st2⟩
        have hd2 : (d : Int) ≤ 1000 := hdd
        rw [trustquorummake_trust.l1, if_pos (by omega), w64 (x := ((d + 1 : Nat) : Int) - 1) (by omega) (by omega), show ((d + 1 : Nat) : Int) - 1 = (d : Int) by omega, ht]
        simp only [Option.bind_some]
        rw [if_pos (by omega), w64 (x := ((c + 1 : Nat) : Int) - 1) (by omega) (by omega), show ((c + 1 : Nat) : Int) - 1 = (c : Int) by omega]
        exact h2'
    by_cases hd : 1 < ((d + 1 : Nat) : Int)
    · obtain ⟨c, p3, h3, c0, c1, s3⟩ := pick6 s2
      obtain ⟨c, rfl⟩ := Int.eq_ofNat_of_zero_le c0
      obtain ⟨th, ns, inn, p4, h4, hf4, s4⟩ := inner c [] p3 (k - 6) s3 (by simp only [List.length_nil]; omega) (by rw [fuL]; omega) (by omega) hd
      refine ⟨th, ns, inn, p4, ?_, hf4, s4⟩
      rw [trustquorummake_trust.f, h1]
      simp only [Option.bind_some]
      rw [h2]
      simp only [Option.bind_some]
      rw [if_pos (by omega), if_pos (by omega), Int.toNat_natCast]
      refine copy_nodes (n : Int) ((d + 1 : Nat) : Int) (l.take q) (by omega) _ p2 (k - 5) (fun k' hk' => ?_) (l.take q).length 0 k (by omega) (by omega)
      obtain ⟨k', rfl⟩ : ∃ m, k' = m + 1 := ⟨k' - 1, by omega⟩
      rw [trustquorummake_trust.l0, if_neg (by omega), if_pos hd, h3]
      simp only [Option.bind_some]
      exact at_rounds (g := fun k => trustquorummake_trust.l1 k (n : Int) ((d + 1 : Nat) : Int) (c : Int) L p3 0 (l.take q) []) (fun k => (trustquorummake_trust.mono_l k).2.2 _ _ _ _ _ _ _ _) (show k - 6 ≤ k' by omega) h4
    · obtain ⟨th, p3, h3, t0, t1, s3⟩ := Range_eq (a := 1) (b := ((l.take q).length : Int)) s2 (by omega) (by omega) (by omega)
      refine ⟨th, l.take q, [], p3, ?_, by rw [fuT, fuL, fd]; omega, s3⟩
      rw [trustquorummake_trust.f, h1]
      simp only [Option.bind_some]
      rw [h2]
      simp only [Option.bind_some]
      rw [if_pos (by omega), if_pos (by omega), Int.toNat_natCast]
      refine copy_nodes (n : Int) ((d + 1 : Nat) : Int) (l.take q) (by omega) _ p2 1 (fun k hk => ?_) (l.take q).length 0 k (by omega) (by omega)
      obtain ⟨k, rfl⟩ : ∃ m, k = m + 1 := ⟨k - 1, by omega⟩
      rw [trustquorummake_trust.l0, if_neg (by omega), if_neg hd, w64 (x := ((l.take q).length : Int)) (by omega) (by omega), h3]
      rfl
theorem one_ok : ∀ r, r < 10 → chkT (⟨1, [((r : Nat) : Int)], []⟩ : S27) = 0 := by decide +kernel
/-- The drawn trust is valid and not great. -/
theorem Trust_eq {L : List Int} {p n : Int} (h : St L p) (hn : 1 ≤ n) (hn2 : n ≤ 10) (d : Nat) (hd : d ≤ 4) {k : Nat} (hk : 6000 ≤ k) : ∃ th ns inn p', trustquorummake_Trust.f k L p n (d : Int) = some (th, ns, inn, p') ∧ fuT ⟨th, ns, inn⟩ ≤ 5800 ∧ chkT ⟨th, ns, inn⟩ = 0 ∧ depT ⟨th, ns, inn⟩ ≤ 4 ∧ sizT ⟨th, ns, inn⟩ ≤ 200 ∧ St L p' := by
  obtain ⟨n, rfl⟩ := Int.eq_ofNat_of_zero_le (show 0 ≤ n by omega)
  have hfd : fd d ≤ 5800 := by
    have : d = 0 ∨ d = 1 ∨ d = 2 ∨ d = 3 ∨ d = 4 := by omega
    rcases this with rfl | rfl | rfl | rfl | rfl <;> decide
  obtain ⟨th, ns, inn, p', h1, hf, hs⟩ := trust_eq (n := n) (by omega) (by omega) d (by omega) p k h (by omega)
  unfold trustquorummake_Trust.f
  rw [h1]
  simp only [Option.bind_some]
  have hv := refValid_eq ⟨th, ns, inn⟩ (k := k) (by omega) (by omega)
  rw [show trustquorumref02_Valid.f k th ns inn = some (valT ⟨th, ns, inn⟩) from hv]
  simp only [Option.bind_some]
  by_cases h0 : valT ⟨th, ns, inn⟩ = 0
  · rw [if_pos h0]
    unfold valT at h0
    by_cases a1 : depT ⟨th, ns, inn⟩ > 4
    · rw [if_pos a1] at h0; cases h0
    · rw [if_neg a1] at h0
      by_cases a2 : sizT ⟨th, ns, inn⟩ > 200
      · rw [if_pos a2] at h0; cases h0
      · rw [if_neg a2] at h0
        exact ⟨th, ns, inn, p', rfl, by omega, h0, by omega, by omega, hs⟩
  · rw [if_neg h0]
    obtain ⟨r, p2, h2, r0, r1, s2⟩ := N_eq (n := (n : Int)) hs (by omega) (by omega)
    rw [h2]
    obtain ⟨q, rfl⟩ := Int.eq_ofNat_of_zero_le r0
    refine ⟨1, [(q : Int)], [], p2, rfl, by rw [fuT, fuL]; simp, one_ok q (by omega), ?_, ?_, s2⟩
    · rw [depT, depL]; omega
    · rw [sizT, sizL]; simp

theorem awake_eq {k : Nat} (hk : 200 ≤ k) : trustquorumlaw02_awake.f k = some true := by
  obtain ⟨m, rfl⟩ : ∃ m, k = m + 200 := ⟨k - 200, by omega⟩
  unfold trustquorumlaw02_awake.f
  simp only [Option.bind_some]
  have hd : threshold_Dual.f (m + 200) 2 [0, 1] [(⟨1, [2, 3], []⟩ : S27)] = some (2, [0, 1], [⟨2, [2, 3], []⟩]) := by
    have d1 : threshold_Dual.f (m + 197) 1 [2, 3] [] = some (2, [2, 3], []) := by
      show threshold_Dual.f ((m + 196) + 1) 1 [2, 3] [] = _
      rw [threshold_Dual.f, show slices_Clone_int_int.f [2, 3] = some [2, 3] by decide +kernel]
      simp only [Option.bind_some]
      show threshold_Dual.l0 ((m + 195) + 1) _ _ _ _ _ _ = _
      rw [threshold_Dual.l0, if_neg (by simp), show wrap64 (wrap64 (wrap64 ((([2, 3] : List Int).length : Int) + (([] : List S27).length : Int)) + 1) - 1) = 2 by decide +kernel]
    show threshold_Dual.f ((m + 199) + 1) 2 [0, 1] [(⟨1, [2, 3], []⟩ : S27)] = _
    rw [threshold_Dual.f, show slices_Clone_int_int.f [0, 1] = some [0, 1] by decide +kernel]
    simp only [Option.bind_some]
    show threshold_Dual.l0 ((m + 198) + 1) _ _ _ _ _ _ = _
    rw [threshold_Dual.l0, if_pos (by simp), if_pos (by omega), if_pos (by simp)]
    show ((threshold_Dual.f (m + 198) 1 [2, 3] []).bind _) = _
    rw [at_rounds (g := fun k => threshold_Dual.f k 1 [2, 3] []) (fun k => threshold_Dual.mono _ _ _ k) (show m + 197 ≤ m + 198 by omega) d1]
    simp only [Option.bind_some]
    rw [if_pos (by simp)]
    show threshold_Dual.l0 ((m + 197) + 1) _ _ _ _ _ _ = _
    rw [threshold_Dual.l0, if_neg (by decide +kernel), show wrap64 (wrap64 (wrap64 ((([0, 1] : List Int).length : Int) + (([(⟨1, [2, 3], []⟩ : S27)] : List S27).length : Int)) + 1) - 2) = 2 by decide +kernel]
    rfl
  rw [hd]
  have hb : fuT (⟨2, [0, 1], [⟨1, [2, 3], []⟩]⟩ : S27) ≤ 100 := by decide +kernel
  have s5 := satisfied_eq (⟨2, [0, 1], [⟨1, [2, 3], []⟩]⟩ : S27) 5 (by omega) (k := m + 200) (by omega) (by omega)
  have s12 := satisfied_eq (⟨2, [0, 1], [⟨1, [2, 3], []⟩]⟩ : S27) 12 (by omega) (k := m + 200) (by omega) (by omega)
  have b3 := blocked_eq (⟨2, [0, 1], [⟨1, [2, 3], []⟩]⟩ : S27) 3 (by omega) (k := m + 200) (by omega) (by omega)
  have b4 := blocked_eq (⟨2, [0, 1], [⟨1, [2, 3], []⟩]⟩ : S27) 4 (by omega) (k := m + 200) (by omega) (by omega)
  simp only [Option.bind_some]
  rw [show threshold_Satisfied.f (m + 200) 2 [0, 1] [(⟨1, [2, 3], []⟩ : S27)] 5 = some true from s5.trans (by decide +kernel), show threshold_Satisfied.f (m + 200) 2 [0, 1] [(⟨1, [2, 3], []⟩ : S27)] 12 = some false from s12.trans (by decide +kernel),
    show threshold_Blocked.f (m + 200) 2 [0, 1] [(⟨1, [2, 3], []⟩ : S27)] 3 = some true from b3.trans (by decide +kernel), show threshold_Blocked.f (m + 200) 2 [0, 1] [(⟨1, [2, 3], []⟩ : S27)] 4 = some false from b4.trans (by decide +kernel)]
  rfl

theorem threshold_Size_eq (N : Nat) : ∀ (t : S27) (k : Nat), fuT t ≤ N → fuT t ≤ 1000000 → fuT t ≤ k → threshold_Size.f k t.f0 t.f1 t.f2 = some (sizT t) := by
  induction N with
  | zero => intro t k h; rw [fuT_eq] at h; omega
  | succ N ih =>
    intro t k h hb hk
    obtain ⟨th, ns, inn⟩ := t
    rw [fuT] at h hb hk
    have hl := fuL_len inn
    have key : ∀ (r s : Nat) (c : Int) (k : Nat), s + r = inn.length → fuL (inn.drop s) + 2 ≤ k → 0 ≤ c → c + 2 * fuL (inn.drop s) ≤ 10000000 → threshold_Size.l0 k c inn (inn.length : Int) (s : Int) = some (sizL (inn.drop s) c) := by
      intro r
      induction r with
      | zero =>
        intro s c k h1 hk _ _
        obtain ⟨k, rfl⟩ : ∃ m, k = m + 1 := ⟨k - 1, by omega⟩
        rw [threshold_Size.l0, if_neg (by omega), List.drop_of_length_le (by omega), sizL]
      | succ r ihr =>
        intro s c k h1 hk hc0 hc1
        obtain ⟨k, rfl⟩ : ∃ m, k = m + 1 := ⟨k - 1, by omega⟩
        have hs : s < inn.length := by omega
        have hd := fuL_drop inn s hs
        have hle := fuL_le inn s
        have hb2 := siz_bd _ inn[s] (Nat.le_refl _)
        rw [threshold_Size.l0, if_pos (by omega), if_pos (by omega), if_pos (by omega), rdS_at inn s hs, ih inn[s] k (by omega) (by omega) (by omega)]
        simp only [Option.bind_some]
        rw [w64 (x := c + sizT inn[s]) (by omega) (by omega), nx s (by omega), ihr (s + 1) (c + sizT inn[s]) k (by omega) (by omega) (by omega) (by omega), List.drop_eq_getElem_cons hs, sizL]
    obtain ⟨k, rfl⟩ : ∃ m, k = m + 1 := ⟨k - 1, by omega⟩
    show threshold_Size.f (k + 1) th ns inn = _
    rw [threshold_Size.f, w64 (by omega) (by omega), sizT]
    exact key inn.length 0 _ k (by omega) (by rw [List.drop_zero]; omega) (by omega) (by rw [List.drop_zero]; omega)

theorem threshold_Depth_eq (N : Nat) : ∀ (t : S27) (k : Nat), fuT t ≤ N → fuT t ≤ 1000000 → fuT t ≤ k → threshold_Depth.f k t.f0 t.f1 t.f2 = some (depT t) := by
  induction N with
  | zero => intro t k h; rw [fuT_eq] at h; omega
  | succ N ih =>
    intro t k h hb hk
    obtain ⟨th, ns, inn⟩ := t
    rw [fuT] at h hb hk
    have hl := fuL_len inn
    have key : ∀ (r s : Nat) (c : Int) (k : Nat), s + r = inn.length → fuL (inn.drop s) + 2 ≤ k → 0 ≤ c → c + fuL (inn.drop s) ≤ 10000000 → threshold_Depth.l0 k c inn (inn.length : Int) (s : Int) = some (depL (inn.drop s) c + 1) := by
      intro r
      induction r with
      | zero =>
        intro s c k h1 hk hc0 hc1
        obtain ⟨k, rfl⟩ : ∃ m, k = m + 1 := ⟨k - 1, by omega⟩
        rw [threshold_Depth.l0, if_neg (by omega), List.drop_of_length_le (by omega), depL, w64 (by omega) (by omega)]
      | succ r ihr =>
        intro s c k h1 hk hc0 hc1
        obtain ⟨k, rfl⟩ : ∃ m, k = m + 1 := ⟨k - 1, by omega⟩
        have hs : s < inn.length := by omega
        have hd := fuL_drop inn s hs
        have hle := fuL_le inn s
        have hb2 := dep_bd _ inn[s] (Nat.le_refl _)
        have hm : 0 ≤ mx c (depT inn[s]) ∧ mx c (depT inn[s]) ≤ c + fuT inn[s] := by unfold mx; split <;> omega
        rw [threshold_Depth.l0, if_pos (by omega), if_pos (by omega), if_pos (by omega), rdS_at inn s hs, ih inn[s] k (by omega) (by omega) (by omega)]
        simp only [Option.bind_some]
        rw [nx s (by omega), ihr (s + 1) (mx c (depT inn[s])) k (by omega) (by omega) (by omega) (by omega), List.drop_eq_getElem_cons hs, depL]
    obtain ⟨k, rfl⟩ : ∃ m, k = m + 1 := ⟨k - 1, by omega⟩
    show threshold_Depth.f (k + 1) th ns inn = _
    rw [threshold_Depth.f, depT]
    exact key inn.length 0 0 k (by omega) (by rw [List.drop_zero]; omega) (by omega) (by rw [List.drop_zero]; omega)

theorem nodeset_Of_loop (l : List Int) (hl : l.length ≤ 1000000) (r : Nat) : ∀ (s m k : Nat), s + r = l.length → m < 1024 → 2 * r + 2 ≤ k → nodeset_Of.l0 k (m : Int) l (l.length : Int) (s : Int) = some (ofR (l.drop s) m) := by
  induction r with
  | zero =>
    intro s m k h1 hm hk
    obtain ⟨k, rfl⟩ : ∃ q, k = q + 1 := ⟨k - 1, by omega⟩
    rw [nodeset_Of.l0, if_neg (by omega), List.drop_of_length_le (by omega), ofR]
  | succ r ih =>
    intro s m k h1 hm hk
    obtain ⟨k, rfl⟩ : ∃ q, k = q + 2 := ⟨k - 2, by omega⟩
    have hs : s < l.length := by omega
    show nodeset_Of.l0 ((k + 1) + 1) _ _ _ _ = _
    rw [nodeset_Of.l0, if_pos (by omega), if_pos (by omega), if_pos (by omega), rd_at l s hs, List.drop_eq_getElem_cons hs, ofR]
    generalize l[s] = x
    by_cases h0 : x < 0
    · rw [if_pos h0, nodeset_Of.j1, if_pos rfl, if_pos (.inl h0)]
    · rw [if_neg h0, nodeset_Of.j1]
      by_cases h2 : x ≥ 10
      · rw [if_pos (decide_eq_true h2), if_pos (.inr h2)]
      · rw [if_neg (by rw [decide_eq_true_eq]; exact h2), if_neg (show ¬ (x < 0 ∨ 10 ≤ x) by omega), has_eq m hm x]
        simp only [Option.bind_some]
        cases ht : tb m x
        · simp only [Bool.false_eq_true, if_false]
          obtain ⟨i, rfl⟩ := Int.eq_ofNat_of_zero_le (show 0 ≤ x by omega)
          have hp := pow_lt i (by omega)
          rw [if_pos (show 0 ≤ (i : Int) by omega), shl_eq i (by omega), or_eq m (2 ^ i) hm hp, nx s (by omega), Int.toNat_natCast]
          exact ih (s + 1) (m ||| 2 ^ i) k (by omega) (Nat.or_lt_two_pow (n := 10) hm hp) (by omega)
        · simp only [if_true]
theorem nodeset_Of_eq (l : List Int) (hl : l.length ≤ 1000000) {k : Nat} (hk : 2 * l.length + 2 ≤ k) : nodeset_Of.f k l = some (ofR l 0) := by
  unfold nodeset_Of.f
  exact nodeset_Of_loop l hl l.length 0 0 k (by omega) (by omega) hk

-- the program's own check
theorem node_eq (k : Int) : threshold_node.f k = some (decide (0 ≤ k ∧ k < 10)) := by
  unfold threshold_node.f
  by_cases h : k ≥ 0
  · rw [if_pos h]; congr 1; rw [decide_eq_decide]; omega
  · rw [if_neg h]; congr 1; rw [eq_comm, decide_eq_false_iff_not]; omega
theorem bad_eq (k : Int) : threshold_level_1.f k = some (decide (k < 0 ∨ 10 ≤ k)) := by
  unfold threshold_level_1.f
  rw [node_eq]
  simp only [Option.bind_some]
  congr 1
  by_cases h : 0 ≤ k ∧ k < 10
  · rw [decide_eq_true h, decide_eq_false (by omega)]; rfl
  · rw [decide_eq_false h, decide_eq_true (by omega)]; rfl
theorem indexf_loop (l : List Int) (hl : l.length ≤ 1000000) (r : Nat) : ∀ (s k : Nat), s + r = l.length → r + 1 ≤ k → ∃ x, slices_IndexFunc_int_int__on_49.l0 k l (l.length : Int) (s : Int) = some x ∧ decide (x ≥ 0) = outR (l.drop s) := by
  induction r with
  | zero =>
    intro s k h1 hk
    obtain ⟨k, rfl⟩ : ∃ q, k = q + 1 := ⟨k - 1, by omega⟩
    exact ⟨-1, by rw [slices_IndexFunc_int_int__on_49.l0, if_neg (by omega)], by rw [List.drop_of_length_le (by omega)]; decide⟩
  | succ r ih =>
    intro s k h1 hk
    obtain ⟨k, rfl⟩ : ∃ q, k = q + 1 := ⟨k - 1, by omega⟩
    have hs : s < l.length := by omega
    have ho : outR (l.drop s) = (decide (l[s] < 0 ∨ 10 ≤ l[s]) || outR (l.drop (s + 1))) := by rw [List.drop_eq_getElem_cons hs]; unfold outR; rw [List.any_cons]
    rw [slices_IndexFunc_int_int__on_49.l0, if_pos (by omega), if_pos (by omega), if_pos (by omega), rd_at l s hs, bad_eq, ho]
    simp only [Option.bind_some]
    by_cases hb : l[s] < 0 ∨ 10 ≤ l[s]
    · exact ⟨(s : Int), by rw [if_pos (decide_eq_true hb)], by rw [decide_eq_true hb, decide_eq_true (by omega), Bool.true_or]⟩
    · obtain ⟨x, hx, hd⟩ := ih (s + 1) k (by omega) (by omega)
      exact ⟨x, by rw [if_neg (by rw [decide_eq_true_eq]; exact hb), nx s (by omega)]; exact hx, by rw [hd, decide_eq_false hb, Bool.false_or]⟩
theorem containsf_eq (l : List Int) (hl : l.length ≤ 1000000) {k : Nat} (hk : l.length + 1 ≤ k) : slices_ContainsFunc_int_int__on_49.f k l = some (outR l) := by
  obtain ⟨x, hx, hd⟩ := indexf_loop l hl l.length 0 k (by omega) hk
  unfold slices_ContainsFunc_int_int__on_49.f slices_IndexFunc_int_int__on_49.f
  rw [show (0 : Int) = ((0 : Nat) : Int) from rfl, hx]
  simp only [Option.bind_some]
  rw [List.drop_zero] at hd
  rw [← hd]
  rfl
theorem level_eq (N : Nat) : ∀ (t : S27) (k : Nat), fuT t ≤ N → fuT t ≤ 1000000 → fuT t ≤ k → threshold_level.f k t.f0 t.f1 t.f2 = some (chkT t) := by
  induction N with
  | zero => intro t k h; rw [fuT_eq] at h; omega
  | succ N ih =>
    intro t k h hb hk
    obtain ⟨th, ns, inn⟩ := t
    rw [fuT] at h hb hk
    have hl := fuL_len inn
    have key : ∀ (r s : Nat) (k : Nat), s + r = inn.length → fuL (inn.drop s) + 2 ≤ k → threshold_level.l0 k inn (inn.length : Int) (s : Int) = some (chkL (inn.drop s)) := by
      intro r
      induction r with
      | zero =>
        intro s k h1 hk
        obtain ⟨k, rfl⟩ : ∃ m, k = m + 1 := ⟨k - 1, by omega⟩
        rw [threshold_level.l0, if_neg (by omega), List.drop_of_length_le (by omega), chkL]
      | succ r ihr =>
        intro s k h1 hk
        obtain ⟨k, rfl⟩ : ∃ m, k = m + 1 := ⟨k - 1, by omega⟩
        have hs : s < inn.length := by omega
        have hd := fuL_drop inn s hs
        have hle := fuL_le inn s
        rw [threshold_level.l0, if_pos (by omega), if_pos (by omega), if_pos (by omega), rdS_at inn s hs, ih inn[s] k (by omega) (by omega) (by omega)]
        simp only [Option.bind_some]
        rw [nx s (by omega), List.drop_eq_getElem_cons hs, chkL]
        by_cases hc : chkT inn[s] = 0
        · rw [if_pos hc, if_pos hc]; exact ihr (s + 1) k (by omega) (by omega)
        · rw [if_neg hc, if_neg hc]
    obtain ⟨k, rfl⟩ : ∃ m, k = m + 2 := ⟨k - 2, by omega⟩
    show threshold_level.f ((k + 1) + 1) th ns inn = _
    rw [threshold_level.f, w64 (by omega) (by omega), chkT]
    by_cases h0 : th < 1
    · rw [if_pos h0, threshold_level.j0, if_pos rfl, if_pos (.inl h0)]
    · rw [if_neg h0, threshold_level.j0]
      by_cases h1 : th > (ns.length : Int) + (inn.length : Int)
      · rw [if_pos (decide_eq_true h1), if_pos (.inr h1)]
      · rw [if_neg (by rw [decide_eq_true_eq]; exact h1), if_neg (show ¬ (th < 1 ∨ th > (ns.length : Int) + (inn.length : Int)) by omega), containsf_eq ns (by omega) (by omega), nodeset_Of_eq ns (by omega) (by omega)]
        simp only [Option.bind_some]
        cases ho : outR ns
        · rw [if_neg (show ¬ (false = true) by decide), if_neg (show ¬ (false = true) by decide)]
          by_cases he : (ofR ns 0).2 = 0
          · rw [if_pos he, if_pos he]; exact key inn.length 0 k (by omega) (by rw [List.drop_zero]; omega)
          · rw [if_neg he, if_neg he]
        · rw [if_pos rfl, if_pos rfl]
theorem valid_eq (t : S27) {k : Nat} (hb : fuT t ≤ 1000000) (hk : fuT t ≤ k) : threshold_Valid.f k t.f0 t.f1 t.f2 = some (valT t) := by
  unfold threshold_Valid.f valT
  rw [threshold_Depth_eq _ t k (Nat.le_refl _) hb hk, threshold_Size_eq _ t k (Nat.le_refl _) hb hk, level_eq _ t k (Nat.le_refl _) hb hk]
  simp only [Option.bind_some]
  split
  · rfl
  · split <;> rfl
theorem valT_ok {t : S27} (h1 : chkT t = 0) (h2 : depT t ≤ 4) (h3 : sizT t ≤ 200) : valT t = 0 := by unfold valT; rw [if_neg (by omega), if_neg (by omega), h1]

-- the nodes of a trust
theorem tb_or (a b : Nat) (k : Int) : tb (a ||| b) k = (tb a k || tb b k) := by
  unfold tb
  rw [Nat.testBit_or]
  cases decide (0 ≤ k) <;> cases decide (k < 10) <;> simp
theorem tb_and (a b : Nat) (k : Int) : tb (a &&& b) k = (tb a k && tb b k) := by
  unfold tb
  rw [Nat.testBit_and]
  cases decide (0 ≤ k) <;> cases decide (k < 10) <;> cases a.testBit k.toNat <;> simp
theorem tb_pow (i : Nat) (h : i < 10) : tb (2 ^ i) (i : Int) = true := by
  unfold tb
  rw [decide_eq_true (show 0 ≤ (i : Int) by omega), decide_eq_true (show (i : Int) < 10 by omega), Int.toNat_natCast, Nat.testBit_two_pow]
  simp
def useN : List Int → Nat → Nat
  | [], m => m
  | k :: l, m => useN l (if 0 ≤ k ∧ k < 10 then m ||| 2 ^ k.toNat else m)
mutual
def useT : S27 → Nat
  | ⟨_, ns, inn⟩ => useL inn (useN ns 0)
def useL : List S27 → Nat → Nat
  | [], m => m
  | t :: l, m => useL l (m ||| useT t)
end
theorem useN_lt : ∀ (l : List Int) (m : Nat), m < 1024 → useN l m < 1024
  | [], _, h => h
  | k :: l, m, h => by
    rw [useN]
    by_cases hk : 0 ≤ k ∧ k < 10
    · rw [if_pos hk]; exact useN_lt l _ (Nat.or_lt_two_pow (n := 10) h (pow_lt k.toNat (by omega)))
    · rw [if_neg hk]; exact useN_lt l m h
mutual
theorem useT_lt : ∀ t : S27, useT t < 1024
  | ⟨_, ns, inn⟩ => by rw [useT]; exact useL_lt inn _ (useN_lt ns 0 (by omega))
theorem useL_lt : ∀ (l : List S27) (m : Nat), m < 1024 → useL l m < 1024
  | [], _, h => h
  | t :: l, m, h => by rw [useL]; exact useL_lt l _ (Nat.or_lt_two_pow (n := 10) h (useT_lt t))
end
theorem uses_eq (N : Nat) : ∀ (t : S27) (k : Nat), fuT t ≤ N → fuT t ≤ 1000000 → fuT t ≤ k → threshold_Uses.f k t.f0 t.f1 t.f2 = some ((useT t : Nat) : Int) := by
  induction N with
  | zero => intro t k h; rw [fuT_eq] at h; omega
  | succ N ih =>
    intro t k h hb hk
    obtain ⟨th, ns, inn⟩ := t
    rw [fuT] at h hb hk
    have hl := fuL_len inn
    have key : ∀ (r s m : Nat) (k : Nat), s + r = inn.length → fuL (inn.drop s) + 2 ≤ k → m < 1024 → threshold_Uses.l1 k (m : Int) inn (inn.length : Int) (s : Int) = some ((useL (inn.drop s) m : Nat) : Int) := by
      intro r
      induction r with
      | zero =>
        intro s m k h1 hk hm
        obtain ⟨k, rfl⟩ : ∃ q, k = q + 1 := ⟨k - 1, by omega⟩
        rw [threshold_Uses.l1, if_neg (by omega), List.drop_of_length_le (by omega), useL]
      | succ r ihr =>
        intro s m k h1 hk hm
        obtain ⟨k, rfl⟩ : ∃ q, k = q + 1 := ⟨k - 1, by omega⟩
        have hs : s < inn.length := by omega
        have hd := fuL_drop inn s hs
        have hle := fuL_le inn s
        rw [threshold_Uses.l1, if_pos (by omega), if_pos (by omega), if_pos (by omega), rdS_at inn s hs, ih inn[s] k (by omega) (by omega) (by omega)]
        simp only [Option.bind_some]
        rw [nx s (by omega), List.drop_eq_getElem_cons hs, useL, or_eq m _ hm (useT_lt _)]
        exact ihr (s + 1) _ k (by omega) (by omega) (Nat.or_lt_two_pow (n := 10) hm (useT_lt _))
    have nodes : ∀ (r s m : Nat) (k : Nat), s + r = ns.length → r + fuL inn + 3 ≤ k → m < 1024 → threshold_Uses.l0 k (m : Int) ns (ns.length : Int) (s : Int) th ns inn = some ((useL inn (useN (ns.drop s) m) : Nat) : Int) := by
      intro r
      induction r with
      | zero =>
        intro s m k h1 hk hm
        obtain ⟨k, rfl⟩ : ∃ q, k = q + 1 := ⟨k - 1, by omega⟩
        rw [threshold_Uses.l0, if_neg (by omega), List.drop_of_length_le (by omega), useN]
        exact key inn.length 0 m k (by omega) (by rw [List.drop_zero]; omega) hm
      | succ r ihr =>
        intro s m k h1 hk hm
        obtain ⟨k, rfl⟩ : ∃ q, k = q + 1 := ⟨k - 1, by omega⟩
        have hs : s < ns.length := by omega
        rw [threshold_Uses.l0, if_pos (by omega), if_pos (by omega), if_pos (by omega), rd_at ns s hs, node_eq]
        simp only [Option.bind_some]
        rw [nx s (by omega), List.drop_eq_getElem_cons hs, useN]
        by_cases hq : 0 ≤ ns[s] ∧ ns[s] < 10
        · rw [if_pos (decide_eq_true hq), if_pos hq, if_pos hq.1]
          obtain ⟨i, hi⟩ := Int.eq_ofNat_of_zero_le hq.1
          have h10 : i < 10 := by omega
          rw [hi, shl_eq i h10, or_eq m _ hm (pow_lt i h10), Int.toNat_natCast]
          exact ihr (s + 1) _ k (by omega) (by omega) (Nat.or_lt_two_pow (n := 10) hm (pow_lt i h10))
        · rw [if_neg (by rw [decide_eq_true_eq]; exact hq), if_neg hq]
          exact ihr (s + 1) m k (by omega) (by omega) hm
    obtain ⟨k, rfl⟩ : ∃ q, k = q + 1 := ⟨k - 1, by omega⟩
    show threshold_Uses.f (k + 1) th ns inn = _
    rw [threshold_Uses.f, useT]
    exact nodes ns.length 0 0 k (by omega) (by omega) (by omega)
-- sets that agree on the nodes of a trust
theorem useN_mem : ∀ (l : List Int) (m : Nat) (k : Int), tb m k = true ∨ (k ∈ l ∧ 0 ≤ k ∧ k < 10) → tb (useN l m) k = true
  | [], m, k, h => by rcases h with h | ⟨h, _⟩; exact h; cases h
  | x :: l, m, k, h => by
    rw [useN]
    apply useN_mem l
    rcases h with h | ⟨h, h1⟩
    · left
      split
      · rw [tb_or, h, Bool.true_or]
      · exact h
    · rcases List.mem_cons.1 h with rfl | h
      · left
        rw [if_pos h1, tb_or]
        obtain ⟨i, rfl⟩ := Int.eq_ofNat_of_zero_le h1.1
        rw [Int.toNat_natCast, tb_pow i (by omega), Bool.or_true]
      · exact .inr ⟨h, h1⟩
mutual
def covT : S27 → Nat → Prop
  | ⟨_, ns, inn⟩, u => (∀ k ∈ ns, 0 ≤ k → k < 10 → tb u k = true) ∧ covL inn u
def covL : List S27 → Nat → Prop
  | [], _ => True
  | t :: l, u => covT t u ∧ covL l u
end
mutual
theorem covT_use : ∀ (t : S27) (u : Nat), (∀ k, tb (useT t) k = true → tb u k = true) → covT t u
  | ⟨th, ns, inn⟩, u, h => by
    rw [covT]
    rw [useT] at h
    have hb := useL_keeps inn (useN ns 0)
    exact ⟨fun k hk h0 h1 => h k (hb k (useN_mem ns 0 k (.inr ⟨hk, h0, h1⟩))), covL_use inn (useN ns 0) u h⟩
theorem covL_use : ∀ (l : List S27) (m u : Nat), (∀ k, tb (useL l m) k = true → tb u k = true) → covL l u
  | [], _, _, _ => by rw [covL]; trivial
  | t :: l, m, u, h => by
    rw [covL]
    rw [useL] at h
    exact ⟨covT_use t u fun k hk => h k (useL_keeps l _ k (by rw [tb_or, hk, Bool.or_true])), covL_use l _ u h⟩
theorem useL_keeps : ∀ (l : List S27) (m : Nat) (k : Int), tb m k = true → tb (useL l m) k = true
  | [], _, _, h => by rw [useL]; exact h
  | t :: l, m, k, h => by
    rw [useL]
    exact useL_keeps l _ k (by rw [tb_or, h, Bool.true_or])
end
theorem cntN_agree {a b u : Nat} (h : ∀ k, tb u k = true → tb a k = tb b k) : ∀ l : List Int, (∀ k ∈ l, 0 ≤ k → k < 10 → tb u k = true) → cntN l a = cntN l b
  | [], _ => rfl
  | k :: l, hl => by
    have h1 := cntN_agree h l (fun x hx => hl x (List.mem_cons_of_mem _ hx))
    have h2 : tb a k = tb b k := by
      by_cases hr : 0 ≤ k ∧ k < 10
      · exact h k (hl k (by simp) hr.1 hr.2)
      · have : ∀ m, tb m k = false := by
          intro m
          cases hm : tb m k
          · rfl
          · exact absurd (tb_range hm) hr
        rw [this, this]
    rw [cntN, cntN, h1, h2]
mutual
theorem satT_agree {a b u : Nat} (h : ∀ k, tb u k = true → tb a k = tb b k) : ∀ t : S27, covT t u → satT t a = satT t b
  | ⟨th, ns, inn⟩, hc => by
    rw [covT] at hc
    rw [satT, satT, cntN_agree h ns hc.1, satL_agree h inn hc.2]
theorem satL_agree {a b u : Nat} (h : ∀ k, tb u k = true → tb a k = tb b k) : ∀ l : List S27, covL l u → satL l a = satL l b
  | [], _ => by rw [satL, satL]
  | t :: l, hc => by
    rw [covL] at hc
    rw [satL, satL, satT_agree h t hc.1, satL_agree h l hc.2]
end

-- the same trust with its entries in another order
theorem orderP_swap {L : List Int} (r : Nat) : ∀ (l : List Int) (p : Int) (k : Nat), St L p → r < l.length → l.length ≤ 100000 → r + 2 ≤ k → ∃ l' p', trustquorummake_Tape_Order.l1 k l (r : Int) L p = some (l', p') ∧ l'.Perm l ∧ St L p' := by
  induction r with
  | zero =>
    intro l p k hs hr hl hk
    obtain ⟨k, rfl⟩ : ∃ m, k = m + 1 := ⟨k - 1, by omega⟩
    exact ⟨l, p, by rw [trustquorummake_Tape_Order.l1, if_neg (by omega)], List.Perm.refl _, hs⟩
  | succ r ih =>
    intro l p k hs hr hl hk
    obtain ⟨k, rfl⟩ : ∃ m, k = m + 1 := ⟨k - 1, by omega⟩
    obtain ⟨q, p', hq, q0, q1, hs'⟩ := N_eq (n := ((r + 1 : Nat) : Int) + 1) hs (by omega) (by omega)
    obtain ⟨l', p'', h1, h2, h3⟩ := ih ((l.set ((r + 1 : Nat) : Int).toNat (rd l q)).set q.toNat (rd l ((r + 1 : Nat) : Int))) p' k hs' (by simp; omega) (by simp; omega) (by omega)
    refine ⟨l', p'', ?_, h2.trans ?_, h3⟩
    · rw [trustquorummake_Tape_Order.l1, if_pos (by omega), w64 (x := ((r + 1 : Nat) : Int) + 1) (by omega) (by omega), hq]
      simp only [Option.bind_some]
      rw [if_pos q0, if_pos (by omega), if_pos (by omega), if_pos (by omega), w64 (x := ((r + 1 : Nat) : Int) - 1) (by omega) (by omega), show ((r + 1 : Nat) : Int) - 1 = (r : Int) by omega]
      exact h1
    · obtain ⟨q, rfl⟩ := Int.eq_ofNat_of_zero_le q0
      have hq2 : q < l.length := by omega
      rw [rd_at l q hq2, rd_at l (r + 1) hr, Int.toNat_natCast, Int.toNat_natCast]
      exact List.set_set_perm hr hq2
theorem orderP_fill {L : List Int} {n : Nat} (hn2 : n ≤ 100000) (r : Nat) : ∀ (l : List Int) (p : Int) (k : Nat), St L p → l.length + r = n → l = (List.range l.length).map Int.ofNat → r + n + 5 ≤ k → ∃ l' p', trustquorummake_Tape_Order.l0 k (n : Int) l (l.length : Int) L p = some (l', p') ∧ l'.Perm ((List.range n).map Int.ofNat) ∧ St L p' := by
  induction r with
  | zero =>
    intro l p k hs hl hr hk
    obtain ⟨k, rfl⟩ : ∃ m, k = m + 1 := ⟨k - 1, by omega⟩
    rw [trustquorummake_Tape_Order.l0, if_neg (by omega), w64 (x := (n : Int) - 1) (by omega) (by omega)]
    obtain rfl : l.length = n := by omega
    by_cases h0 : l.length = 0
    · obtain rfl : l = [] := List.length_eq_zero_iff.1 h0
      obtain ⟨k, rfl⟩ : ∃ m, k = m + 1 := ⟨k - 1, by omega⟩
      exact ⟨[], p, by rw [trustquorummake_Tape_Order.l1, if_neg (by simp)], by simp, hs⟩
    · obtain ⟨l', p', h1, h2, h3⟩ := orderP_swap (l.length - 1) l p k hs (by omega) (by omega) (by omega)
      refine ⟨l', p', ?_, by rw [← hr]; exact h2, h3⟩
      rw [show (l.length : Int) - 1 = ((l.length - 1 : Nat) : Int) by omega]
      exact h1
  | succ r ih =>
    intro l p k hs hl hr hk
    obtain ⟨k, rfl⟩ : ∃ m, k = m + 1 := ⟨k - 1, by omega⟩
    obtain ⟨l', p', h1, h2, h3⟩ := ih (l ++ [(l.length : Int)]) p k hs (by rw [List.length_append]; simp only [List.length_cons, List.length_nil]; omega) (by
      rw [List.length_append, List.length_singleton, List.range_succ, List.map_append, ← hr]; rfl) (by omega)
    refine ⟨l', p', ?_, h2, h3⟩
    rw [trustquorummake_Tape_Order.l0, if_pos (by omega), if_pos (by omega), nx l.length (by omega)]
    rw [List.length_append] at h1
    exact h1
theorem orderP {L : List Int} {p : Int} {n : Nat} (h : St L p) (hn2 : n ≤ 100000) {k : Nat} (hk : 2 * n + 10 ≤ k) : ∃ l p', trustquorummake_Tape_Order.f k L p (n : Int) = some (l, p') ∧ l.Perm ((List.range n).map Int.ofNat) ∧ St L p' := by
  unfold trustquorummake_Tape_Order.f
  exact orderP_fill hn2 n [] p k h (by simp) (by simp) (by omega)
mutual
inductive Mix : S27 → S27 → Prop
  | mk {th : Int} {ns ns' : List Int} {inn mid inn' : List S27} : ns'.Perm ns → mid.Perm inn → MixL mid inn' → Mix ⟨th, ns, inn⟩ ⟨th, ns', inn'⟩
inductive MixL : List S27 → List S27 → Prop
  | nil : MixL [] []
  | cons {t t' : S27} {l l' : List S27} : Mix t t' → MixL l l' → MixL (t :: l) (t' :: l')
end
theorem MixL.length {l l' : List S27} (h : MixL l l') : l'.length = l.length := by
  induction l generalizing l' with
  | nil => cases h; rfl
  | cons t l ih => cases h with | cons _ h => rw [List.length_cons, List.length_cons, ih h]
theorem cntN_perm {l l' : List Int} (h : l.Perm l') (m : Nat) : cntN l m = cntN l' m := by
  induction h with
  | nil => rfl
  | cons x _ ih => rw [cntN, cntN, ih]
  | swap x y l => rw [cntN, cntN, cntN, cntN]; omega
  | trans _ _ a b => rw [a, b]
theorem satL_perm {l l' : List S27} (h : l.Perm l') (m : Nat) : satL l m = satL l' m := by
  induction h with
  | nil => rfl
  | cons x _ ih => rw [satL, satL, ih]
  | swap x y l => rw [satL, satL, satL, satL]; omega
  | trans _ _ a b => rw [a, b]
theorem fuL_perm {l l' : List S27} (h : l.Perm l') : fuL l = fuL l' := by
  induction h with
  | nil => rfl
  | cons x _ ih => rw [fuL, fuL, ih]
  | swap x y l => rw [fuL, fuL, fuL, fuL]; omega
  | trans _ _ a b => rw [a, b]
theorem sizL_perm {l l' : List S27} (h : l.Perm l') : ∀ c, sizL l c = sizL l' c := by
  induction h with
  | nil => intro c; rfl
  | cons x _ ih => intro c; rw [sizL, sizL, ih]
  | swap x y l => intro c; rw [sizL, sizL, sizL, sizL]; congr 1; omega
  | trans _ _ a b => intro c; rw [a, b]
theorem depL_perm {l l' : List S27} (h : l.Perm l') : ∀ c, depL l c = depL l' c := by
  induction h with
  | nil => intro c; rfl
  | cons x _ ih => intro c; rw [depL, depL, ih]
  | swap x y l => intro c; rw [depL, depL, depL, depL]; congr 1; unfold mx; (repeat' split) <;> omega
  | trans _ _ a b => intro c; rw [a, b]
theorem or_swap (m a b : Nat) : m ||| a ||| b = m ||| b ||| a := by rw [Nat.or_assoc, Nat.or_assoc, Nat.or_comm a b]
theorem useN_perm {l l' : List Int} (h : l.Perm l') : ∀ m, useN l m = useN l' m := by
  induction h with
  | nil => intro c; rfl
  | cons x _ ih => intro c; rw [useN, useN, ih]
  | swap x y l => intro c; rw [useN, useN, useN, useN]; congr 1; by_cases hx : 0 ≤ x ∧ x < 10 <;> by_cases hy : 0 ≤ y ∧ y < 10 <;> simp only [hx, hy, if_true, if_false, and_self, or_swap]
  | trans _ _ a b => intro c; rw [a, b]
theorem useL_perm {l l' : List S27} (h : l.Perm l') : ∀ m, useL l m = useL l' m := by
  induction h with
  | nil => intro c; rfl
  | cons x _ ih => intro c; rw [useL, useL, ih]
  | swap x y l => intro c; rw [useL, useL, useL, useL, or_swap]
  | trans _ _ a b => intro c; rw [a, b]
theorem tb_orpow (m : Nat) (i : Nat) (hi : i < 10) (k : Int) : tb (m ||| 2 ^ i) k = (tb m k || decide (k = (i : Int))) := by
  rw [tb_or]
  by_cases hk : k = (i : Int)
  · subst hk; rw [tb_pow i hi, decide_eq_true rfl]
  · rw [decide_eq_false hk]
    congr 1
    unfold tb
    rw [Nat.testBit_two_pow]
    by_cases h0 : 0 ≤ k
    · have : ¬ i = k.toNat := by omega
      rw [decide_eq_false this, Bool.and_false]
    · rw [decide_eq_false h0]; rfl
theorem ofR_ok (l : List Int) : ∀ m, (ofR l m).2 = 0 ↔ (∀ k ∈ l, 0 ≤ k ∧ k < 10 ∧ tb m k = false) ∧ l.Nodup := by
  induction l with
  | nil => intro m; rw [ofR]; simp
  | cons x l ih =>
    intro m
    rw [ofR]
    by_cases h0 : x < 0 ∨ 10 ≤ x
    · rw [if_pos h0]
      refine ⟨fun h => absurd h (by decide), fun h => ?_⟩
      have := h.1 x (List.mem_cons_self ..)
      omega
    · rw [if_neg h0]
      cases ht : tb m x
      · rw [if_neg (by decide), ih]
        obtain ⟨i, rfl⟩ := Int.eq_ofNat_of_zero_le (show 0 ≤ x by omega)
        have hi : i < 10 := by omega
        rw [Int.toNat_natCast]
        constructor
        · rintro ⟨h1, h2⟩
          refine ⟨fun k hk => ?_, List.nodup_cons.2 ⟨fun hx => ?_, h2⟩⟩
          · rcases List.mem_cons.1 hk with rfl | hk
            · exact ⟨by omega, by omega, ht⟩
            · obtain ⟨a, b, c⟩ := h1 k hk
              rw [tb_orpow m i hi, Bool.or_eq_false_iff] at c
              exact ⟨a, b, c.1⟩
          · obtain ⟨a, b, c⟩ := h1 _ hx
            rw [tb_orpow m i hi, decide_eq_true rfl, Bool.or_true] at c
            cases c
        · rintro ⟨h1, h2⟩
          obtain ⟨h3, h4⟩ := List.nodup_cons.1 h2
          refine ⟨fun k hk => ?_, h4⟩
          obtain ⟨a, b, c⟩ := h1 k (List.mem_cons_of_mem _ hk)
          refine ⟨a, b, ?_⟩
          rw [tb_orpow m i hi, c, decide_eq_false (show ¬ k = (i : Int) from fun e => h3 (e ▸ hk))]; rfl
      · rw [if_pos rfl]
        refine ⟨fun h => absurd h (by decide), fun h => ?_⟩
        have := (h.1 x (List.mem_cons_self ..)).2.2
        rw [ht] at this; cases this
theorem ofR_perm {l l' : List Int} (h : l.Perm l') (h0 : (ofR l' 0).2 = 0) : (ofR l 0).2 = 0 := by
  rw [ofR_ok] at h0 ⊢
  exact ⟨fun k hk => h0.1 k (h.mem_iff.1 hk), h.nodup_iff.2 h0.2⟩
theorem outR_perm {l l' : List Int} (h : l.Perm l') (h0 : outR l' = false) : outR l = false := by
  unfold outR at h0 ⊢
  rw [List.any_eq_false] at h0 ⊢
  exact fun x hx => h0 x (h.mem_iff.1 hx)
theorem chkL_all : ∀ l : List S27, chkL l = 0 ↔ ∀ t ∈ l, chkT t = 0
  | [] => by rw [chkL]; simp
  | t :: l => by
    rw [chkL]
    by_cases h : chkT t = 0
    · rw [if_pos h, chkL_all l]
      exact ⟨fun a x hx => by rcases List.mem_cons.1 hx with rfl | hx; exact h; exact a x hx, fun a x hx => a x (List.mem_cons_of_mem _ hx)⟩
    · rw [if_neg h]
      exact ⟨fun a => absurd a h, fun a => a t (List.mem_cons_self ..)⟩
theorem chkT_mk {th : Int} {ns : List Int} {inn : List S27} (h1 : 1 ≤ th) (h2 : th ≤ (ns.length : Int) + (inn.length : Int)) (h3 : outR ns = false) (h4 : (ofR ns 0).2 = 0) (h5 : chkL inn = 0) : chkT ⟨th, ns, inn⟩ = 0 := by
  rw [chkT, if_neg (by omega), h3, if_neg (by decide), if_pos h4]; exact h5
/-- What another order leaves as it is. -/
structure Alike (t t' : S27) : Prop where
  sat : ∀ m, satT t' m = satT t m
  dep : depT t' = depT t
  siz : sizT t' = sizT t
  use : useT t' = useT t
  chk : chkT t = 0 → chkT t' = 0
  fu : fuT t' = fuT t
theorem alike (N : Nat) : ∀ t t' : S27, fuT t ≤ N → Mix t t' → Alike t t' := by
  induction N with
  | zero => intro t t' h; rw [fuT_eq] at h; omega
  | succ N ih =>
    intro t t' h hm
    cases hm with
    | @mk th ns ns' inn mid inn' hn hi hl =>
      rw [fuT] at h
      have key : ∀ (mid inn' : List S27), fuL mid ≤ N → MixL mid inn' → (∀ m, satL inn' m = satL mid m) ∧ (∀ c, depL inn' c = depL mid c) ∧ (∀ c, sizL inn' c = sizL mid c) ∧ (∀ m, useL inn' m = useL mid m) ∧ (chkL mid = 0 → chkL inn' = 0) ∧ fuL inn' = fuL mid := by
        intro mid
        induction mid with
        | nil => intro inn' _ h; cases h; exact ⟨fun _ => rfl, fun _ => rfl, fun _ => rfl, fun _ => rfl, fun h => h, rfl⟩
        | cons t mid ihl =>
          intro inn' hf h
          cases h with
          | cons h1 h2 =>
            rw [fuL] at hf
            have a := ih _ _ (by omega) h1
            obtain ⟨b1, b2, b3, b4, b5, b6⟩ := ihl _ (by omega) h2
            refine ⟨fun m => by rw [satL, satL, b1, a.sat], fun c => by rw [depL, depL, b2, a.dep], fun c => by rw [sizL, sizL, b3, a.siz], fun m => by rw [useL, useL, b4, a.use], fun hc => ?_, by rw [fuL, fuL, b6, a.fu]⟩
            obtain ⟨c1, c2⟩ := chkL_cons hc
            rw [chkL, if_pos (a.chk c1)]; exact b5 c2
      have hfm := fuL_perm hi
      obtain ⟨b1, b2, b3, b4, b5, b6⟩ := key mid inn' (by omega) hl
      have hlen : inn'.length = inn.length := by rw [hl.length, hi.length_eq]
      refine ⟨fun m => by rw [satT, satT, b1, satL_perm hi, cntN_perm hn], by rw [depT, depT, b2, depL_perm hi], by rw [sizT, sizT, b3, sizL_perm hi, hlen, hn.length_eq], by rw [useT, useT, b4, useL_perm hi, useN_perm hn], fun hc => ?_, by rw [fuT, fuT, b6, hfm, hn.length_eq]⟩
      obtain ⟨c1, c2, c3, c4, c5⟩ := chkT_ok hc
      refine chkT_mk c1 (by rw [hlen, hn.length_eq]; exact c2) (outR_perm hn c3) (ofR_perm hn c4) (b5 ?_)
      rw [chkL_all] at c5 ⊢
      exact fun t ht => c5 t (hi.mem_iff.1 ht)
theorem fuL_3 : ∀ l : List S27, 3 * l.length ≤ fuL l
  | [] => Nat.zero_le _
  | x :: l => by have := fuL_3 l; rw [fuL, List.length_cons]; omega
theorem fuL_mem {t : S27} : ∀ {l : List S27}, t ∈ l → fuT t + 3 * l.length ≤ fuL l
  | x :: l, h => by
    rw [fuL, List.length_cons]
    rcases List.mem_cons.1 h with rfl | h
    · have := fuL_3 l; omega
    · have := fuL_mem h; omega
theorem rdS_map (l : List S27) : ((List.range l.length).map Int.ofNat).map (rd_T27 l) = l := by
  apply List.ext_getElem
  · simp
  · intro i h1 h2
    rw [List.getElem_map, List.getElem_map, List.getElem_range]
    exact rdS_at l i h2
theorem rdN_map (l : List Int) : ((List.range l.length).map Int.ofNat).map (rd l) = l := by
  apply List.ext_getElem
  · simp
  · intro i h1 h2
    rw [List.getElem_map, List.getElem_map, List.getElem_range]
    exact rd_at l i h2
theorem MixL.snoc {t t' : S27} (ht : Mix t t') : ∀ {l l' : List S27}, MixL l l' → MixL (l ++ [t]) (l' ++ [t'])
  | _, _, .nil => .cons ht .nil
  | _, _, .cons h1 h2 => .cons h1 (MixL.snoc ht h2)
theorem below_mem {o : List Int} {n : Nat} (ho : o.Perm ((List.range n).map Int.ofNat)) : ∀ x ∈ o, 0 ≤ x ∧ x < (n : Int) := by
  intro x hx
  obtain ⟨i, hi, rfl⟩ := List.mem_map.1 (ho.mem_iff.1 hx)
  rw [List.mem_range] at hi
  exact ⟨Int.natCast_nonneg i, Int.ofNat_lt.2 hi⟩
theorem mixed_eq {L : List Int} (N : Nat) : ∀ (t : S27) (p : Int) (k : Nat), fuT t ≤ N → fuT t ≤ 6000 → St L p → 4 * fuT t + 40 ≤ k → ∃ th ns inn p', trustquorumlaw02_mixed.f k L p t.f0 t.f1 t.f2 = some (th, ns, inn, p') ∧ Mix t ⟨th, ns, inn⟩ ∧ St L p' := by
  induction N with
  | zero => intro t p k h; rw [fuT_eq] at h; omega
  | succ N ih =>
    intro t p k h hb hs hk
    obtain ⟨th, ns, inn⟩ := t
    rw [fuT] at h hb hk
    have hl := fuL_len inn
    obtain ⟨k, rfl⟩ : ∃ q, k = q + 1 := ⟨k - 1, by omega⟩
    obtain ⟨o, p1, h1, ho, s1⟩ := orderP (n := ns.length) hs (by omega) (k := k) (by omega)
    have hol : o.length = ns.length := by rw [ho.length_eq]; simp
    have hom := below_mem ho
    have hns : (o.map (rd ns)).Perm ns := by have := ho.map (rd ns); rwa [rdN_map] at this
    have tail : ∀ k, 4 * fuL inn + 60 ≤ k → ∃ th' ns' inn' p', trustquorumlaw02_mixed.l0 k o (o.length : Int) (o.length : Int) L p1 th ns inn th (o.map (rd ns)) = some (th', ns', inn', p') ∧ Mix ⟨th, ns, inn⟩ ⟨th', ns', inn'⟩ ∧ St L p' := by
      intro k hk
      obtain ⟨k, rfl⟩ : ∃ q, k = q + 1 := ⟨k - 1, by omega⟩
      obtain ⟨q, p2, h2, hq, s2⟩ := orderP (n := inn.length) s1 (by omega) (k := k) (by omega)
      have hql : q.length = inn.length := by rw [hq.length_eq]; simp
      have hqm := below_mem hq
      have hmid : (q.map (rd_T27 inn)).Perm inn := by have := hq.map (rd_T27 inn); rwa [rdS_map] at this
      have loop : ∀ (r s : Nat) (p : Int) (k : Nat) (ys : List S27), s + r = q.length → MixL ((q.map (rd_T27 inn)).take s) ys → ys.length = s → St L p → r + 4 * fuL inn + 45 ≤ k + inn.length → ∃ inn' p', trustquorumlaw02_mixed.l1 k q (q.length : Int) (s : Int) L p th ns inn th (o.map (rd ns)) ys = some (th, o.map (rd ns), inn', p') ∧ MixL (q.map (rd_T27 inn)) inn' ∧ St L p' := by
        intro r
        induction r with
        | zero =>
          intro s p k ys h1 h2 h3 hs hk
          obtain ⟨k, rfl⟩ : ∃ m, k = m + 1 := ⟨k - 1, by omega⟩
          rw [trustquorumlaw02_mixed.l1, if_neg (by omega)]
          refine ⟨ys, p, rfl, ?_, hs⟩
          rwa [List.take_of_length_le (by rw [List.length_map]; omega)] at h2
        | succ r ihr =>
          intro s p k ys h1 h2 h3 hs hk
          obtain ⟨k, rfl⟩ : ∃ m, k = m + 1 := ⟨k - 1, by omega⟩
          have hsl : s < q.length := by omega
          have hm := hqm q[s] (List.getElem_mem hsl)
          obtain ⟨i, hi⟩ := Int.eq_ofNat_of_zero_le hm.1
          have hil : i < inn.length := by omega
          have hfi := fuL_mem (List.getElem_mem hil)
          obtain ⟨a, b, c, p', h5, h6, s6⟩ := ih inn[i] p k (by omega) (by omega) hs (by omega)
          rw [trustquorumlaw02_mixed.l1, if_pos (by omega), if_pos (by omega), if_pos (by omega), rd_at q s hsl, hi, if_pos (by omega), if_pos (by omega), rdS_at inn i hil, h5]
          simp only [Option.bind_some]
          rw [if_pos (by omega), nx s (by omega)]
          refine ihr (s + 1) p' k _ (by omega) ?_ (by rw [List.length_append, h3]; rfl) s6 (by omega)
          rw [List.take_succ_eq_append_getElem (by rw [List.length_map]; exact hsl), List.getElem_map, hi, rdS_at inn i hil]
          exact MixL.snoc h6 h2
      rw [trustquorumlaw02_mixed.l0, if_neg (by omega), h2]
      simp only [Option.bind_some]
      obtain ⟨inn', p', h7, h8, s8⟩ := loop q.length 0 p2 k [] (by omega) (by rw [List.take_zero]; exact .nil) rfl s2 (by omega)
      exact ⟨_, _, inn', p', h7, .mk hns hmid h8, s8⟩
    have nodes : ∀ (r s k : Nat), s + r = o.length → r + 4 * fuL inn + 60 ≤ k → ∃ th' ns' inn' p', trustquorumlaw02_mixed.l0 k o (o.length : Int) (s : Int) L p1 th ns inn th ((o.map (rd ns)).take s) = some (th', ns', inn', p') ∧ Mix ⟨th, ns, inn⟩ ⟨th', ns', inn'⟩ ∧ St L p' := by
      intro r
      induction r with
      | zero =>
        intro s k h1 hk
        rw [List.take_of_length_le (by rw [List.length_map]; omega), show (s : Int) = (o.length : Int) by omega]
        exact tail k (by omega)
      | succ r ihr =>
        intro s k h1 hk
        obtain ⟨k, rfl⟩ : ∃ m, k = m + 1 := ⟨k - 1, by omega⟩
        have hsl : s < o.length := by omega
        have hm := hom o[s] (List.getElem_mem hsl)
        obtain ⟨x1, x2, x3, x4, h5, h6⟩ := ihr (s + 1) k (by omega) (by omega)
        refine ⟨x1, x2, x3, x4, ?_, h6⟩
        rw [trustquorumlaw02_mixed.l0, if_pos (by omega), if_pos (by omega), if_pos (by omega), rd_at o s hsl, if_pos hm.1, if_pos hm.2, if_pos (by rw [List.length_take]; omega), nx s (by omega)]
        rw [List.take_succ_eq_append_getElem (by rw [List.length_map]; exact hsl), List.getElem_map] at h5
        exact h5
    show ∃ th' ns' inn' p', trustquorumlaw02_mixed.f (k + 1) L p th ns inn = _ ∧ _
    rw [trustquorumlaw02_mixed.f, h1]
    simp only [Option.bind_some]
    have := nodes o.length 0 k (by omega) (by omega)
    rw [List.take_zero] at this
    exact this

theorem order_loop {L : List Int} (t t' : S27) (hf : fuT t ≤ 5800) (hc : chkT t = 0) (hd : depT t ≤ 4) (hz : sizT t ≤ 200) (ha : Alike t t') (r : Nat) : ∀ (s : Nat) (p : Int) (k : Nat), St L p → s + r = 10 → 7000 + r ≤ k →
    trustquorumlaw02_ThresholdOrder.l0 k (s : Int) L p t.f0 t.f1 t.f2 t'.f0 t'.f1 t'.f2 = some true := by
  have fd := ha.fu
  induction r with
  | zero =>
    intro s p k hs h1 hk
    obtain ⟨k, rfl⟩ : ∃ q, k = q + 1 := ⟨k - 1, by omega⟩
    have v := valid_eq t' (k := k) (by omega) (by omega)
    rw [valT_ok (ha.chk hc) (by rw [ha.dep]; exact hd) (by rw [ha.siz]; exact hz)] at v
    rw [trustquorumlaw02_ThresholdOrder.l0, if_neg (by omega), threshold_Size_eq _ t k (Nat.le_refl _) (by omega) (by omega), threshold_Size_eq _ t' k (Nat.le_refl _) (by omega) (by omega), ha.siz]
    simp only [Option.bind_some, if_true]
    rw [uses_eq _ t k (Nat.le_refl _) (by omega) (by omega), uses_eq _ t' k (Nat.le_refl _) (by omega) (by omega), ha.use]
    simp only [Option.bind_some, if_true]
    rw [threshold_Depth_eq _ t k (Nat.le_refl _) (by omega) (by omega), threshold_Depth_eq _ t' k (Nat.le_refl _) (by omega) (by omega), ha.dep]
    simp only [Option.bind_some, if_true]
    rw [v]
    simp only [Option.bind_some, if_true]
    rw [awake_eq (by omega)]; rfl
  | succ r ih =>
    intro s p k hs h1 hk
    obtain ⟨k, rfl⟩ : ∃ q, k = q + 1 := ⟨k - 1, by omega⟩
    obtain ⟨x, p', hx, x0, x1, hs'⟩ := N_eq (n := 1024) hs (by omega) (by omega)
    obtain ⟨x, rfl⟩ := Int.eq_ofNat_of_zero_le x0
    rw [trustquorumlaw02_ThresholdOrder.l0, if_pos (by omega), hx]
    simp only [Option.bind_some]
    rw [satisfied_eq t x (by omega) (by omega) (by omega), satisfied_eq t' x (by omega) (by omega) (by omega), blocked_eq t x (by omega) (by omega) (by omega), blocked_eq t' x (by omega) (by omega) (by omega), ha.sat, ha.sat]
    simp only [Option.bind_some]
    rw [bne_self_eq_false, bne_self_eq_false, if_neg (by decide), if_neg (by decide), nx s (by omega)]
    exact ih (s + 1) p' k hs' (by omega) (by omega)
theorem ThresholdOrder : trustquorumlaw02_ThresholdOrder.Pure := by
  intro l0 _ _ _
  obtain ⟨L, hL, s0⟩ := New_eq l0
  obtain ⟨n, p1, h1, n0, n1, s1⟩ := Range_eq (a := 1) (b := 10) s0 (by omega) (by omega) (by omega)
  obtain ⟨K, hK⟩ : ∃ K, 40000 ≤ K := ⟨40000, Nat.le_refl _⟩
  obtain ⟨th, ns, inn, p2, h2, hf, hc, hd, hz, s2⟩ := Trust_eq s1 n0 n1 3 (by omega) (k := K) (by omega)
  obtain ⟨th', ns', inn', p3, h3, hm, s3⟩ := mixed_eq _ (⟨th, ns, inn⟩ : S27) p2 K (Nat.le_refl _) (by omega) s2 (by omega)
  have ha := alike _ _ _ (Nat.le_refl _) hm
  refine ⟨K, ?_⟩
  simp only at h3
  unfold trustquorumlaw02_ThresholdOrder.f
  rw [hL]; simp only [Option.bind_some]
  rw [h1]; simp only [Option.bind_some]
  rw [show (3 : Int) = ((3 : Nat) : Int) from rfl, h2]; simp only [Option.bind_some]
  rw [h3]; simp only [Option.bind_some]
  exact order_loop ⟨th, ns, inn⟩ ⟨th', ns', inn'⟩ hf hc hd hz ha 10 0 p3 K s3 (by omega) (by omega)

end Go.Proofs.Yteljoemeogeidaa.Pure
