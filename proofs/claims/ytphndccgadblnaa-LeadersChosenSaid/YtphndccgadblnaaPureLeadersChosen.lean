/- For every list of numbers, the leader is a neighbour, no neighbour has a greater hash, and it is the node itself or one that its trust uses: the statement over numbers and lists that the row asks. No condition. -/
import Derived.Test.YtphndccgadblnaaQLeadersChosenx10
import Derived.OpenShut
set_option linter.unusedSimpArgs false
set_option linter.unusedVariables false
namespace Go.Proofs.Ytphndccgadblnaa.Pure
open Go.RowKit Go.Proofs.Ytphndccgadblnaa.QLeadersChosen Go.Proofs.YtphndccgadblnaaW.PrintWords Go.Proofs.YtphndccgadblnaaW.PrintLast Go.Proofs.YtphndccgadblnaaW.PrintMore

-- numbers, bits of sets, and the source of numbers
theorem w64 {x : Int} (h : -9223372036854775808 ≤ x) (h' : x ≤ 9223372036854775807) : wrap64 x = x := by unfold wrap64; omega
structure St (L : List Int) (p : Int) : Prop where
  len : L.length ≤ 400
  lo : 0 ≤ p
  hi : p ≤ 400
theorem New_eq (l : List Int) : ∃ L, trustquorummake_New.f l = some (L, 0) ∧ St L 0 := by
  unfold trustquorummake_New.f
  have h0 : 0 ≤ mn (l.length : Int) 400 := by unfold mn; split <;> omega
  have h1 : mn (l.length : Int) 400 ≤ l.length := by unfold mn; split <;> omega
  have h2 : mn (l.length : Int) 400 ≤ 400 := by unfold mn; split <;> omega
  rw [if_pos h0, if_pos h1]
  refine ⟨_, rfl, ⟨?_, by omega, by omega⟩⟩
  rw [List.length_take]; omega
theorem N_eq {L : List Int} {p n : Int} (h : St L p) (hn : 1 ≤ n) (hn2 : n ≤ 1000000) : ∃ r p', trustquorummake_Tape_N.f L p n = some (r, p') ∧ 0 ≤ r ∧ r < n ∧ St L p' := by
  unfold trustquorummake_Tape_N.f
  by_cases h1 : p ≥ (L.length : Int)
  · exact ⟨0, p, by rw [if_pos h1], by omega, by omega, h⟩
  · have hp : p < L.length := by omega
    have h3 := h.len
    have h4 := h.lo
    have e1 : wrap64 (p + 1) = p + 1 := w64 (by omega) (by omega)
    have b1 := Int.tmod_lt_of_pos (rd L p) (show 0 < n by omega)
    have b2 := Int.lt_tmod_of_pos (rd L p) (show 0 < n by omega)
    rw [if_neg h1, if_pos h.lo, if_pos hp, if_neg (by omega), e1]
    by_cases h5 : Int.tmod (rd L p) n < 0
    · rw [if_pos h5, w64 (by omega) (by omega)]
      exact ⟨_, _, rfl, by omega, by omega, ⟨h.len, by omega, by omega⟩⟩
    · rw [if_neg h5]
      exact ⟨_, _, rfl, by omega, by omega, ⟨h.len, by omega, by omega⟩⟩
theorem Range_eq {L : List Int} {p a b : Int} (h : St L p) (ha : -1000 ≤ a) (hab : a ≤ b) (hb : b ≤ 100000) : ∃ r p', trustquorummake_Tape_Range.f L p a b = some (r, p') ∧ a ≤ r ∧ r ≤ b ∧ St L p' := by
  have e1 : wrap64 (b - a) = b - a := w64 (by omega) (by omega)
  have e2 : wrap64 (b - a + 1) = b - a + 1 := w64 (by omega) (by omega)
  obtain ⟨r, p', hr, h0, h1, hs⟩ := N_eq (n := b - a + 1) h (by omega) (by omega)
  refine ⟨a + r, p', ?_, by omega, by omega, hs⟩
  unfold trustquorummake_Tape_Range.f
  rw [e1, e2, hr]
  simp only [Option.bind_some]
  rw [w64 (x := a + r) (by omega) (by omega)]
theorem rd_at (l : List Int) (s : Nat) (h : s < l.length) : rd l (s : Int) = l[s]'h := by unfold rd; simp [List.getD, h]
theorem rdS_at (l : List S27) (s : Nat) (h : s < l.length) : rd_T27 l (s : Int) = l[s]'h := by unfold rd_T27; simp [List.getD, h]
theorem nx (s : Nat) (h : s ≤ 10000000) : wrap64 ((s : Int) + 1) = ((s + 1 : Nat) : Int) := by rw [w64 (by omega) (by omega)]; omega
/-- is node k in the set m -/
def tb (m : Nat) (k : Int) : Bool := decide (0 ≤ k) && decide (k < 10) && m.testBit k.toNat
theorem shl_eq : ∀ i, i < 10 → shl .i64 1 ((i : Nat) : Int) = ((2 ^ i : Nat) : Int) := by decide +kernel
theorem wr10 (n : Int) (h0 : 0 ≤ n) (h1 : n < 2 ^ 10) : IntKind.i64.wrap n = n := by rw [IntKind.wrap_i64]; omega
theorem and_eq (a b : Nat) (ha : a < 1024) (hb : b < 1024) : Go.bits .and .i64 (a : Int) (b : Int) = ((a &&& b : Nat) : Int) := (bits_nat .i64 10 (by decide) wr10 a b ha hb).1
theorem or_eq (a b : Nat) (ha : a < 1024) (hb : b < 1024) : Go.bits .or .i64 (a : Int) (b : Int) = ((a ||| b : Nat) : Int) := (bits_nat .i64 10 (by decide) wr10 a b ha hb).2
theorem pow_lt (i : Nat) (h : i < 10) : 2 ^ i < 1024 := by
  have : 2 ^ i < 2 ^ 10 := Nat.pow_lt_pow_right (by decide) h
  omega
theorem shr_eq (m i : Nat) (hi : i < 10) : shr .i64 (m : Int) (i : Int) = ((m / 2 ^ i : Nat) : Int) := by
  unfold shr
  have e : min ((i : Int)).toNat IntKind.i64.bits = i := by
    have : IntKind.i64.bits = 64 := by decide
    rw [this]; omega
  rw [e]; simp
theorem has_ref (m : Nat) (hm : m < 1024) (k : Int) : trustquorumref01_Has.f (m : Int) k = some (tb m k) := by
  unfold trustquorumref01_Has.f trustquorumref01_Valid.f tb
  rw [if_pos (by omega), decide_eq_true (show (m : Int) ≤ 1023 by omega)]
  simp only [Option.bind_some, if_true]
  by_cases h0 : k ≥ 0
  · rw [if_pos h0]
    by_cases h1 : k < 10
    · obtain ⟨i, rfl⟩ := Int.eq_ofNat_of_zero_le h0
      have hd : m / 2 ^ i < 1024 := Nat.lt_of_le_of_lt (Nat.div_le_self _ _) hm
      have a1 := and_eq (m / 2 ^ i) 1 hd (by omega)
      rw [if_pos h1, if_pos h0, shr_eq m i (by omega)]
      rw [show ((1 : Nat) : Int) = 1 from rfl] at a1
      rw [a1, decide_eq_true (show 0 ≤ (i : Int) by omega), decide_eq_true h1, Int.toNat_natCast, Nat.and_one_is_mod, Nat.testBit_eq_decide_div_mod_eq]
      congr 1
      simp only [Bool.true_and]
      by_cases h : m / 2 ^ i % 2 = 1
      · rw [h]; rfl
      · rw [decide_eq_false h, beq_eq_false_iff_ne]; omega
    · rw [if_neg h1, decide_eq_false h1]; simp
  · rw [if_neg h0, decide_eq_false (show ¬ 0 ≤ k by omega)]; simp

theorem shl10 : shl .i64 1 10 = 1024 := by decide +kernel
theorem nsValid_eq (a : Int) : nodeset_Valid.f a = some (decide (0 ≤ a ∧ a < 1024)) := by
  unfold nodeset_Valid.f nodeset_below.f
  rw [shl10]
  by_cases h : a ≥ 0
  · rw [if_pos h, if_pos (by omega)]
    simp only [Option.bind_some]
    congr 1; rw [decide_eq_decide]; omega
  · rw [if_neg h]
    simp only [Option.bind_some]
    congr 1; rw [eq_comm, decide_eq_false_iff_not]; omega
theorem and_pow (m i : Nat) : (((m &&& 2 ^ i : Nat) : Int) != 0) = m.testBit i := by
  cases h : m.testBit i
  · have e : m &&& 2 ^ i = 0 := by
      apply Nat.eq_of_testBit_eq
      intro j
      rw [Nat.testBit_and, Nat.testBit_two_pow, Nat.zero_testBit]
      by_cases hj : i = j
      · subst hj; rw [h]; rfl
      · rw [decide_eq_false hj, Bool.and_false]
    rw [e]; rfl
  · rw [bne_iff_ne]
    intro e
    have e2 : m &&& 2 ^ i = 0 := by omega
    have h2 := congrArg (fun x : Nat => x.testBit i) e2
    simp only [Nat.testBit_and, Nat.testBit_two_pow, Nat.zero_testBit, h, decide_true, Bool.and_true] at h2
    cases h2
theorem has_eq (m : Nat) (hm : m < 1024) (k : Int) : nodeset_Has.f (m : Int) k = some (tb m k) := by
  unfold nodeset_Has.f tb
  rw [nsValid_eq, decide_eq_true (show 0 ≤ (m : Int) ∧ (m : Int) < 1024 by omega)]
  simp only [Option.bind_some, if_true]
  by_cases h0 : k ≥ 0
  · rw [if_pos h0]
    by_cases h1 : k < 10
    · obtain ⟨i, rfl⟩ := Int.eq_ofNat_of_zero_le h0
      rw [if_pos h1, if_pos h0, shl_eq i (by omega), and_eq m (2 ^ i) hm (pow_lt i (by omega)), decide_eq_true (show 0 ≤ (i : Int) by omega), decide_eq_true h1, Int.toNat_natCast, and_pow]
      rfl
    · rw [if_neg h1, decide_eq_false h1]; simp
  · rw [if_neg h0, decide_eq_false (show ¬ 0 ≤ k by omega)]; simp

-- trees of trusts: a bound on rounds, and what the functions say
mutual
def fuT : S27 → Nat
  | ⟨_, ns, inn⟩ => 10 + 3 * ns.length + fuL inn
def fuL : List S27 → Nat
  | [] => 0
  | t :: l => 3 + fuT t + fuL l
end
theorem fuT_eq (t : S27) : fuT t = 10 + 3 * t.f1.length + fuL t.f2 := by cases t; rw [fuT]
theorem fuL_drop (l : List S27) (s : Nat) (h : s < l.length) : fuL (l.drop s) = 3 + fuT (l[s]'h) + fuL (l.drop (s + 1)) := by rw [List.drop_eq_getElem_cons h, fuL]
theorem fuL_len : ∀ l : List S27, l.length ≤ fuL l
  | [] => Nat.le_refl _
  | t :: l => by have := fuL_len l; rw [fuL, List.length_cons]; omega
theorem fuL_le (l : List S27) (s : Nat) : fuL (l.drop s) ≤ fuL l := by
  induction l generalizing s with
  | nil => rw [List.drop_nil]; exact Nat.le_refl _
  | cons t l ih =>
    cases s with
    | zero => exact Nat.le_refl _
    | succ s => rw [List.drop_succ_cons, fuL]; have := ih s; omega
mutual
def depT : S27 → Int
  | ⟨_, _, inn⟩ => depL inn 0 + 1
def depL : List S27 → Int → Int
  | [], c => c
  | t :: l, c => depL l (mx c (depT t))
end
mutual
def sizT : S27 → Int
  | ⟨_, ns, inn⟩ => sizL inn ((ns.length : Int) + (inn.length : Int))
def sizL : List S27 → Int → Int
  | [], c => c
  | t :: l, c => sizL l (c + sizT t)
end
def ofR : List Int → Nat → Int × Int
  | [], m => ((m : Int), 0)
  | k :: l, m => if k < 0 ∨ 10 ≤ k then (0, 5) else if tb m k = true then (0, 6) else ofR l (m ||| 2 ^ k.toNat)
def outR (ns : List Int) : Bool := ns.any fun k => decide (k < 0 ∨ 10 ≤ k)
mutual
def chkT : S27 → Int
  | ⟨th, ns, inn⟩ => if th < 1 ∨ th > (ns.length : Int) + (inn.length : Int) then 4 else if outR ns = true then 5 else if (ofR ns 0).2 = 0 then chkL inn else (ofR ns 0).2
def chkL : List S27 → Int
  | [] => 0
  | t :: l => if chkT t = 0 then chkL l else chkT t
end
def valT (t : S27) : Int := if depT t > 4 then 3 else if sizT t > 200 then 3 else chkT t
theorem dep_bd (N : Nat) : ∀ t : S27, fuT t ≤ N → 0 ≤ depT t ∧ depT t ≤ fuT t := by
  induction N with
  | zero => intro t h; rw [fuT_eq] at h; omega
  | succ N ih =>
    intro t h
    have key : ∀ (l : List S27) (c : Int), fuL l ≤ N → 0 ≤ c → 0 ≤ depL l c ∧ depL l c ≤ c + fuL l := by
      intro l
      induction l with
      | nil => intro c _ hc; rw [depL, fuL]; omega
      | cons x l ihl =>
        intro c hf hc
        rw [fuL] at hf
        obtain ⟨a, b⟩ := ih x (by omega)
        have hm : 0 ≤ mx c (depT x) ∧ mx c (depT x) ≤ c + fuT x := by unfold mx; split <;> omega
        obtain ⟨a', b'⟩ := ihl (mx c (depT x)) (by omega) hm.1
        rw [depL, fuL]; omega
    obtain ⟨th, ns, inn⟩ := t
    rw [fuT] at h ⊢
    have := key inn 0 (by omega) (by omega)
    rw [depT]; omega
theorem siz_bd (N : Nat) : ∀ t : S27, fuT t ≤ N → 0 ≤ sizT t ∧ sizT t ≤ 2 * fuT t := by
  induction N with
  | zero => intro t h; rw [fuT_eq] at h; omega
  | succ N ih =>
    intro t h
    have key : ∀ (l : List S27) (c : Int), fuL l ≤ N → 0 ≤ c → 0 ≤ sizL l c ∧ sizL l c ≤ c + 2 * fuL l - l.length := by
      intro l
      induction l with
      | nil => intro c _ hc; rw [sizL, fuL]; simp only [List.length_nil]; omega
      | cons x l ihl =>
        intro c hf hc
        rw [fuL] at hf
        obtain ⟨a, b⟩ := ih x (by omega)
        obtain ⟨a', b'⟩ := ihl (c + sizT x) (by omega) (by omega)
        rw [sizL, fuL, List.length_cons]; omega
    obtain ⟨th, ns, inn⟩ := t
    rw [fuT] at h ⊢
    have := key inn (ns.length + inn.length) (by omega) (by omega)
    rw [sizT]; omega

theorem trustquorumref02_Size_eq (N : Nat) : ∀ (t : S27) (k : Nat), fuT t ≤ N → fuT t ≤ 1000000 → fuT t ≤ k → trustquorumref02_Size.f k t.f0 t.f1 t.f2 = some (sizT t) := by
  induction N with
  | zero => intro t k h; rw [fuT_eq] at h; omega
  | succ N ih =>
    intro t k h hb hk
    obtain ⟨th, ns, inn⟩ := t
    rw [fuT] at h hb hk
    have hl := fuL_len inn
    have key : ∀ (r s : Nat) (c : Int) (k : Nat), s + r = inn.length → fuL (inn.drop s) + 2 ≤ k → 0 ≤ c → c + 2 * fuL (inn.drop s) ≤ 10000000 → trustquorumref02_Size.l0 k c inn (inn.length : Int) (s : Int) = some (sizL (inn.drop s) c) := by
      intro r
      induction r with
      | zero =>
        intro s c k h1 hk _ _
        obtain ⟨k, rfl⟩ : ∃ m, k = m + 1 := ⟨k - 1, by omega⟩
        rw [trustquorumref02_Size.l0, if_neg (by omega), List.drop_of_length_le (by omega), sizL]
      | succ r ihr =>
        intro s c k h1 hk hc0 hc1
        obtain ⟨k, rfl⟩ : ∃ m, k = m + 1 := ⟨k - 1, by omega⟩
        have hs : s < inn.length := by omega
        have hd := fuL_drop inn s hs
        have hle := fuL_le inn s
        have hb2 := siz_bd _ inn[s] (Nat.le_refl _)
        rw [trustquorumref02_Size.l0, if_pos (by omega), if_pos (by omega), if_pos (by omega), rdS_at inn s hs, ih inn[s] k (by omega) (by omega) (by omega)]
        simp only [Option.bind_some]
        rw [w64 (x := c + sizT inn[s]) (by omega) (by omega), nx s (by omega), ihr (s + 1) (c + sizT inn[s]) k (by omega) (by omega) (by omega) (by omega), List.drop_eq_getElem_cons hs, sizL]
    obtain ⟨k, rfl⟩ : ∃ m, k = m + 1 := ⟨k - 1, by omega⟩
    show trustquorumref02_Size.f (k + 1) th ns inn = _
    rw [trustquorumref02_Size.f, w64 (by omega) (by omega), sizT]
    exact key inn.length 0 _ k (by omega) (by rw [List.drop_zero]; omega) (by omega) (by rw [List.drop_zero]; omega)

theorem trustquorumref02_Depth_eq (N : Nat) : ∀ (t : S27) (k : Nat), fuT t ≤ N → fuT t ≤ 1000000 → fuT t ≤ k → trustquorumref02_Depth.f k t.f0 t.f1 t.f2 = some (depT t) := by
  induction N with
  | zero => intro t k h; rw [fuT_eq] at h; omega
  | succ N ih =>
    intro t k h hb hk
    obtain ⟨th, ns, inn⟩ := t
    rw [fuT] at h hb hk
    have hl := fuL_len inn
    have key : ∀ (r s : Nat) (c : Int) (k : Nat), s + r = inn.length → fuL (inn.drop s) + 2 ≤ k → 0 ≤ c → c + fuL (inn.drop s) ≤ 10000000 → trustquorumref02_Depth.l0 k c inn (inn.length : Int) (s : Int) = some (depL (inn.drop s) c + 1) := by
      intro r
      induction r with
      | zero =>
        intro s c k h1 hk hc0 hc1
        obtain ⟨k, rfl⟩ : ∃ m, k = m + 1 := ⟨k - 1, by omega⟩
        rw [trustquorumref02_Depth.l0, if_neg (by omega), List.drop_of_length_le (by omega), depL, w64 (by omega) (by omega)]
      | succ r ihr =>
        intro s c k h1 hk hc0 hc1
        obtain ⟨k, rfl⟩ : ∃ m, k = m + 1 := ⟨k - 1, by omega⟩
        have hs : s < inn.length := by omega
        have hd := fuL_drop inn s hs
        have hle := fuL_le inn s
        have hb2 := dep_bd _ inn[s] (Nat.le_refl _)
        have hm : 0 ≤ mx c (depT inn[s]) ∧ mx c (depT inn[s]) ≤ c + fuT inn[s] := by unfold mx; split <;> omega
        rw [trustquorumref02_Depth.l0, if_pos (by omega), if_pos (by omega), if_pos (by omega), rdS_at inn s hs, ih inn[s] k (by omega) (by omega) (by omega)]
        simp only [Option.bind_some]
        rw [nx s (by omega), ihr (s + 1) (mx c (depT inn[s])) k (by omega) (by omega) (by omega) (by omega), List.drop_eq_getElem_cons hs, depL]
    obtain ⟨k, rfl⟩ : ∃ m, k = m + 1 := ⟨k - 1, by omega⟩
    show trustquorumref02_Depth.f (k + 1) th ns inn = _
    rw [trustquorumref02_Depth.f, depT]
    exact key inn.length 0 0 k (by omega) (by rw [List.drop_zero]; omega) (by omega) (by rw [List.drop_zero]; omega)

theorem trustquorumref01_Of_loop (l : List Int) (hl : l.length ≤ 1000000) (r : Nat) : ∀ (s m k : Nat), s + r = l.length → m < 1024 → 2 * r + 2 ≤ k → trustquorumref01_Of.l0 k (m : Int) l (l.length : Int) (s : Int) = some (ofR (l.drop s) m) := by
  induction r with
  | zero =>
    intro s m k h1 hm hk
    obtain ⟨k, rfl⟩ : ∃ q, k = q + 1 := ⟨k - 1, by omega⟩
    rw [trustquorumref01_Of.l0, if_neg (by omega), List.drop_of_length_le (by omega), ofR]
  | succ r ih =>
    intro s m k h1 hm hk
    obtain ⟨k, rfl⟩ : ∃ q, k = q + 2 := ⟨k - 2, by omega⟩
    have hs : s < l.length := by omega
    show trustquorumref01_Of.l0 ((k + 1) + 1) _ _ _ _ = _
    rw [trustquorumref01_Of.l0, if_pos (by omega), if_pos (by omega), if_pos (by omega), rd_at l s hs, List.drop_eq_getElem_cons hs, ofR]
    generalize l[s] = x
    by_cases h0 : x < 0
    · rw [if_pos h0, trustquorumref01_Of.j1, if_pos rfl, if_pos (.inl h0)]
    · rw [if_neg h0, trustquorumref01_Of.j1]
      by_cases h2 : x ≥ 10
      · rw [if_pos (decide_eq_true h2), if_pos (.inr h2)]
      · rw [if_neg (by rw [decide_eq_true_eq]; exact h2), if_neg (show ¬ (x < 0 ∨ 10 ≤ x) by omega), has_ref m hm x]
        simp only [Option.bind_some]
        cases ht : tb m x
        · simp only [Bool.false_eq_true, if_false]
          obtain ⟨i, rfl⟩ := Int.eq_ofNat_of_zero_le (show 0 ≤ x by omega)
          have hp := pow_lt i (by omega)
          rw [if_pos (show 0 ≤ (i : Int) by omega), shl_eq i (by omega), or_eq m (2 ^ i) hm hp, nx s (by omega), Int.toNat_natCast]
          exact ih (s + 1) (m ||| 2 ^ i) k (by omega) (Nat.or_lt_two_pow (n := 10) hm hp) (by omega)
        · simp only [if_true]
theorem trustquorumref01_Of_eq (l : List Int) (hl : l.length ≤ 1000000) {k : Nat} (hk : 2 * l.length + 2 ≤ k) : trustquorumref01_Of.f k l = some (ofR l 0) := by
  unfold trustquorumref01_Of.f
  exact trustquorumref01_Of_loop l hl l.length 0 0 k (by omega) (by omega) hk

theorem check_eq (N : Nat) : ∀ (t : S27) (k : Nat), fuT t ≤ N → fuT t ≤ 1000000 → fuT t ≤ k → trustquorumref02_check.f k t.f0 t.f1 t.f2 = some (chkT t) := by
  induction N with
  | zero => intro t k h; rw [fuT_eq] at h; omega
  | succ N ih =>
    intro t k h hb hk
    obtain ⟨th, ns, inn⟩ := t
    rw [fuT] at h hb hk
    have hl := fuL_len inn
    have key : ∀ (r s : Nat) (k : Nat), s + r = inn.length → fuL (inn.drop s) + 2 ≤ k → trustquorumref02_check.l1 k inn (inn.length : Int) (s : Int) = some (chkL (inn.drop s)) := by
      intro r
      induction r with
      | zero =>
        intro s k h1 hk
        obtain ⟨k, rfl⟩ : ∃ m, k = m + 1 := ⟨k - 1, by omega⟩
        rw [trustquorumref02_check.l1, if_neg (by omega), List.drop_of_length_le (by omega), chkL]
      | succ r ihr =>
        intro s k h1 hk
        obtain ⟨k, rfl⟩ : ∃ m, k = m + 1 := ⟨k - 1, by omega⟩
        have hs : s < inn.length := by omega
        have hd := fuL_drop inn s hs
        have hle := fuL_le inn s
        rw [trustquorumref02_check.l1, if_pos (by omega), if_pos (by omega), if_pos (by omega), rdS_at inn s hs, ih inn[s] k (by omega) (by omega) (by omega)]
        simp only [Option.bind_some]
        rw [nx s (by omega), List.drop_eq_getElem_cons hs, chkL]
        by_cases hc : chkT inn[s] = 0
        · rw [if_pos hc, if_pos hc]; exact ihr (s + 1) k (by omega) (by omega)
        · rw [if_neg hc, if_neg hc]
    have nodes : ∀ (r s : Nat) (k : Nat), s + r = ns.length → r + 2 * ns.length + fuL inn + 5 ≤ k → trustquorumref02_check.l0 k ns (ns.length : Int) (s : Int) th ns inn = some (if outR (ns.drop s) = true then 5 else if (ofR ns 0).2 = 0 then chkL inn else (ofR ns 0).2) := by
      intro r
      induction r with
      | zero =>
        intro s k h1 hk
        obtain ⟨k, rfl⟩ : ∃ m, k = m + 1 := ⟨k - 1, by omega⟩
        rw [trustquorumref02_check.l0, if_neg (by omega), List.drop_of_length_le (by omega), trustquorumref01_Of_eq ns (by omega) (by omega)]
        simp only [Option.bind_some]
        rw [if_neg (show ¬ (outR [] = true) by decide)]
        by_cases he : (ofR ns 0).2 = 0
        · rw [if_pos he, if_pos he]; exact key inn.length 0 k (by omega) (by rw [List.drop_zero]; omega)
        · rw [if_neg he, if_neg he]
      | succ r ihr =>
        intro s k h1 hk
        obtain ⟨k, rfl⟩ : ∃ m, k = m + 1 := ⟨k - 1, by omega⟩
        have hs : s < ns.length := by omega
        have ho : outR (ns.drop s) = (decide (ns[s] < 0 ∨ 10 ≤ ns[s]) || outR (ns.drop (s + 1))) := by rw [List.drop_eq_getElem_cons hs]; unfold outR; rw [List.any_cons]
        rw [trustquorumref02_check.l0, if_pos (by omega), if_pos (by omega), if_pos (by omega), rd_at ns s hs, nx s (by omega), ho]
        by_cases h0 : ns[s] < 0
        · rw [if_pos h0, decide_eq_true (.inl h0), Bool.true_or, if_pos rfl]
        · rw [if_neg h0]
          by_cases h2 : ns[s] ≥ 10
          · rw [if_pos h2, decide_eq_true (.inr h2), Bool.true_or, if_pos rfl]
          · rw [if_neg h2, decide_eq_false (by omega), Bool.false_or]
            exact ihr (s + 1) k (by omega) (by omega)
    obtain ⟨k, rfl⟩ : ∃ m, k = m + 2 := ⟨k - 2, by omega⟩
    show trustquorumref02_check.f ((k + 1) + 1) th ns inn = _
    rw [trustquorumref02_check.f, w64 (by omega) (by omega), chkT]
    by_cases h0 : th < 1
    · rw [if_pos h0, trustquorumref02_check.j0, if_pos rfl, if_pos (.inl h0)]
    · rw [if_neg h0, trustquorumref02_check.j0]
      by_cases h1 : th > (ns.length : Int) + (inn.length : Int)
      · rw [if_pos (decide_eq_true h1), if_pos (.inr h1)]
      · rw [if_neg (by rw [decide_eq_true_eq]; exact h1), if_neg (by omega)]
        exact nodes ns.length 0 k (by omega) (by omega)
theorem refValid_eq (t : S27) {k : Nat} (hb : fuT t ≤ 1000000) (hk : fuT t ≤ k) : trustquorumref02_Valid.f k t.f0 t.f1 t.f2 = some (valT t) := by
  unfold trustquorumref02_Valid.f valT
  rw [trustquorumref02_Depth_eq _ t k (Nat.le_refl _) hb hk, trustquorumref02_Size_eq _ t k (Nat.le_refl _) hb hk, check_eq _ t k (Nat.le_refl _) hb hk]
  simp only [Option.bind_some]
  split
  · rfl
  · split <;> rfl

-- the drawn trust
theorem order_swap {L : List Int} (r : Nat) : ∀ (l : List Int) (p : Int) (k : Nat), St L p → r < l.length → l.length ≤ 100 → r + 2 ≤ k → ∃ l' p', trustquorummake_Tape_Order.l1 k l (r : Int) L p = some (l', p') ∧ l'.length = l.length ∧ St L p' := by
  induction r with
  | zero =>
    intro l p k hs hr hl hk
    obtain ⟨k, rfl⟩ : ∃ m, k = m + 1 := ⟨k - 1, by omega⟩
    exact ⟨l, p, by rw [trustquorummake_Tape_Order.l1, if_neg (by omega)], rfl, hs⟩
  | succ r ih =>
    intro l p k hs hr hl hk
    obtain ⟨k, rfl⟩ : ∃ m, k = m + 1 := ⟨k - 1, by omega⟩
    obtain ⟨q, p', hq, q0, q1, hs'⟩ := N_eq (n := ((r + 1 : Nat) : Int) + 1) hs (by omega) (by omega)
    obtain ⟨l', p'', h1, h2, h3⟩ := ih ((l.set ((r + 1 : Nat) : Int).toNat (rd l q)).set q.toNat (rd l ((r + 1 : Nat) : Int))) p' k hs' (by simp; omega) (by simp; omega) (by omega)
    refine ⟨l', p'', ?_, by rw [h2]; simp, h3⟩
    rw [trustquorummake_Tape_Order.l1, if_pos (by omega), w64 (x := ((r + 1 : Nat) : Int) + 1) (by omega) (by omega), hq]
    simp only [Option.bind_some]
    rw [if_pos q0, if_pos (by omega), if_pos (by omega), if_pos (by omega), w64 (x := ((r + 1 : Nat) : Int) - 1) (by omega) (by omega), show ((r + 1 : Nat) : Int) - 1 = (r : Int) by omega]
    exact h1
theorem order_fill {L : List Int} {n : Nat} (hn : 1 ≤ n) (hn2 : n ≤ 100) (r : Nat) : ∀ (l : List Int) (p : Int) (k : Nat), St L p → l.length + r = n → r + n + 5 ≤ k → ∃ l' p', trustquorummake_Tape_Order.l0 k (n : Int) l (l.length : Int) L p = some (l', p') ∧ l'.length = n ∧ St L p' := by
  induction r with
  | zero =>
    intro l p k hs hl hk
    obtain ⟨k, rfl⟩ : ∃ m, k = m + 1 := ⟨k - 1, by omega⟩
    obtain ⟨l', p', h1, h2, h3⟩ := order_swap (n - 1) l p k hs (by omega) (by omega) (by omega)
    refine ⟨l', p', ?_, by omega, h3⟩
    rw [trustquorummake_Tape_Order.l0, if_neg (by omega), w64 (x := (n : Int) - 1) (by omega) (by omega), show (n : Int) - 1 = ((n - 1 : Nat) : Int) by omega]
    exact h1
  | succ r ih =>
    intro l p k hs hl hk
    obtain ⟨k, rfl⟩ : ∃ m, k = m + 1 := ⟨k - 1, by omega⟩
    obtain ⟨l', p', h1, h2, h3⟩ := ih (l ++ [(l.length : Int)]) p k hs (by rw [List.length_append]; simp only [List.length_cons, List.length_nil]; omega) (by omega)
    refine ⟨l', p', ?_, h2, h3⟩
    rw [trustquorummake_Tape_Order.l0, if_pos (by omega), if_pos (by omega), nx l.length (by omega)]
    rw [List.length_append] at h1
    exact h1
theorem order_eq {L : List Int} {p : Int} {n : Nat} (h : St L p) (hn : 1 ≤ n) (hn2 : n ≤ 100) {k : Nat} (hk : 2 * n + 10 ≤ k) : ∃ l p', trustquorummake_Tape_Order.f k L p (n : Int) = some (l, p') ∧ l.length = n ∧ St L p' := by
  unfold trustquorummake_Tape_Order.f
  exact order_fill hn hn2 n [] p k h (by simp) (by omega)
theorem pick6 {L : List Int} {p : Int} (h : St L p) : ∃ c p', trustquorummake_Tape_Pick.f L p ([0, 0, 1, 1, 2, 3] : List Int) = some (c, p') ∧ 0 ≤ c ∧ c ≤ 3 ∧ St L p' := by
  obtain ⟨r, p', hr, h0, h1, hs⟩ := N_eq (n := 6) h (by omega) (by omega)
  have l6 : ((([0, 0, 1, 1, 2, 3] : List Int).length : Nat) : Int) = 6 := rfl
  unfold trustquorummake_Tape_Pick.f
  rw [l6, hr]
  simp only [Option.bind_some]
  rw [if_pos h0, if_pos h1]
  refine ⟨_, _, rfl, ?_, ?_, hs⟩
  all_goals
    have : r = 0 ∨ r = 1 ∨ r = 2 ∨ r = 3 ∨ r = 4 ∨ r = 5 := by omega
    rcases this with rfl | rfl | rfl | rfl | rfl | rfl <;> decide
/-- rounds and size of a drawn trust of so many levels -/
def fd : Nat → Nat
  | 0 => 40
  | d + 1 => 40 + 3 * (3 + fd d)
theorem fd_ge (d : Nat) : 40 ≤ fd d := by cases d <;> simp only [fd] <;> omega
theorem copy_nodes {L : List Int} (n deep : Int) (ns : List Int) (hns : ns.length ≤ 5) (Q : Option (Int × List Int × List S27 × Int)) (p : Int) (K : Nat)
    (hQ : ∀ k, K ≤ k → trustquorummake_trust.l0 k n deep ns (ns.length : Int) (ns.length : Int) L p 0 ns = Q) (r : Nat) :
    ∀ (s k : Nat), s + r = ns.length → K + r ≤ k → trustquorummake_trust.l0 k n deep ns (ns.length : Int) (s : Int) L p 0 (ns.take s) = Q := by
  induction r with
  | zero =>
    intro s k h1 hk
    rw [show s = ns.length by omega, List.take_length]
    exact hQ k (by omega)
  | succ r ih =>
    intro s k h1 hk
    obtain ⟨k, rfl⟩ : ∃ m, k = m + 1 := ⟨k - 1, by omega⟩
    have hs : s < ns.length := by omega
    rw [trustquorummake_trust.l0, if_pos (by omega), if_pos (by omega), if_pos (by omega), if_pos (by rw [List.length_take]; omega), rd_at ns s hs, nx s (by omega), show ns.take s ++ [ns[s]] = ns.take (s + 1) by rw [List.take_succ_eq_append_getElem hs]]
    exact ih (s + 1) k (by omega) (by omega)
theorem trust_eq {L : List Int} {n : Nat} (hn : 1 ≤ n) (hn2 : n ≤ 10) (d : Nat) : (d : Int) ≤ 1000 → ∀ (p : Int) (k : Nat), St L p → fd d + 40 ≤ k → ∃ th ns inn p', trustquorummake_trust.f k L p (n : Int) (d : Int) = some (th, ns, inn, p') ∧ fuT ⟨th, ns, inn⟩ ≤ fd d ∧ St L p' := by
  induction d with
  | zero =>
    intro _ p k hs hk
    rw [fd] at hk
    obtain ⟨k, rfl⟩ : ∃ m, k = m + 1 := ⟨k - 1, by omega⟩
    obtain ⟨l, p1, h1, hl, s1⟩ := order_eq (n := n) hs hn (by omega) (k := k) (by omega)
    have hm : 1 ≤ mn (n : Int) 5 ∧ mn (n : Int) 5 ≤ 5 ∧ mn (n : Int) 5 ≤ n := by unfold mn; split <;> omega
    obtain ⟨r, p2, h2, r0, r1, s2⟩ := Range_eq (a := 1) (b := mn (n : Int) 5) s1 (by omega) (by omega) (by omega)
    obtain ⟨q, rfl⟩ := Int.eq_ofNat_of_zero_le (show 0 ≤ r by omega)
    have hlen : (l.take q).length = q := by rw [List.length_take]; omega
    obtain ⟨th, p3, h3, t0, t1, s3⟩ := Range_eq (a := 1) (b := ((l.take q).length : Int)) s2 (by omega) (by omega) (by omega)
    refine ⟨th, l.take q, [], p3, ?_, by rw [fuT, fuL, fd]; omega, s3⟩
    rw [trustquorummake_trust.f, h1]
    simp only [Option.bind_some]
    rw [h2]
    simp only [Option.bind_some]
    rw [if_pos (by omega), if_pos (by omega), Int.toNat_natCast]
    refine copy_nodes (n : Int) ((0 : Nat) : Int) (l.take q) (by omega) _ p2 1 (fun k hk => ?_) (l.take q).length 0 k (by omega) (by omega)
    obtain ⟨k, rfl⟩ : ∃ m, k = m + 1 := ⟨k - 1, by omega⟩
    rw [trustquorummake_trust.l0, if_neg (by omega), if_neg (by omega), w64 (x := ((l.take q).length : Int)) (by omega) (by omega), h3]
    rfl
  | succ d ih =>
    intro hdd0 p k hs hk
    have hdd : (d : Int) ≤ 1000 := by omega
    have ih := ih hdd
    have hfd := fd_ge d
    rw [fd] at hk
    obtain ⟨k, rfl⟩ : ∃ m, k = m + 1 := ⟨k - 1, by omega⟩
    obtain ⟨l, p1, h1, hl, s1⟩ := order_eq (n := n) hs hn (by omega) (k := k) (by omega)
    have hm : 1 ≤ mn (n : Int) 5 ∧ mn (n : Int) 5 ≤ 5 ∧ mn (n : Int) 5 ≤ n := by unfold mn; split <;> omega
    obtain ⟨r, p2, h2, r0, r1, s2⟩ := Range_eq (a := 1) (b := mn (n : Int) 5) s1 (by omega) (by omega) (by omega)
    obtain ⟨q, rfl⟩ := Int.eq_ofNat_of_zero_le (show 0 ≤ r by omega)
    have hlen : (l.take q).length = q := by rw [List.length_take]; omega
    have inner : ∀ (c : Nat) (inn : List S27) (p : Int) (k : Nat), St L p → inn.length + c ≤ 3 → fuL inn ≤ inn.length * (3 + fd d) → fd d + 40 + c + 3 ≤ k → 1 < ((d + 1 : Nat) : Int) → ∃ th ns inn' p', trustquorummake_trust.l1 k (n : Int) ((d + 1 : Nat) : Int) (c : Int) L p 0 (l.take q) inn = some (th, ns, inn', p') ∧ fuT ⟨th, ns, inn'⟩ ≤ fd (d + 1) ∧ St L p' := by
      intro c
      induction c with
      | zero =>
        intro inn p k hs hc hf hk hd
        obtain ⟨k, rfl⟩ : ∃ m, k = m + 1 := ⟨k - 1, by omega⟩
        have hmul : inn.length * (3 + fd d) ≤ 3 * (3 + fd d) := Nat.mul_le_mul_right _ (by omega)
        rw [trustquorummake_trust.l1, if_neg (by omega)]
        by_cases hi : (inn.length : Int) > 0
        · obtain ⟨z, pz, hz, z0, z1, sz⟩ := N_eq (n := 3) hs (by omega) (by omega)
          rw [if_pos hi, hz]
          simp only [Option.bind_some]
          by_cases hz0 : z = 0
          · obtain ⟨th, p3, h3, t0, t1, s3⟩ := Range_eq (a := 1) (b := (inn.length : Int)) sz (by omega) (by omega) (by omega)
            rw [if_pos hz0, w64 (x := (inn.length : Int)) (by omega) (by omega), h3]
            exact ⟨th, [], inn, p3, rfl, by rw [fuT, fd, List.length_nil]; omega, s3⟩
          · obtain ⟨th, p3, h3, t0, t1, s3⟩ := Range_eq (a := 1) (b := ((l.take q).length : Int) + (inn.length : Int)) sz (by omega) (by omega) (by omega)
            rw [if_neg hz0, w64 (x := ((l.take q).length : Int) + (inn.length : Int)) (by omega) (by omega), h3]
            exact ⟨th, _, inn, p3, rfl, by rw [fuT, fd]; omega, s3⟩
        · obtain ⟨th, p3, h3, t0, t1, s3⟩ := Range_eq (a := 1) (b := ((l.take q).length : Int) + (inn.length : Int)) hs (by omega) (by omega) (by omega)
          rw [if_neg hi, w64 (x := ((l.take q).length : Int) + (inn.length : Int)) (by omega) (by omega), h3]
          exact ⟨th, _, inn, p3, rfl, by rw [fuT, fd]; omega, s3⟩
      | succ c ihc =>
        intro inn p k hs hc hf hk hd
        obtain ⟨k, rfl⟩ : ∃ m, k = m + 1 := ⟨k - 1, by omega⟩
        obtain ⟨th, ns, inn', p', ht, hft, st⟩ := ih p k hs (by omega)
        have happ : ∀ (l : List S27) (t : S27), fuL (l ++ [t]) = fuL l + (3 + fuT t) := by
          intro l t
          induction l with
          | nil => rw [List.nil_append, fuL]; simp only [fuL]; omega
          | cons a l ih => rw [List.cons_append, fuL, fuL, ih]; omega
        obtain ⟨th2, ns2, inn2, p2', h2', hf2, st2⟩ := ihc (inn ++ [(⟨th, ns, inn'⟩ : S27)]) p' k st (by rw [List.length_append]; simp only [List.length_cons, List.length_nil]; omega) (by rw [happ, List.length_append]; simp only [List.length_cons, List.length_nil, Nat.zero_add, Nat.add_mul, Nat.one_mul]; omega) (by omega) hd
        refine ⟨th2, ns2, inn2, p2', ?_, hf2, st2⟩
        have hd2 : (d : Int) ≤ 1000 := hdd
        rw [trustquorummake_trust.l1, if_pos (by omega), w64 (x := ((d + 1 : Nat) : Int) - 1) (by omega) (by omega), show ((d + 1 : Nat) : Int) - 1 = (d : Int) by omega, ht]
        simp only [Option.bind_some]
        rw [if_pos (by omega), w64 (x := ((c + 1 : Nat) : Int) - 1) (by omega) (by omega), show ((c + 1 : Nat) : Int) - 1 = (c : Int) by omega]
        exact h2'
    by_cases hd : 1 < ((d + 1 : Nat) : Int)
    · obtain ⟨c, p3, h3, c0, c1, s3⟩ := pick6 s2
      obtain ⟨c, rfl⟩ := Int.eq_ofNat_of_zero_le c0
      obtain ⟨th, ns, inn, p4, h4, hf4, s4⟩ := inner c [] p3 (k - 6) s3 (by simp only [List.length_nil]; omega) (by rw [fuL]; omega) (by omega) hd
      refine ⟨th, ns, inn, p4, ?_, hf4, s4⟩
      rw [trustquorummake_trust.f, h1]
      simp only [Option.bind_some]
      rw [h2]
      simp only [Option.bind_some]
      rw [if_pos (by omega), if_pos (by omega), Int.toNat_natCast]
      refine copy_nodes (n : Int) ((d + 1 : Nat) : Int) (l.take q) (by omega) _ p2 (k - 5) (fun k' hk' => ?_) (l.take q).length 0 k (by omega) (by omega)
      obtain ⟨k', rfl⟩ : ∃ m, k' = m + 1 := ⟨k' - 1, by omega⟩
      rw [trustquorummake_trust.l0, if_neg (by omega), if_pos hd, h3]
      simp only [Option.bind_some]
      exact at_rounds (g := fun k => trustquorummake_trust.l1 k (n : Int) ((d + 1 : Nat) : Int) (c : Int) L p3 0 (l.take q) []) (fun k => (trustquorummake_trust.mono_l k).2.2 _ _ _ _ _ _ _ _) (show k - 6 ≤ k' by omega) h4
    · obtain ⟨th, p3, h3, t0, t1, s3⟩ := Range_eq (a := 1) (b := ((l.take q).length : Int)) s2 (by omega) (by omega) (by omega)
      refine ⟨th, l.take q, [], p3, ?_, by rw [fuT, fuL, fd]; omega, s3⟩
      rw [trustquorummake_trust.f, h1]
      simp only [Option.bind_some]
      rw [h2]
      simp only [Option.bind_some]
      rw [if_pos (by omega), if_pos (by omega), Int.toNat_natCast]
      refine copy_nodes (n : Int) ((d + 1 : Nat) : Int) (l.take q) (by omega) _ p2 1 (fun k hk => ?_) (l.take q).length 0 k (by omega) (by omega)
      obtain ⟨k, rfl⟩ : ∃ m, k = m + 1 := ⟨k - 1, by omega⟩
      rw [trustquorummake_trust.l0, if_neg (by omega), if_neg hd, w64 (x := ((l.take q).length : Int)) (by omega) (by omega), h3]
      rfl
theorem one_ok : ∀ r, r < 10 → chkT (⟨1, [((r : Nat) : Int)], []⟩ : S27) = 0 := by decide +kernel
/-- The drawn trust is valid and not great. -/
theorem Trust_eq {L : List Int} {p n : Int} (h : St L p) (hn : 1 ≤ n) (hn2 : n ≤ 10) (d : Nat) (hd : d ≤ 4) {k : Nat} (hk : 6000 ≤ k) : ∃ th ns inn p', trustquorummake_Trust.f k L p n (d : Int) = some (th, ns, inn, p') ∧ fuT ⟨th, ns, inn⟩ ≤ 5800 ∧ chkT ⟨th, ns, inn⟩ = 0 ∧ depT ⟨th, ns, inn⟩ ≤ 4 ∧ sizT ⟨th, ns, inn⟩ ≤ 200 ∧ St L p' := by
  obtain ⟨n, rfl⟩ := Int.eq_ofNat_of_zero_le (show 0 ≤ n by omega)
  have hfd : fd d ≤ 5800 := by
    have : d = 0 ∨ d = 1 ∨ d = 2 ∨ d = 3 ∨ d = 4 := by omega
    rcases this with rfl | rfl | rfl | rfl | rfl <;> decide
  obtain ⟨th, ns, inn, p', h1, hf, hs⟩ := trust_eq (n := n) (by omega) (by omega) d (by omega) p k h (by omega)
  unfold trustquorummake_Trust.f
  rw [h1]
  simp only [Option.bind_some]
  have hv := refValid_eq ⟨th, ns, inn⟩ (k := k) (by omega) (by omega)
  rw [show trustquorumref02_Valid.f k th ns inn = some (valT ⟨th, ns, inn⟩) from hv]
  simp only [Option.bind_some]
  by_cases h0 : valT ⟨th, ns, inn⟩ = 0
  · rw [if_pos h0]
    unfold valT at h0
    by_cases a1 : depT ⟨th, ns, inn⟩ > 4
    · rw [if_pos a1] at h0; cases h0
    · rw [if_neg a1] at h0
      by_cases a2 : sizT ⟨th, ns, inn⟩ > 200
      · rw [if_pos a2] at h0; cases h0
      · rw [if_neg a2] at h0
        exact ⟨th, ns, inn, p', rfl, by omega, h0, by omega, by omega, hs⟩
  · rw [if_neg h0]
    obtain ⟨r, p2, h2, r0, r1, s2⟩ := N_eq (n := (n : Int)) hs (by omega) (by omega)
    rw [h2]
    obtain ⟨q, rfl⟩ := Int.eq_ofNat_of_zero_le r0
    refine ⟨1, [(q : Int)], [], p2, rfl, by rw [fuT, fuL]; simp, one_ok q (by omega), ?_, ?_, s2⟩
    · rw [depT, depL]; omega
    · rw [sizT, sizL]; simp

theorem threshold_Size_eq (N : Nat) : ∀ (t : S27) (k : Nat), fuT t ≤ N → fuT t ≤ 1000000 → fuT t ≤ k → threshold_Size.f k t.f0 t.f1 t.f2 = some (sizT t) := by
  induction N with
  | zero => intro t k h; rw [fuT_eq] at h; omega
  | succ N ih =>
    intro t k h hb hk
    obtain ⟨th, ns, inn⟩ := t
    rw [fuT] at h hb hk
    have hl := fuL_len inn
    have key : ∀ (r s : Nat) (c : Int) (k : Nat), s + r = inn.length → fuL (inn.drop s) + 2 ≤ k → 0 ≤ c → c + 2 * fuL (inn.drop s) ≤ 10000000 → threshold_Size.l0 k c inn (inn.length : Int) (s : Int) = some (sizL (inn.drop s) c) := by
      intro r
      induction r with
      | zero =>
        intro s c k h1 hk _ _
        obtain ⟨k, rfl⟩ : ∃ m, k = m + 1 := ⟨k - 1, by omega⟩
        rw [threshold_Size.l0, if_neg (by omega), List.drop_of_length_le (by omega), sizL]
      | succ r ihr =>
        intro s c k h1 hk hc0 hc1
        obtain ⟨k, rfl⟩ : ∃ m, k = m + 1 := ⟨k - 1, by omega⟩
        have hs : s < inn.length := by omega
        have hd := fuL_drop inn s hs
        have hle := fuL_le inn s
        have hb2 := siz_bd _ inn[s] (Nat.le_refl _)
        rw [threshold_Size.l0, if_pos (by omega), if_pos (by omega), if_pos (by omega), rdS_at inn s hs, ih inn[s] k (by omega) (by omega) (by omega)]
        simp only [Option.bind_some]
        rw [w64 (x := c + sizT inn[s]) (by omega) (by omega), nx s (by omega), ihr (s + 1) (c + sizT inn[s]) k (by omega) (by omega) (by omega) (by omega), List.drop_eq_getElem_cons hs, sizL]
    obtain ⟨k, rfl⟩ : ∃ m, k = m + 1 := ⟨k - 1, by omega⟩
    show threshold_Size.f (k + 1) th ns inn = _
    rw [threshold_Size.f, w64 (by omega) (by omega), sizT]
    exact key inn.length 0 _ k (by omega) (by rw [List.drop_zero]; omega) (by omega) (by rw [List.drop_zero]; omega)

theorem threshold_Depth_eq (N : Nat) : ∀ (t : S27) (k : Nat), fuT t ≤ N → fuT t ≤ 1000000 → fuT t ≤ k → threshold_Depth.f k t.f0 t.f1 t.f2 = some (depT t) := by
  induction N with
  | zero => intro t k h; rw [fuT_eq] at h; omega
  | succ N ih =>
    intro t k h hb hk
    obtain ⟨th, ns, inn⟩ := t
    rw [fuT] at h hb hk
    have hl := fuL_len inn
    have key : ∀ (r s : Nat) (c : Int) (k : Nat), s + r = inn.length → fuL (inn.drop s) + 2 ≤ k → 0 ≤ c → c + fuL (inn.drop s) ≤ 10000000 → threshold_Depth.l0 k c inn (inn.length : Int) (s : Int) = some (depL (inn.drop s) c + 1) := by
      intro r
      induction r with
      | zero =>
        intro s c k h1 hk hc0 hc1
        obtain ⟨k, rfl⟩ : ∃ m, k = m + 1 := ⟨k - 1, by omega⟩
        rw [threshold_Depth.l0, if_neg (by omega), List.drop_of_length_le (by omega), depL, w64 (by omega) (by omega)]
      | succ r ihr =>
        intro s c k h1 hk hc0 hc1
        obtain ⟨k, rfl⟩ : ∃ m, k = m + 1 := ⟨k - 1, by omega⟩
        have hs : s < inn.length := by omega
        have hd := fuL_drop inn s hs
        have hle := fuL_le inn s
        have hb2 := dep_bd _ inn[s] (Nat.le_refl _)
        have hm : 0 ≤ mx c (depT inn[s]) ∧ mx c (depT inn[s]) ≤ c + fuT inn[s] := by unfold mx; split <;> omega
        rw [threshold_Depth.l0, if_pos (by omega), if_pos (by omega), if_pos (by omega), rdS_at inn s hs, ih inn[s] k (by omega) (by omega) (by omega)]
        simp only [Option.bind_some]
        rw [nx s (by omega), ihr (s + 1) (mx c (depT inn[s])) k (by omega) (by omega) (by omega) (by omega), List.drop_eq_getElem_cons hs, depL]
    obtain ⟨k, rfl⟩ : ∃ m, k = m + 1 := ⟨k - 1, by omega⟩
    show threshold_Depth.f (k + 1) th ns inn = _
    rw [threshold_Depth.f, depT]
    exact key inn.length 0 0 k (by omega) (by rw [List.drop_zero]; omega) (by omega) (by rw [List.drop_zero]; omega)

theorem nodeset_Of_loop (l : List Int) (hl : l.length ≤ 1000000) (r : Nat) : ∀ (s m k : Nat), s + r = l.length → m < 1024 → 2 * r + 2 ≤ k → nodeset_Of.l0 k (m : Int) l (l.length : Int) (s : Int) = some (ofR (l.drop s) m) := by
  induction r with
  | zero =>
    intro s m k h1 hm hk
    obtain ⟨k, rfl⟩ : ∃ q, k = q + 1 := ⟨k - 1, by omega⟩
    rw [nodeset_Of.l0, if_neg (by omega), List.drop_of_length_le (by omega), ofR]
  | succ r ih =>
    intro s m k h1 hm hk
    obtain ⟨k, rfl⟩ : ∃ q, k = q + 2 := ⟨k - 2, by omega⟩
    have hs : s < l.length := by omega
    show nodeset_Of.l0 ((k + 1) + 1) _ _ _ _ = _
    rw [nodeset_Of.l0, if_pos (by omega), if_pos (by omega), if_pos (by omega), rd_at l s hs, List.drop_eq_getElem_cons hs, ofR]
    generalize l[s] = x
    by_cases h0 : x < 0
    · rw [if_pos h0, nodeset_Of.j1, if_pos rfl, if_pos (.inl h0)]
    · rw [if_neg h0, nodeset_Of.j1]
      by_cases h2 : x ≥ 10
      · rw [if_pos (decide_eq_true h2), if_pos (.inr h2)]
      · rw [if_neg (by rw [decide_eq_true_eq]; exact h2), if_neg (show ¬ (x < 0 ∨ 10 ≤ x) by omega), has_eq m hm x]
        simp only [Option.bind_some]
        cases ht : tb m x
        · simp only [Bool.false_eq_true, if_false]
          obtain ⟨i, rfl⟩ := Int.eq_ofNat_of_zero_le (show 0 ≤ x by omega)
          have hp := pow_lt i (by omega)
          rw [if_pos (show 0 ≤ (i : Int) by omega), shl_eq i (by omega), or_eq m (2 ^ i) hm hp, nx s (by omega), Int.toNat_natCast]
          exact ih (s + 1) (m ||| 2 ^ i) k (by omega) (Nat.or_lt_two_pow (n := 10) hm hp) (by omega)
        · simp only [if_true]
theorem nodeset_Of_eq (l : List Int) (hl : l.length ≤ 1000000) {k : Nat} (hk : 2 * l.length + 2 ≤ k) : nodeset_Of.f k l = some (ofR l 0) := by
  unfold nodeset_Of.f
  exact nodeset_Of_loop l hl l.length 0 0 k (by omega) (by omega) hk

-- the program's own check
theorem node_eq (k : Int) : threshold_node.f k = some (decide (0 ≤ k ∧ k < 10)) := by
  unfold threshold_node.f
  by_cases h : k ≥ 0
  · rw [if_pos h]; congr 1; rw [decide_eq_decide]; omega
  · rw [if_neg h]; congr 1; rw [eq_comm, decide_eq_false_iff_not]; omega
theorem bad_eq (k : Int) : threshold_level_1.f k = some (decide (k < 0 ∨ 10 ≤ k)) := by
  unfold threshold_level_1.f
  rw [node_eq]
  simp only [Option.bind_some]
  congr 1
  by_cases h : 0 ≤ k ∧ k < 10
  · rw [decide_eq_true h, decide_eq_false (by omega)]; rfl
  · rw [decide_eq_false h, decide_eq_true (by omega)]; rfl
theorem indexf_loop (l : List Int) (hl : l.length ≤ 1000000) (r : Nat) : ∀ (s k : Nat), s + r = l.length → r + 1 ≤ k → ∃ x, slices_IndexFunc_int_int__on_56.l0 k l (l.length : Int) (s : Int) = some x ∧ decide (x ≥ 0) = outR (l.drop s) := by
  induction r with
  | zero =>
    intro s k h1 hk
    obtain ⟨k, rfl⟩ : ∃ q, k = q + 1 := ⟨k - 1, by omega⟩
    exact ⟨-1, by rw [slices_IndexFunc_int_int__on_56.l0, if_neg (by omega)], by rw [List.drop_of_length_le (by omega)]; decide⟩
  | succ r ih =>
    intro s k h1 hk
    obtain ⟨k, rfl⟩ : ∃ q, k = q + 1 := ⟨k - 1, by omega⟩
    have hs : s < l.length := by omega
    have ho : outR (l.drop s) = (decide (l[s] < 0 ∨ 10 ≤ l[s]) || outR (l.drop (s + 1))) := by rw [List.drop_eq_getElem_cons hs]; unfold outR; rw [List.any_cons]
    rw [slices_IndexFunc_int_int__on_56.l0, if_pos (by omega), if_pos (by omega), if_pos (by omega), rd_at l s hs, bad_eq, ho]
    simp only [Option.bind_some]
    by_cases hb : l[s] < 0 ∨ 10 ≤ l[s]
    · exact ⟨(s : Int), by rw [if_pos (decide_eq_true hb)], by rw [decide_eq_true hb, decide_eq_true (by omega), Bool.true_or]⟩
    · obtain ⟨x, hx, hd⟩ := ih (s + 1) k (by omega) (by omega)
      exact ⟨x, by rw [if_neg (by rw [decide_eq_true_eq]; exact hb), nx s (by omega)]; exact hx, by rw [hd, decide_eq_false hb, Bool.false_or]⟩
theorem containsf_eq (l : List Int) (hl : l.length ≤ 1000000) {k : Nat} (hk : l.length + 1 ≤ k) : slices_ContainsFunc_int_int__on_56.f k l = some (outR l) := by
  obtain ⟨x, hx, hd⟩ := indexf_loop l hl l.length 0 k (by omega) hk
  unfold slices_ContainsFunc_int_int__on_56.f slices_IndexFunc_int_int__on_56.f
  rw [show (0 : Int) = ((0 : Nat) : Int) from rfl, hx]
  simp only [Option.bind_some]
  rw [List.drop_zero] at hd
  rw [← hd]
  rfl
theorem level_eq (N : Nat) : ∀ (t : S27) (k : Nat), fuT t ≤ N → fuT t ≤ 1000000 → fuT t ≤ k → threshold_level.f k t.f0 t.f1 t.f2 = some (chkT t) := by
  induction N with
  | zero => intro t k h; rw [fuT_eq] at h; omega
  | succ N ih =>
    intro t k h hb hk
    obtain ⟨th, ns, inn⟩ := t
    rw [fuT] at h hb hk
    have hl := fuL_len inn
    have key : ∀ (r s : Nat) (k : Nat), s + r = inn.length → fuL (inn.drop s) + 2 ≤ k → threshold_level.l0 k inn (inn.length : Int) (s : Int) = some (chkL (inn.drop s)) := by
      intro r
      induction r with
      | zero =>
        intro s k h1 hk
        obtain ⟨k, rfl⟩ : ∃ m, k = m + 1 := ⟨k - 1, by omega⟩
        rw [threshold_level.l0, if_neg (by omega), List.drop_of_length_le (by omega), chkL]
      | succ r ihr =>
        intro s k h1 hk
        obtain ⟨k, rfl⟩ : ∃ m, k = m + 1 := ⟨k - 1, by omega⟩
        have hs : s < inn.length := by omega
        have hd := fuL_drop inn s hs
        have hle := fuL_le inn s
        rw [threshold_level.l0, if_pos (by omega), if_pos (by omega), if_pos (by omega), rdS_at inn s hs, ih inn[s] k (by omega) (by omega) (by omega)]
        simp only [Option.bind_some]
        rw [nx s (by omega), List.drop_eq_getElem_cons hs, chkL]
        by_cases hc : chkT inn[s] = 0
        · rw [if_pos hc, if_pos hc]; exact ihr (s + 1) k (by omega) (by omega)
        · rw [if_neg hc, if_neg hc]
    obtain ⟨k, rfl⟩ : ∃ m, k = m + 2 := ⟨k - 2, by omega⟩
    show threshold_level.f ((k + 1) + 1) th ns inn = _
    rw [threshold_level.f, w64 (by omega) (by omega), chkT]
    by_cases h0 : th < 1
    · rw [if_pos h0, threshold_level.j0, if_pos rfl, if_pos (.inl h0)]
    · rw [if_neg h0, threshold_level.j0]
      by_cases h1 : th > (ns.length : Int) + (inn.length : Int)
      · rw [if_pos (decide_eq_true h1), if_pos (.inr h1)]
      · rw [if_neg (by rw [decide_eq_true_eq]; exact h1), if_neg (show ¬ (th < 1 ∨ th > (ns.length : Int) + (inn.length : Int)) by omega), containsf_eq ns (by omega) (by omega), nodeset_Of_eq ns (by omega) (by omega)]
        simp only [Option.bind_some]
        cases ho : outR ns
        · rw [if_neg (show ¬ (false = true) by decide), if_neg (show ¬ (false = true) by decide)]
          by_cases he : (ofR ns 0).2 = 0
          · rw [if_pos he, if_pos he]; exact key inn.length 0 k (by omega) (by rw [List.drop_zero]; omega)
          · rw [if_neg he, if_neg he]
        · rw [if_pos rfl, if_pos rfl]
theorem valid_eq (t : S27) {k : Nat} (hb : fuT t ≤ 1000000) (hk : fuT t ≤ k) : threshold_Valid.f k t.f0 t.f1 t.f2 = some (valT t) := by
  unfold threshold_Valid.f valT
  rw [threshold_Depth_eq _ t k (Nat.le_refl _) hb hk, threshold_Size_eq _ t k (Nat.le_refl _) hb hk, level_eq _ t k (Nat.le_refl _) hb hk]
  simp only [Option.bind_some]
  split
  · rfl
  · split <;> rfl
theorem valT_ok {t : S27} (h1 : chkT t = 0) (h2 : depT t ≤ 4) (h3 : sizT t ≤ 200) : valT t = 0 := by unfold valT; rw [if_neg (by omega), if_neg (by omega), h1]

-- the nodes of a trust, by the reference
theorem tb_or (a b : Nat) (k : Int) : tb (a ||| b) k = (tb a k || tb b k) := by
  unfold tb
  rw [Nat.testBit_or]
  cases decide (0 ≤ k) <;> cases decide (k < 10) <;> simp
theorem tb_pow (i : Nat) (h : i < 10) (k : Int) : tb (2 ^ i) k = decide (k = (i : Int)) := by
  unfold tb
  rw [Nat.testBit_two_pow]
  by_cases hk : k = (i : Int)
  · subst hk
    rw [decide_eq_true (show 0 ≤ (i : Int) by omega), decide_eq_true (show (i : Int) < 10 by omega), Int.toNat_natCast]
    simp
  · rw [decide_eq_false hk]
    by_cases h0 : 0 ≤ k
    · rw [decide_eq_false (show ¬ i = k.toNat by omega), Bool.and_false]
    · rw [decide_eq_false h0, Bool.false_and, Bool.false_and]
theorem tb_zero (k : Int) : tb 0 k = false := by unfold tb; rw [Nat.zero_testBit, Bool.and_false]
theorem tb_range {m : Nat} {k : Int} (h : tb m k = true) : 0 ≤ k ∧ k < 10 := by
  unfold tb at h
  simp only [Bool.and_eq_true, decide_eq_true_eq] at h
  exact h.1
def useN : List Int → Nat → Nat
  | [], m => m
  | k :: l, m => useN l (if 0 ≤ k ∧ k < 10 then m ||| 2 ^ k.toNat else m)
mutual
def useT : S27 → Nat
  | ⟨_, ns, inn⟩ => useL inn (useN ns 0)
def useL : List S27 → Nat → Nat
  | [], m => m
  | t :: l, m => useL l (m ||| useT t)
end
theorem useN_lt : ∀ (l : List Int) (m : Nat), m < 1024 → useN l m < 1024
  | [], _, h => h
  | k :: l, m, h => by
    rw [useN]
    by_cases hk : 0 ≤ k ∧ k < 10
    · rw [if_pos hk]; exact useN_lt l _ (Nat.or_lt_two_pow (n := 10) h (pow_lt k.toNat (by omega)))
    · rw [if_neg hk]; exact useN_lt l m h
mutual
theorem useT_lt : ∀ t : S27, useT t < 1024
  | ⟨_, ns, inn⟩ => by rw [useT]; exact useL_lt inn _ (useN_lt ns 0 (by omega))
theorem useL_lt : ∀ (l : List S27) (m : Nat), m < 1024 → useL l m < 1024
  | [], _, h => h
  | t :: l, m, h => by rw [useL]; exact useL_lt l _ (Nat.or_lt_two_pow (n := 10) h (useT_lt t))
end
theorem tb_useN (k : Int) : ∀ (l : List Int) (m : Nat), tb (useN l m) k = (tb m k || (decide (0 ≤ k ∧ k < 10) && l.contains k))
  | [], m => by rw [useN]; simp
  | x :: l, m => by
    rw [useN, tb_useN k l, List.contains_cons]
    by_cases hx : 0 ≤ x ∧ x < 10
    · rw [if_pos hx, tb_or]
      obtain ⟨i, rfl⟩ := Int.eq_ofNat_of_zero_le hx.1
      rw [Int.toNat_natCast, tb_pow i (by omega)]
      by_cases hk : k = (i : Int)
      · subst hk; rw [decide_eq_true rfl, decide_eq_true hx]; simp
      · rw [decide_eq_false hk, beq_eq_false_iff_ne.2 hk, Bool.or_false, Bool.false_or]
    · rw [if_neg hx]
      by_cases hk : k = x
      · subst hk; rw [decide_eq_false hx]; simp
      · rw [beq_eq_false_iff_ne.2 hk, Bool.false_or]
mutual
def memT : S27 → Int → Bool
  | ⟨_, ns, inn⟩, k => ns.contains k || memL inn k
def memL : List S27 → Int → Bool
  | [], _ => false
  | t :: l, k => memT t k || memL l k
end
mutual
theorem tb_useT (k : Int) : ∀ t : S27, tb (useT t) k = (decide (0 ≤ k ∧ k < 10) && memT t k)
  | ⟨th, ns, inn⟩ => by
    rw [useT, tb_useL k inn, tb_useN, tb_zero, Bool.false_or, memT]
    cases decide (0 ≤ k ∧ k < 10) <;> simp
theorem tb_useL (k : Int) : ∀ (l : List S27) (m : Nat), tb (useL l m) k = (tb m k || (decide (0 ≤ k ∧ k < 10) && memL l k))
  | [], m => by rw [useL, memL]; simp
  | t :: l, m => by
    rw [useL, tb_useL k l, tb_or, tb_useT k t, memL]
    cases decide (0 ≤ k ∧ k < 10) <;> cases tb m k <;> simp
end
theorem outR_mem {ns : List Int} (h : outR ns = false) : ∀ k ∈ ns, 0 ≤ k ∧ k < 10 := by
  intro k hk
  unfold outR at h
  rw [List.any_eq_false] at h
  have := h k hk
  rw [decide_eq_true_eq] at this
  omega
theorem chkT_ok {th : Int} {ns : List Int} {inn : List S27} (h : chkT ⟨th, ns, inn⟩ = 0) : 1 ≤ th ∧ th ≤ (ns.length : Int) + (inn.length : Int) ∧ outR ns = false ∧ (ofR ns 0).2 = 0 ∧ chkL inn = 0 := by
  rw [chkT] at h
  by_cases h0 : th < 1 ∨ th > (ns.length : Int) + (inn.length : Int)
  · rw [if_pos h0] at h; cases h
  · rw [if_neg h0] at h
    cases h1 : outR ns
    · rw [if_neg (by rw [h1]; decide)] at h
      by_cases h2 : (ofR ns 0).2 = 0
      · rw [if_pos h2] at h; exact ⟨by omega, by omega, rfl, h2, h⟩
      · rw [if_neg h2] at h; exact absurd h h2
    · rw [if_pos h1] at h; cases h
theorem chkL_cons {t : S27} {l : List S27} (h : chkL (t :: l) = 0) : chkT t = 0 ∧ chkL l = 0 := by
  rw [chkL] at h
  by_cases h0 : chkT t = 0
  · rw [if_pos h0] at h; exact ⟨h0, h⟩
  · rw [if_neg h0] at h; exact absurd h h0
mutual
theorem memT_range (k : Int) : ∀ t : S27, chkT t = 0 → memT t k = true → 0 ≤ k ∧ k < 10
  | ⟨th, ns, inn⟩, hc, h => by
    obtain ⟨_, _, h3, _, h5⟩ := chkT_ok hc
    rw [memT, Bool.or_eq_true] at h
    rcases h with h | h
    · exact outR_mem h3 k (List.contains_iff_mem.1 h)
    · exact memL_range k inn h5 h
theorem memL_range (k : Int) : ∀ l : List S27, chkL l = 0 → memL l k = true → 0 ≤ k ∧ k < 10
  | [], _, h => by rw [memL] at h; cases h
  | t :: l, hc, h => by
    obtain ⟨h1, h2⟩ := chkL_cons hc
    rw [memL, Bool.or_eq_true] at h
    rcases h with h | h
    · exact memT_range k t h1 h
    · exact memL_range k l h2 h
end

theorem usesref_eq (N : Nat) : ∀ (t : S27) (k : Nat), fuT t ≤ N → fuT t ≤ 1000000 → fuT t ≤ k → trustquorumref02_Uses.f k t.f0 t.f1 t.f2 = some ((useT t : Nat) : Int) := by
  induction N with
  | zero => intro t k h; rw [fuT_eq] at h; omega
  | succ N ih =>
    intro t k h hb hk
    obtain ⟨th, ns, inn⟩ := t
    rw [fuT] at h hb hk
    have hl := fuL_len inn
    have key : ∀ (r s m : Nat) (k : Nat), s + r = inn.length → fuL (inn.drop s) + 2 ≤ k → m < 1024 → trustquorumref02_Uses.l1 k (m : Int) inn (inn.length : Int) (s : Int) = some ((useL (inn.drop s) m : Nat) : Int) := by
      intro r
      induction r with
      | zero =>
        intro s m k h1 hk hm
        obtain ⟨k, rfl⟩ : ∃ q, k = q + 1 := ⟨k - 1, by omega⟩
        rw [trustquorumref02_Uses.l1, if_neg (by omega), List.drop_of_length_le (by omega), useL]
      | succ r ihr =>
        intro s m k h1 hk hm
        obtain ⟨k, rfl⟩ : ∃ q, k = q + 1 := ⟨k - 1, by omega⟩
        have hs : s < inn.length := by omega
        have hd := fuL_drop inn s hs
        have hle := fuL_le inn s
        rw [trustquorumref02_Uses.l1, if_pos (by omega), if_pos (by omega), if_pos (by omega), rdS_at inn s hs, ih inn[s] k (by omega) (by omega) (by omega)]
        simp only [Option.bind_some]
        rw [nx s (by omega), List.drop_eq_getElem_cons hs, useL, or_eq m _ hm (useT_lt _)]
        exact ihr (s + 1) _ k (by omega) (by omega) (Nat.or_lt_two_pow (n := 10) hm (useT_lt _))
    have nodes : ∀ (r s m : Nat) (k : Nat), s + r = ns.length → r + fuL inn + 3 ≤ k → m < 1024 → trustquorumref02_Uses.l0 k (m : Int) ns (ns.length : Int) (s : Int) th ns inn = some ((useL inn (useN (ns.drop s) m) : Nat) : Int) := by
      intro r
      induction r with
      | zero =>
        intro s m k h1 hk hm
        obtain ⟨k, rfl⟩ : ∃ q, k = q + 1 := ⟨k - 1, by omega⟩
        rw [trustquorumref02_Uses.l0, if_neg (by omega), List.drop_of_length_le (by omega), useN]
        exact key inn.length 0 m k (by omega) (by rw [List.drop_zero]; omega) hm
      | succ r ihr =>
        intro s m k h1 hk hm
        obtain ⟨k, rfl⟩ : ∃ q, k = q + 1 := ⟨k - 1, by omega⟩
        have hs : s < ns.length := by omega
        rw [trustquorumref02_Uses.l0, if_pos (by omega), if_pos (by omega), if_pos (by omega), rd_at ns s hs, nx s (by omega), List.drop_eq_getElem_cons hs, useN]
        by_cases h0 : ns[s] ≥ 0
        · rw [if_pos h0]
          by_cases h9 : ns[s] < 10
          · rw [if_pos h9, if_pos h0, if_pos ⟨h0, h9⟩]
            obtain ⟨i, hi⟩ := Int.eq_ofNat_of_zero_le h0
            have h10 : i < 10 := by omega
            rw [hi, shl_eq i h10, or_eq m _ hm (pow_lt i h10), Int.toNat_natCast]
            exact ihr (s + 1) _ k (by omega) (by omega) (Nat.or_lt_two_pow (n := 10) hm (pow_lt i h10))
          · rw [if_neg h9, if_neg (show ¬ (0 ≤ ns[s] ∧ ns[s] < 10) by omega)]
            exact ihr (s + 1) m k (by omega) (by omega) hm
        · rw [if_neg h0, if_neg (show ¬ (0 ≤ ns[s] ∧ ns[s] < 10) by omega)]
          exact ihr (s + 1) m k (by omega) (by omega) hm
    obtain ⟨k, rfl⟩ : ∃ q, k = q + 1 := ⟨k - 1, by omega⟩
    show trustquorumref02_Uses.f (k + 1) th ns inn = _
    rw [trustquorumref02_Uses.f, useT]
    exact nodes ns.length 0 0 k (by omega) (by omega) (by omega)

-- weights
mutual
def weiT : S27 → Int → Int × Int × Bool
  | ⟨th, ns, inn⟩, v => if ns.contains v = true then (th, (ns.length : Int) + (inn.length : Int), true) else weiL inn v th ((ns.length : Int) + (inn.length : Int))
def weiL : List S27 → Int → Int → Int → Int × Int × Bool
  | [], _, _, _ => (0, 0, false)
  | t :: l, v, a, b => if (weiT t v).2.2 = true then (a * (weiT t v).1, b * (weiT t v).2.1, true) else weiL l v a b
end
mutual
theorem wei_ok (v : Int) : ∀ t : S27, (weiT t v).2.2 = memT t v
  | ⟨th, ns, inn⟩ => by
    rw [weiT, memT]
    cases h : ns.contains v
    · rw [if_neg (by decide), Bool.false_or]; exact weiL_ok v inn _ _
    · rw [if_pos rfl, Bool.true_or]
theorem weiL_ok (v : Int) : ∀ (l : List S27) (a b : Int), (weiL l v a b).2.2 = memL l v
  | [], _, _ => by rw [weiL, memL]
  | t :: l, a, b => by
    rw [weiL, memL, ← wei_ok v t]
    cases h : (weiT t v).2.2
    · rw [if_neg (by decide), Bool.false_or]; exact weiL_ok v l a b
    · rw [if_pos rfl, Bool.true_or]
end
mutual
theorem wei_no (v : Int) : ∀ t : S27, memT t v = false → weiT t v = (0, 0, false)
  | ⟨th, ns, inn⟩, h => by
    rw [memT, Bool.or_eq_false_iff] at h
    rw [weiT, if_neg (by rw [h.1]; decide)]
    exact weiL_no v inn _ _ h.2
theorem weiL_no (v : Int) : ∀ (l : List S27) (a b : Int), memL l v = false → weiL l v a b = (0, 0, false)
  | [], _, _, _ => by rw [weiL]
  | t :: l, a, b, h => by
    rw [memL, Bool.or_eq_false_iff] at h
    rw [weiL, if_neg (by rw [wei_ok, h.1]; decide)]
    exact weiL_no v l a b h.2
end
theorem depL_ge : ∀ (l : List S27) (c : Int), c ≤ depL l c ∧ ∀ x ∈ l, depT x ≤ depL l c
  | [], c => ⟨by rw [depL]; omega, fun x hx => by cases hx⟩
  | t :: l, c => by
    obtain ⟨h1, h2⟩ := depL_ge l (mx c (depT t))
    have hm : c ≤ mx c (depT t) ∧ depT t ≤ mx c (depT t) := by unfold mx; split <;> omega
    rw [depL]
    refine ⟨by omega, fun x hx => ?_⟩
    rcases List.mem_cons.1 hx with rfl | hx
    · omega
    · exact h2 x hx
theorem sizT_nn (t : S27) : 0 ≤ sizT t := (siz_bd (fuT t) t (Nat.le_refl _)).1
theorem sizL_ge : ∀ (l : List S27) (c : Int), c ≤ sizL l c ∧ (0 ≤ c → ∀ x ∈ l, sizT x ≤ sizL l c)
  | [], c => ⟨by rw [sizL]; omega, fun _ x hx => by cases hx⟩
  | t :: l, c => by
    have ht := sizT_nn t
    obtain ⟨h1, h2⟩ := sizL_ge l (c + sizT t)
    rw [sizL]
    refine ⟨by omega, fun hc x hx => ?_⟩
    rcases List.mem_cons.1 hx with rfl | hx
    · omega
    · exact h2 (by omega) x hx
theorem chkL_mem : ∀ {l : List S27}, chkL l = 0 → ∀ x ∈ l, chkT x = 0
  | [], _, x, hx => by cases hx
  | t :: l, h, x, hx => by
    obtain ⟨h1, h2⟩ := chkL_cons h
    rcases List.mem_cons.1 hx with rfl | hx
    · exact h1
    · exact chkL_mem h2 x hx
/-- a trust of so many levels at most, whole and not great -/
structure Ok (t : S27) (d : Nat) : Prop where
  dep : depT t ≤ d
  siz : sizT t ≤ 200
  chk : chkT t = 0
theorem Ok.inner {th : Int} {ns : List Int} {inn : List S27} {d : Nat} (h : Ok ⟨th, ns, inn⟩ (d + 1)) : ∀ x ∈ inn, Ok x d := by
  intro x hx
  have h1 := h.dep
  have h2 := h.siz
  rw [depT] at h1
  rw [sizT] at h2
  have a := (depL_ge inn 0).2 x hx
  have b := (sizL_ge inn ((ns.length : Int) + (inn.length : Int))).2 (by omega) x hx
  exact ⟨by omega, by omega, chkL_mem (chkT_ok h.chk).2.2.2.2 x hx⟩
theorem Ok.zero {t : S27} (h : Ok t 0) : False := by
  have h1 := h.dep
  obtain ⟨th, ns, inn⟩ := t
  rw [depT] at h1
  have := (depL_ge inn 0).1
  omega
theorem Ok.top {th : Int} {ns : List Int} {inn : List S27} {d : Nat} (h : Ok ⟨th, ns, inn⟩ d) : 1 ≤ th ∧ th ≤ (ns.length : Int) + (inn.length : Int) ∧ (ns.length : Int) + (inn.length : Int) ≤ 200 := by
  have h2 := h.siz
  rw [sizT] at h2
  have b := (sizL_ge inn ((ns.length : Int) + (inn.length : Int))).1
  obtain ⟨a1, a2, _⟩ := chkT_ok h.chk
  exact ⟨a1, a2, by omega⟩
def bdW : Nat → Int
  | 0 => 1
  | d + 1 => 200 * bdW d
theorem bdW_pos (d : Nat) : 1 ≤ bdW d := by induction d with | zero => exact Int.le_refl _ | succ d ih => rw [bdW]; omega
theorem bdW_le (d : Nat) (h : d ≤ 4) : bdW d ≤ 1600000000 := by
  have : d = 0 ∨ d = 1 ∨ d = 2 ∨ d = 3 ∨ d = 4 := by omega
  rcases this with rfl | rfl | rfl | rfl | rfl <;> decide
/-- a weight: a part of a whole -/
structure Part (w : Int × Int × Bool) (d : Nat) : Prop where
  one : 1 ≤ w.1
  le : w.1 ≤ w.2.1
  bd : w.2.1 ≤ bdW d
theorem part_mul {a b : Int} {w : Int × Int × Bool} {d : Nat} (h : Part w d) (h1 : 1 ≤ a) (h2 : a ≤ b) (h3 : b ≤ 200) : 1 ≤ a * w.1 ∧ a * w.1 ≤ b * w.2.1 ∧ b * w.2.1 ≤ bdW (d + 1) := by
  have p1 := h.one
  have p2 := h.le
  have p3 := h.bd
  refine ⟨?_, Int.mul_le_mul h2 p2 (by omega) (by omega), ?_⟩
  · have := Int.mul_le_mul h1 p1 (by omega) (by omega)
    omega
  · rw [bdW]; exact Int.mul_le_mul h3 p3 (by omega) (by omega)
theorem wei_part (v : Int) (d : Nat) : ∀ t : S27, Ok t d → (weiT t v).2.2 = true → Part (weiT t v) d := by
  induction d with
  | zero => intro t h; exact h.zero.elim
  | succ d ih =>
    intro t h
    obtain ⟨th, ns, inn⟩ := t
    obtain ⟨t1, t2, t3⟩ := h.top
    have hin := h.inner
    have bp := bdW_pos d
    rw [weiT]
    cases hc : ns.contains v
    · rw [if_neg (by decide)]
      generalize (ns.length : Int) + (inn.length : Int) = b at t2 t3
      clear h hc
      induction inn with
      | nil => intro hw; rw [weiL] at hw; cases hw
      | cons x l ihl =>
        intro hw
        rw [weiL] at hw ⊢
        cases hx : (weiT x v).2.2
        · rw [hx, if_neg (by decide)] at hw
          rw [if_neg (by decide)]
          exact ihl (fun y hy => hin y (List.mem_cons_of_mem _ hy)) hw
        · rw [if_pos rfl]
          obtain ⟨q1, q2, q3⟩ := part_mul (ih x (hin x List.mem_cons_self) hx) t1 t2 t3
          exact ⟨q1, q2, q3⟩
    · rw [if_pos rfl]
      intro _
      exact ⟨t1, t2, by rw [bdW]; show (ns.length : Int) + (inn.length : Int) ≤ _; omega⟩
theorem index_loop (l : List Int) (v : Int) (hl : l.length ≤ 1000000) (r : Nat) : ∀ (s k : Nat), s + r = l.length → r + 1 ≤ k → ∃ x, slices_Index_int_int.l0 k l v (l.length : Int) (s : Int) = some x ∧ decide (x ≥ 0) = (l.drop s).contains v := by
  induction r with
  | zero =>
    intro s k h1 hk
    obtain ⟨k, rfl⟩ : ∃ q, k = q + 1 := ⟨k - 1, by omega⟩
    exact ⟨-1, by rw [slices_Index_int_int.l0, if_neg (by omega)], by rw [List.drop_of_length_le (by omega)]; rfl⟩
  | succ r ih =>
    intro s k h1 hk
    obtain ⟨k, rfl⟩ : ∃ q, k = q + 1 := ⟨k - 1, by omega⟩
    have hs : s < l.length := by omega
    have ho : (l.drop s).contains v = (v == l[s] || (l.drop (s + 1)).contains v) := by rw [List.drop_eq_getElem_cons hs, List.contains_cons]
    rw [slices_Index_int_int.l0, if_pos (by omega), if_pos (by omega), if_pos (by omega), rd_at l s hs, ho]
    by_cases hb : v = l[s]
    · exact ⟨(s : Int), by rw [if_pos hb], by rw [beq_iff_eq.2 hb, decide_eq_true (by omega), Bool.true_or]⟩
    · obtain ⟨x, hx, hd⟩ := ih (s + 1) k (by omega) (by omega)
      exact ⟨x, by rw [if_neg hb, nx s (by omega)]; exact hx, by rw [hd, beq_eq_false_iff_ne.2 hb, Bool.false_or]⟩
theorem contains_eq (l : List Int) (v : Int) (hl : l.length ≤ 1000000) {k : Nat} (hk : l.length + 1 ≤ k) : slices_Contains_int_int.f k l v = some (l.contains v) := by
  obtain ⟨x, hx, hd⟩ := index_loop l v hl l.length 0 k (by omega) hk
  unfold slices_Contains_int_int.f slices_Index_int_int.f
  rw [show (0 : Int) = ((0 : Nat) : Int) from rfl, hx]
  simp only [Option.bind_some]
  rw [List.drop_zero] at hd
  rw [← hd]
  rfl
theorem weight_eq (v : Int) (d : Nat) : d ≤ 4 → ∀ (t : S27) (k : Nat), Ok t d → fuT t ≤ 1000000 → fuT t ≤ k → leaders_weight.f k t.f0 t.f1 t.f2 v = some (weiT t v) := by
  induction d with
  | zero => intro _ t k h; exact h.zero.elim
  | succ d ih =>
    intro hd4 t k h hb hk
    have ih := ih (by omega)
    obtain ⟨th, ns, inn⟩ := t
    rw [fuT] at hb hk
    have hl := fuL_len inn
    obtain ⟨t1, t2, t3⟩ := h.top
    have hin := h.inner
    have hbd := bdW_le (d + 1) hd4
    have key : ∀ (r s : Nat) (k : Nat), s + r = inn.length → fuL (inn.drop s) + 2 ≤ k → leaders_weight.l0 k v inn (inn.length : Int) (s : Int) th ((ns.length : Int) + (inn.length : Int)) = some (weiL (inn.drop s) v th ((ns.length : Int) + (inn.length : Int))) := by
      intro r
      induction r with
      | zero =>
        intro s k h1 hk
        obtain ⟨k, rfl⟩ : ∃ m, k = m + 1 := ⟨k - 1, by omega⟩
        rw [leaders_weight.l0, if_neg (by omega), List.drop_of_length_le (by omega), weiL]
      | succ r ihr =>
        intro s k h1 hk
        obtain ⟨k, rfl⟩ : ∃ m, k = m + 1 := ⟨k - 1, by omega⟩
        have hs : s < inn.length := by omega
        have hd := fuL_drop inn s hs
        have hle := fuL_le inn s
        rw [leaders_weight.l0, if_pos (by omega), if_pos (by omega), if_pos (by omega), rdS_at inn s hs, ih inn[s] k (hin _ (List.getElem_mem hs)) (by omega) (by omega)]
        simp only [Option.bind_some]
        rw [nx s (by omega), List.drop_eq_getElem_cons hs, weiL]
        cases hx : (weiT inn[s] v).2.2
        · rw [if_neg (by decide), if_neg (by decide)]; exact ihr (s + 1) k (by omega) (by omega)
        · obtain ⟨q1, q2, q3⟩ := part_mul (wei_part v d _ (hin _ (List.getElem_mem hs)) hx) t1 t2 t3
          rw [if_pos rfl, if_pos rfl, w64 (x := th * (weiT inn[s] v).1) (by omega) (by omega), w64 (x := ((ns.length : Int) + (inn.length : Int)) * (weiT inn[s] v).2.1) (by omega) (by omega)]
    obtain ⟨k, rfl⟩ : ∃ m, k = m + 1 := ⟨k - 1, by omega⟩
    show leaders_weight.f (k + 1) th ns inn v = _
    rw [leaders_weight.f, contains_eq ns v (by omega) (by omega), weiT, w64 (x := (ns.length : Int) + (inn.length : Int)) (by omega) (by omega)]
    simp only [Option.bind_some]
    cases hc : ns.contains v
    · rw [if_neg (by decide), if_neg (by decide)]; exact key inn.length 0 k (by omega) (by rw [List.drop_zero]; omega)
    · rw [if_pos rfl, if_pos rfl]
theorem Ok.val {t : S27} {d : Nat} (hd : d ≤ 4) (h : Ok t d) : valT t = 0 := valT_ok h.chk (by have := h.dep; omega) h.siz
theorem Weight_eq (v : Int) {d : Nat} (hd : d ≤ 4) (t : S27) {k : Nat} (h : Ok t d) (hb : fuT t ≤ 1000000) (hk : fuT t ≤ k) : leaders_Weight.f k t.f0 t.f1 t.f2 v = some (weiT t v) := by
  unfold leaders_Weight.f
  rw [valid_eq t hb hk, h.val hd]
  simp only [Option.bind_some, if_true]
  rw [weight_eq v d hd t k h hb hk]; rfl
theorem awake_eq {k : Nat} (hk : 200 ≤ k) : trustquorumlaw21_awake.f k = some true := by
  have h : Ok (⟨2, [0, 1], [⟨1, [2, 3], []⟩]⟩ : S27) 4 := ⟨by decide +kernel, by decide +kernel, by decide +kernel⟩
  have hb : fuT (⟨2, [0, 1], [⟨1, [2, 3], []⟩]⟩ : S27) ≤ 100 := by decide +kernel
  have w (v : Int) := Weight_eq v (by omega) _ h (k := k) (by omega) (by omega)
  have w0 := w 0
  have w3 := w 3
  have w4 := w 4
  rw [show weiT (⟨2, [0, 1], [⟨1, [2, 3], []⟩]⟩ : S27) 0 = (2, 3, true) by decide +kernel] at w0
  rw [show weiT (⟨2, [0, 1], [⟨1, [2, 3], []⟩]⟩ : S27) 3 = (2, 6, true) by decide +kernel] at w3
  rw [show weiT (⟨2, [0, 1], [⟨1, [2, 3], []⟩]⟩ : S27) 4 = (0, 0, false) by decide +kernel] at w4
  unfold trustquorumlaw21_awake.f
  simp only [Option.bind_some]
  rw [w0, w3, w4]
  rfl

-- neighbours
def hsh (a b c d : Int) : Int := (leaders_Hash.f a b c d).getD 0
theorem hash_eq (a b c d : Int) : leaders_Hash.f a b c d = some (hsh a b c d) := by unfold hsh leaders_Hash.f; rfl
theorem hash_bd (a b c d : Int) : 0 ≤ hsh a b c d ∧ hsh a b c d < 4294967296 := by
  unfold hsh leaders_Hash.f
  rw [Option.getD_some]
  exact ⟨Int.emod_nonneg _ (by decide), Int.emod_lt_of_pos _ (by decide)⟩
theorem u64 {x : Int} (h : 0 ≤ x) (h' : x < 18446744073709551616) : IntKind.u64.wrap x = x := by rw [IntKind.wrap_u64]; omega
def nbT (t : S27) (own slot round v : Int) : Bool := if v = own then true else if (weiT t v).2.2 = true then decide (hsh 1 slot round v * (weiT t v).2.1 < (weiT t v).1 * 4294967296) else false
theorem neighbour_eq {d : Nat} (hd : d ≤ 4) (t : S27) {k : Nat} (h : Ok t d) (hb : fuT t ≤ 1000000) (hk : fuT t ≤ k) (own slot round v : Int) : leaders_neighbour.f k t.f0 t.f1 t.f2 own slot round v = some (nbT t own slot round v) := by
  unfold leaders_neighbour.f nbT
  by_cases ho : v = own
  · rw [if_pos ho, if_pos ho]
  · rw [if_neg ho, if_neg ho, weight_eq v d hd t k h hb hk]
    simp only [Option.bind_some]
    cases hw : (weiT t v).2.2
    · rw [if_neg (by decide), if_neg (by decide)]
    · have p := wei_part v d t h hw
      have p1 := p.one
      have p2 := p.le
      have p3 := p.bd
      have hbd := bdW_le d hd
      obtain ⟨b0, b1⟩ := hash_bd 1 slot round v
      rw [if_pos rfl, if_pos rfl, hash_eq]
      simp only [Option.bind_some]
      have m1 : hsh 1 slot round v * (weiT t v).2.1 ≤ 4294967296 * 1600000000 := Int.mul_le_mul (by omega) (by omega) (by omega) (by omega)
      have m0 : 0 ≤ hsh 1 slot round v * (weiT t v).2.1 := Int.mul_nonneg b0 (by omega)
      rw [u64 (x := hsh 1 slot round v) (by omega) (by omega), u64 (x := (weiT t v).2.1) (by omega) (by omega), u64 (x := (weiT t v).1) (by omega) (by omega), u64 (x := hsh 1 slot round v * (weiT t v).2.1) (by omega) (by omega), u64 (x := (weiT t v).1 * 4294967296) (by omega) (by omega)]
theorem asked_eq {d : Nat} (hd : d ≤ 4) (t : S27) {k : Nat} (h : Ok t d) (hb : fuT t ≤ 1000000) (hk : fuT t + 1 ≤ k) {own slot round : Int} (o0 : 0 ≤ own) (o1 : own < 10) (s0 : 0 ≤ slot) (s1 : slot ≤ 1000000) (r0 : 1 ≤ round) (r1 : round ≤ 1000) : leaders_asked.f k t.f0 t.f1 t.f2 own slot round = some 0 := by
  obtain ⟨k, rfl⟩ : ∃ m, k = m + 1 := ⟨k - 1, by omega⟩
  unfold leaders_asked.f
  rw [valid_eq t hb (by omega), h.val hd]
  simp only [Option.bind_some, if_true]
  rw [if_neg (by omega), leaders_asked.j0, decide_eq_false (by omega), if_neg (by decide), if_neg (by omega), if_neg (by omega), if_neg (by omega), if_neg (by omega)]

theorem Neighbour_eq {d : Nat} (hd : d ≤ 4) (t : S27) {k : Nat} (h : Ok t d) (hb : fuT t ≤ 1000000) (hk : fuT t + 1 ≤ k) {own slot round v : Int} (o0 : 0 ≤ own) (o1 : own < 10) (s0 : 0 ≤ slot) (s1 : slot ≤ 1000000) (r0 : 1 ≤ round) (r1 : round ≤ 1000) (v0 : 0 ≤ v) (v1 : v < 10) : leaders_Neighbour.f k t.f0 t.f1 t.f2 own slot round v = some (nbT t own slot round v) := by
  unfold leaders_Neighbour.f
  rw [asked_eq hd t h hb hk o0 o1 s0 s1 r0 r1]
  simp only [Option.bind_some, if_true]
  rw [if_neg (by omega), if_neg (by omega), neighbour_eq hd t h hb (by omega)]; rfl

-- the chosen leader
/-- the choosing, from node s on, so many nodes to go -/
def choL (t : S27) (own slot round : Int) : Nat → Nat → Int → Int → Int
  | 0, _, best, _ => best
  | r + 1, s, best, bh => if nbT t own slot round (s : Int) = true then (if hsh 2 slot round (s : Int) ≥ bh then choL t own slot round r (s + 1) (s : Int) (hsh 2 slot round (s : Int)) else choL t own slot round r (s + 1) best bh) else choL t own slot round r (s + 1) best bh
def choT (t : S27) (own slot round : Int) : Int := choL t own slot round 10 0 own 0
theorem choose_loop {d : Nat} (hd : d ≤ 4) (t : S27) (h : Ok t d) (hb : fuT t ≤ 1000000) (own slot round : Int) (r : Nat) : ∀ (s k : Nat) (best bh : Int), s + r = 10 → fuT t + r + 1 ≤ k → leaders_choose.l0 k own slot round best bh (s : Int) t.f0 t.f1 t.f2 = some (choL t own slot round r s best bh) := by
  induction r with
  | zero =>
    intro s k best bh h1 hk
    obtain ⟨k, rfl⟩ : ∃ m, k = m + 1 := ⟨k - 1, by omega⟩
    rw [leaders_choose.l0, if_neg (by omega), choL]
  | succ r ih =>
    intro s k best bh h1 hk
    obtain ⟨k, rfl⟩ : ∃ m, k = m + 1 := ⟨k - 1, by omega⟩
    rw [leaders_choose.l0, if_pos (by omega), neighbour_eq hd t h hb (by omega), choL]
    simp only [Option.bind_some]
    rw [nx s (by omega)]
    cases hn : nbT t own slot round (s : Int)
    · rw [if_neg (by decide), if_neg (by decide)]; exact ih (s + 1) k best bh (by omega) (by omega)
    · rw [if_pos rfl, if_pos rfl, hash_eq]
      simp only [Option.bind_some]
      split
      · exact ih (s + 1) k _ _ (by omega) (by omega)
      · exact ih (s + 1) k best bh (by omega) (by omega)
theorem choose_eq {d : Nat} (hd : d ≤ 4) (t : S27) {k : Nat} (h : Ok t d) (hb : fuT t ≤ 1000000) (hk : fuT t + 11 ≤ k) (own slot round : Int) : leaders_choose.f k t.f0 t.f1 t.f2 own slot round = some (choT t own slot round) := by
  unfold leaders_choose.f choT
  exact choose_loop hd t h hb own slot round 10 0 k own 0 (by omega) (by omega)
theorem Choose_eq {d : Nat} (hd : d ≤ 4) (t : S27) {k : Nat} (h : Ok t d) (hb : fuT t ≤ 1000000) (hk : fuT t + 11 ≤ k) {own slot round : Int} (o0 : 0 ≤ own) (o1 : own < 10) (s0 : 0 ≤ slot) (s1 : slot ≤ 1000000) (r0 : 1 ≤ round) (r1 : round ≤ 1000) : leaders_Choose.f k t.f0 t.f1 t.f2 own slot round = some (choT t own slot round, 0) := by
  unfold leaders_Choose.f
  rw [asked_eq hd t h hb (by omega) o0 o1 s0 s1 r0 r1]
  simp only [Option.bind_some, if_true]
  rw [choose_eq hd t h hb hk]; rfl
/-- what holds of the best so far -/
structure Best (t : S27) (own slot round : Int) (s : Nat) (best bh : Int) : Prop where
  nb : nbT t own slot round best = true
  b0 : 0 ≤ best
  b1 : best < 10
  hb : 0 ≤ bh
  le : bh ≤ hsh 2 slot round best
  eq : (bh = hsh 2 slot round best) ∨ (bh = 0 ∧ ∀ x : Nat, x < s → nbT t own slot round (x : Int) = false)
  most : ∀ x : Nat, x < s → nbT t own slot round (x : Int) = true → hsh 2 slot round (x : Int) ≤ bh ∧ (hsh 2 slot round (x : Int) = bh → (x : Int) ≤ best)
theorem cho_best (t : S27) (own slot round : Int) (r : Nat) : ∀ (s : Nat) (best bh : Int), s + r = 10 → Best t own slot round s best bh → ∃ bh', Best t own slot round 10 (choL t own slot round r s best bh) bh' := by
  induction r with
  | zero => intro s best bh h1 h; rw [choL]; rw [show s = 10 by omega] at h; exact ⟨bh, h⟩
  | succ r ih =>
    intro s best bh h1 h
    rw [choL]
    cases hn : nbT t own slot round (s : Int)
    · rw [if_neg (by decide)]
      refine ih (s + 1) best bh (by omega) ⟨h.nb, h.b0, h.b1, h.hb, h.le, ?_, ?_⟩
      · rcases h.eq with e | e
        · exact .inl e
        · refine .inr ⟨e.1, fun x hx => ?_⟩
          by_cases hs : x = s
          · rw [hs]; exact hn
          · exact e.2 x (by omega)
      · intro x hx hxn
        by_cases hs : x = s
        · rw [hs, hn] at hxn; cases hxn
        · exact h.most x (by omega) hxn
    · rw [if_pos rfl]
      by_cases hg : hsh 2 slot round (s : Int) ≥ bh
      · rw [if_pos hg]
        refine ih (s + 1) _ _ (by omega) ⟨hn, by omega, by omega, (hash_bd _ _ _ _).1, Int.le_refl _, .inl rfl, ?_⟩
        intro x hx hxn
        by_cases hs : x = s
        · rw [hs]; exact ⟨Int.le_refl _, fun _ => Int.le_refl _⟩
        · have := h.most x (by omega) hxn
          exact ⟨by omega, fun _ => by omega⟩
      · rw [if_neg hg]
        refine ih (s + 1) best bh (by omega) ⟨h.nb, h.b0, h.b1, h.hb, h.le, ?_, ?_⟩
        · rcases h.eq with e | e
          · exact .inl e
          · have := (hash_bd 2 slot round (s : Int)).1
            exact absurd hg (by rw [e.1]; omega)
        · intro x hx hxn
          by_cases hs : x = s
          · rw [hs]; exact ⟨by omega, fun _ => by omega⟩
          · exact h.most x (by omega) hxn
theorem cho_all (t : S27) {own slot round : Int} (o0 : 0 ≤ own) (o1 : own < 10) : nbT t own slot round (choT t own slot round) = true ∧ 0 ≤ choT t own slot round ∧ choT t own slot round < 10 ∧
    ∀ x : Nat, x < 10 → nbT t own slot round (x : Int) = true → hsh 2 slot round (x : Int) ≤ hsh 2 slot round (choT t own slot round) ∧ (hsh 2 slot round (x : Int) = hsh 2 slot round (choT t own slot round) → (x : Int) ≤ choT t own slot round) := by
  have hown : nbT t own slot round own = true := by unfold nbT; rw [if_pos rfl]
  obtain ⟨bh, h⟩ := cho_best t own slot round 10 0 own 0 (by omega) ⟨hown, o0, o1, Int.le_refl _, (hash_bd _ _ _ _).1, .inr ⟨rfl, fun x hx => by omega⟩, fun x hx => by omega⟩
  refine ⟨h.nb, h.b0, h.b1, ?_⟩
  have e : bh = hsh 2 slot round (choT t own slot round) := by
    rcases h.eq with e | e
    · exact e
    · have := e.2 own.toNat (by omega)
      rw [Int.toNat_of_nonneg o0, hown] at this; cases this
  rw [← e]
  exact h.most
theorem nb_mem {t : S27} {own slot round v : Int} (h : nbT t own slot round v = true) : v = own ∨ memT t v = true := by
  unfold nbT at h
  by_cases ho : v = own
  · exact .inl ho
  · rw [if_neg ho] at h
    cases hw : (weiT t v).2.2
    · rw [hw, if_neg (by decide)] at h; cases h
    · rw [← wei_ok]; exact .inr hw

theorem ob {α β : Type} (a : α) (f : α → Option β) : (some a).bind f = f a := by rw [Option.bind_some]
theorem chosen_loop (t : S27) (ht : Ok t 4) (hf : fuT t ≤ 5800) {own slot round best : Int} (o0 : 0 ≤ own) (o1 : own < 10) (s0 : 0 ≤ slot) (s1 : slot ≤ 1000000) (r0 : 1 ≤ round) (r1 : round ≤ 1000)
    (hm : ∀ x : Nat, x < 10 → nbT t own slot round (x : Int) = true → hsh 2 slot round (x : Int) ≤ hsh 2 slot round best ∧ (hsh 2 slot round (x : Int) = hsh 2 slot round best → (x : Int) ≤ best)) (r : Nat) :
    ∀ (s k : Nat), s + r = 10 → 6000 + r ≤ k → trustquorumlaw21_LeadersChosen.l0 k own slot round best (s : Int) t.f0 t.f1 t.f2 = some true := by
  induction r with
  | zero =>
    intro s k h1 hk
    obtain ⟨k, rfl⟩ : ∃ m, k = m + 1 := ⟨k - 1, by omega⟩
    rw [trustquorumlaw21_LeadersChosen.l0, if_neg (by omega), awake_eq (by omega)]; rfl
  | succ r ih =>
    intro s k h1 hk
    obtain ⟨k, rfl⟩ : ∃ m, k = m + 1 := ⟨k - 1, by omega⟩
    have nxt := ih (s + 1) k (by omega) (by omega)
    rw [trustquorumlaw21_LeadersChosen.l0, if_pos (by omega), Neighbour_eq (by omega) t ht (by omega) (by omega) o0 o1 s0 s1 r0 r1 (by omega) (by omega)]
    simp only [Option.bind_some]
    rw [nx s (by omega)]
    cases hn : nbT t own slot round (s : Int)
    · rw [if_neg (by decide)]; exact nxt
    · obtain ⟨m1, m2⟩ := hm s (by omega) hn
      have e1 := hash_eq 2 slot round (s : Int)
      have e2 := hash_eq 2 slot round best
      generalize hsh 2 slot round (s : Int) = u at m1 m2 e1
      generalize hsh 2 slot round best = v at m1 m2 e2
      rw [if_pos rfl, e1, e2, ob, ob]
      rw [if_neg (by omega)]
      by_cases hb : (s : Int) > best
      · rw [if_pos hb, ob, ob, if_neg (fun e => by have := m2 e; omega)]; exact nxt
      · rw [if_neg hb]; exact nxt
theorem LeadersChosen : trustquorumlaw21_LeadersChosen.Pure := by
  intro l0 _ _ _
  obtain ⟨L, hL, s0⟩ := New_eq l0
  obtain ⟨n, p1, h1, n0, n1, s1⟩ := Range_eq (a := 1) (b := 10) s0 (by omega) (by omega) (by omega)
  obtain ⟨K, hK⟩ : ∃ K, 8000 ≤ K := ⟨8000, Nat.le_refl _⟩
  obtain ⟨th, ns, inn, p2, h2, hf, hc, hd, hz, s2⟩ := Trust_eq s1 n0 n1 3 (by omega) (k := K + 1) (by omega)
  obtain ⟨a, p3, h3, a0, a1, s3⟩ := N_eq (n := 10) s2 (by omega) (by omega)
  obtain ⟨x, p4, h4, x0, x1, s4⟩ := N_eq (n := 1000) s3 (by omega) (by omega)
  obtain ⟨y, p5, h5, y0, y1, s5⟩ := Range_eq (a := 1) (b := 50) s4 (by omega) (by omega) (by omega)
  have ht : Ok (⟨th, ns, inn⟩ : S27) 4 := ⟨hd, hz, hc⟩
  refine ⟨K + 1, ?_⟩
  unfold trustquorumlaw21_LeadersChosen.f
  rw [hL]; simp only [Option.bind_some]
  rw [h1]; simp only [Option.bind_some]
  rw [show (3 : Int) = ((3 : Nat) : Int) from rfl, h2]; simp only [Option.bind_some]
  rw [h3]; simp only [Option.bind_some]
  rw [h4]; simp only [Option.bind_some]
  rw [h5]; simp only [Option.bind_some]
  have c := Choose_eq (by omega) _ ht (k := K + 1) (by omega) (by omega) a0 a1 x0 (show x ≤ 1000000 by omega) y0 (show y ≤ 1000 by omega)
  obtain ⟨q1, q2, q3, q4⟩ := cho_all (⟨th, ns, inn⟩ : S27) (slot := x) (round := y) a0 a1
  have n1 := Neighbour_eq (by omega) _ ht (k := K + 1) (by omega) (by omega) a0 a1 x0 (show x ≤ 1000000 by omega) y0 (show y ≤ 1000 by omega) q2 q3
  have n2 := Neighbour_eq (by omega) _ ht (k := K + 1) (by omega) (by omega) a0 a1 x0 (show x ≤ 1000000 by omega) y0 (show y ≤ 1000 by omega) a0 a1
  have hown : nbT (⟨th, ns, inn⟩ : S27) a x y a = true := by unfold nbT; rw [if_pos rfl]
  rw [hown] at n2
  rw [q1] at n1
  simp only at c n1 n2
  rw [c]; simp only [Option.bind_some, if_true]
  rw [n1]; simp only [Option.bind_some, if_true]
  rw [n2]; simp only [Option.bind_some, if_true]
  have fin : trustquorumlaw21_LeadersChosen.j0 (K + 1) a x y (choT (⟨th, ns, inn⟩ : S27) a x y) false th ns inn = some true := by
    rw [trustquorumlaw21_LeadersChosen.j0, if_neg (by decide)]
    exact chosen_loop _ ht hf a0 a1 x0 (by omega) y0 (by omega) q4 10 0 K (by omega) (by omega)
  by_cases ho : choT (⟨th, ns, inn⟩ : S27) a x y = a
  · rw [if_pos ho]; exact fin
  · rw [if_neg ho]
    have hm := (nb_mem q1).resolve_left ho
    have u := usesref_eq _ (⟨th, ns, inn⟩ : S27) (K + 1) (Nat.le_refl _) (by omega) (by omega)
    simp only at u
    rw [u]; simp only [Option.bind_some]
    rw [has_ref _ (useT_lt _), tb_useT, hm, decide_eq_true ⟨q2, q3⟩]
    simp only [Option.bind_some]
    exact fin

end Go.Proofs.Ytphndccgadblnaa.Pure
