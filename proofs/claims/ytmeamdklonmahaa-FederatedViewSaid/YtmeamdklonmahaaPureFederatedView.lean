/- For every list of numbers, the configuration that a node sees holds its own trust, and of each other node the trust of its last message, if it has sent one: the statement over numbers and lists that the row asks. No condition. -/
import Derived.Test.YtmeamdklonmahaaQFederatedViewx14
import Derived.OpenShut
set_option linter.unusedSimpArgs false
set_option linter.unusedVariables false
namespace Go.Proofs.Ytmeamdklonmahaa.Pure
open Go.RowKit Go.Proofs.Ytmeamdklonmahaa.QFederatedView Go.Proofs.YtmeamdklonmahaaW.PrintWords Go.Proofs.YtmeamdklonmahaaW.PrintLast Go.Proofs.YtmeamdklonmahaaW.PrintMore

-- numbers, bits of sets, and the source of numbers
theorem w64 {x : Int} (h : -9223372036854775808 ≤ x) (h' : x ≤ 9223372036854775807) : wrap64 x = x := by unfold wrap64; omega
structure St (L : List Int) (p : Int) : Prop where
  len : L.length ≤ 400
  lo : 0 ≤ p
  hi : p ≤ 400
theorem New_eq (l : List Int) : ∃ L, trustquorummake_New.f l = some (L, 0) ∧ St L 0 := by
  unfold trustquorummake_New.f
  have h0 : 0 ≤ mn (l.length : Int) 400 := by unfold mn; split <;> omega
  have h1 : mn (l.length : Int) 400 ≤ l.length := by unfold mn; split <;> omega
  have h2 : mn (l.length : Int) 400 ≤ 400 := by unfold mn; split <;> omega
  rw [if_pos h0, if_pos h1]
  refine ⟨_, rfl, ⟨?_, by omega, by omega⟩⟩
  rw [List.length_take]; omega
theorem N_eq {L : List Int} {p n : Int} (h : St L p) (hn : 1 ≤ n) (hn2 : n ≤ 1000000) : ∃ r p', trustquorummake_Tape_N.f L p n = some (r, p') ∧ 0 ≤ r ∧ r < n ∧ St L p' := by
  unfold trustquorummake_Tape_N.f
  by_cases h1 : p ≥ (L.length : Int)
  · exact ⟨0, p, by rw [if_pos h1], by omega, by omega, h⟩
  · have hp : p < L.length := by omega
    have h3 := h.len
    have h4 := h.lo
    have e1 : wrap64 (p + 1) = p + 1 := w64 (by omega) (by omega)
    have b1 := Int.tmod_lt_of_pos (rd L p) (show 0 < n by omega)
    have b2 := Int.lt_tmod_of_pos (rd L p) (show 0 < n by omega)
    rw [if_neg h1, if_pos h.lo, if_pos hp, if_neg (by omega), e1]
    by_cases h5 : Int.tmod (rd L p) n < 0
    · rw [if_pos h5, w64 (by omega) (by omega)]
      exact ⟨_, _, rfl, by omega, by omega, ⟨h.len, by omega, by omega⟩⟩
    · rw [if_neg h5]
      exact ⟨_, _, rfl, by omega, by omega, ⟨h.len, by omega, by omega⟩⟩
theorem Range_eq {L : List Int} {p a b : Int} (h : St L p) (ha : -1000 ≤ a) (hab : a ≤ b) (hb : b ≤ 100000) : ∃ r p', trustquorummake_Tape_Range.f L p a b = some (r, p') ∧ a ≤ r ∧ r ≤ b ∧ St L p' := by
  have e1 : wrap64 (b - a) = b - a := w64 (by omega) (by omega)
  have e2 : wrap64 (b - a + 1) = b - a + 1 := w64 (by omega) (by omega)
  obtain ⟨r, p', hr, h0, h1, hs⟩ := N_eq (n := b - a + 1) h (by omega) (by omega)
  refine ⟨a + r, p', ?_, by omega, by omega, hs⟩
  unfold trustquorummake_Tape_Range.f
  rw [e1, e2, hr]
  simp only [Option.bind_some]
  rw [w64 (x := a + r) (by omega) (by omega)]
theorem rd_at (l : List Int) (s : Nat) (h : s < l.length) : rd l (s : Int) = l[s]'h := by unfold rd; simp [List.getD, h]
theorem rdS_at (l : List S48) (s : Nat) (h : s < l.length) : rd_T48 l (s : Int) = l[s]'h := by unfold rd_T48; simp [List.getD, h]
theorem nx (s : Nat) (h : s ≤ 10000000) : wrap64 ((s : Int) + 1) = ((s + 1 : Nat) : Int) := by rw [w64 (by omega) (by omega)]; omega
/-- is node k in the set m -/
def tb (m : Nat) (k : Int) : Bool := decide (0 ≤ k) && decide (k < 10) && m.testBit k.toNat
theorem shl_eq : ∀ i, i < 10 → shl .i64 1 ((i : Nat) : Int) = ((2 ^ i : Nat) : Int) := by decide +kernel
theorem wr10 (n : Int) (h0 : 0 ≤ n) (h1 : n < 2 ^ 10) : IntKind.i64.wrap n = n := by rw [IntKind.wrap_i64]; omega
theorem and_eq (a b : Nat) (ha : a < 1024) (hb : b < 1024) : Go.bits .and .i64 (a : Int) (b : Int) = ((a &&& b : Nat) : Int) := (bits_nat .i64 10 (by decide) wr10 a b ha hb).1
theorem or_eq (a b : Nat) (ha : a < 1024) (hb : b < 1024) : Go.bits .or .i64 (a : Int) (b : Int) = ((a ||| b : Nat) : Int) := (bits_nat .i64 10 (by decide) wr10 a b ha hb).2
theorem pow_lt (i : Nat) (h : i < 10) : 2 ^ i < 1024 := by
  have : 2 ^ i < 2 ^ 10 := Nat.pow_lt_pow_right (by decide) h
  omega
theorem shr_eq (m i : Nat) (hi : i < 10) : shr .i64 (m : Int) (i : Int) = ((m / 2 ^ i : Nat) : Int) := by
  unfold shr
  have e : min ((i : Int)).toNat IntKind.i64.bits = i := by
    have : IntKind.i64.bits = 64 := by decide
    rw [this]; omega
  rw [e]; simp
theorem has_ref (m : Nat) (hm : m < 1024) (k : Int) : trustquorumref01_Has.f (m : Int) k = some (tb m k) := by
  unfold trustquorumref01_Has.f trustquorumref01_Valid.f tb
  rw [if_pos (by omega), decide_eq_true (show (m : Int) ≤ 1023 by omega)]
  simp only [Option.bind_some, if_true]
  by_cases h0 : k ≥ 0
  · rw [if_pos h0]
    by_cases h1 : k < 10
    · obtain ⟨i, rfl⟩ := Int.eq_ofNat_of_zero_le h0
      have hd : m / 2 ^ i < 1024 := Nat.lt_of_le_of_lt (Nat.div_le_self _ _) hm
      have a1 := and_eq (m / 2 ^ i) 1 hd (by omega)
      rw [if_pos h1, if_pos h0, shr_eq m i (by omega)]
      rw [show ((1 : Nat) : Int) = 1 from rfl] at a1
      rw [a1, decide_eq_true (show 0 ≤ (i : Int) by omega), decide_eq_true h1, Int.toNat_natCast, Nat.and_one_is_mod, Nat.testBit_eq_decide_div_mod_eq]
      congr 1
      simp only [Bool.true_and]
      by_cases h : m / 2 ^ i % 2 = 1
      · rw [h]; rfl
      · rw [decide_eq_false h, beq_eq_false_iff_ne]; omega
    · rw [if_neg h1, decide_eq_false h1]; simp
  · rw [if_neg h0, decide_eq_false (show ¬ 0 ≤ k by omega)]; simp

theorem shl10 : shl .i64 1 10 = 1024 := by decide +kernel
theorem nsValid_eq (a : Int) : nodeset_Valid.f a = some (decide (0 ≤ a ∧ a < 1024)) := by
  unfold nodeset_Valid.f nodeset_below.f
  rw [shl10]
  by_cases h : a ≥ 0
  · rw [if_pos h, if_pos (by omega)]
    simp only [Option.bind_some]
    congr 1; rw [decide_eq_decide]; omega
  · rw [if_neg h]
    simp only [Option.bind_some]
    congr 1; rw [eq_comm, decide_eq_false_iff_not]; omega
theorem and_pow (m i : Nat) : (((m &&& 2 ^ i : Nat) : Int) != 0) = m.testBit i := by
  cases h : m.testBit i
  · have e : m &&& 2 ^ i = 0 := by
      apply Nat.eq_of_testBit_eq
      intro j
      rw [Nat.testBit_and, Nat.testBit_two_pow, Nat.zero_testBit]
      by_cases hj : i = j
      · subst hj; rw [h]; rfl
      · rw [decide_eq_false hj, Bool.and_false]
    rw [e]; rfl
  · rw [bne_iff_ne]
    intro e
    have e2 : m &&& 2 ^ i = 0 := by omega
    have h2 := congrArg (fun x : Nat => x.testBit i) e2
    simp only [Nat.testBit_and, Nat.testBit_two_pow, Nat.zero_testBit, h, decide_true, Bool.and_true] at h2
    cases h2
theorem has_eq (m : Nat) (hm : m < 1024) (k : Int) : nodeset_Has.f (m : Int) k = some (tb m k) := by
  unfold nodeset_Has.f tb
  rw [nsValid_eq, decide_eq_true (show 0 ≤ (m : Int) ∧ (m : Int) < 1024 by omega)]
  simp only [Option.bind_some, if_true]
  by_cases h0 : k ≥ 0
  · rw [if_pos h0]
    by_cases h1 : k < 10
    · obtain ⟨i, rfl⟩ := Int.eq_ofNat_of_zero_le h0
      rw [if_pos h1, if_pos h0, shl_eq i (by omega), and_eq m (2 ^ i) hm (pow_lt i (by omega)), decide_eq_true (show 0 ≤ (i : Int) by omega), decide_eq_true h1, Int.toNat_natCast, and_pow]
      rfl
    · rw [if_neg h1, decide_eq_false h1]; simp
  · rw [if_neg h0, decide_eq_false (show ¬ 0 ≤ k by omega)]; simp

-- trees of trusts: a bound on rounds, and what the functions say
mutual
def fuT : S48 → Nat
  | ⟨_, ns, inn⟩ => 10 + 3 * ns.length + fuL inn
def fuL : List S48 → Nat
  | [] => 0
  | t :: l => 3 + fuT t + fuL l
end
theorem fuT_eq (t : S48) : fuT t = 10 + 3 * t.f1.length + fuL t.f2 := by cases t; rw [fuT]
theorem fuL_drop (l : List S48) (s : Nat) (h : s < l.length) : fuL (l.drop s) = 3 + fuT (l[s]'h) + fuL (l.drop (s + 1)) := by rw [List.drop_eq_getElem_cons h, fuL]
theorem fuL_len : ∀ l : List S48, l.length ≤ fuL l
  | [] => Nat.le_refl _
  | t :: l => by have := fuL_len l; rw [fuL, List.length_cons]; omega
theorem fuL_le (l : List S48) (s : Nat) : fuL (l.drop s) ≤ fuL l := by
  induction l generalizing s with
  | nil => rw [List.drop_nil]; exact Nat.le_refl _
  | cons t l ih =>
    cases s with
    | zero => exact Nat.le_refl _
    | succ s => rw [List.drop_succ_cons, fuL]; have := ih s; omega
mutual
def depT : S48 → Int
  | ⟨_, _, inn⟩ => depL inn 0 + 1
def depL : List S48 → Int → Int
  | [], c => c
  | t :: l, c => depL l (mx c (depT t))
end
mutual
def sizT : S48 → Int
  | ⟨_, ns, inn⟩ => sizL inn ((ns.length : Int) + (inn.length : Int))
def sizL : List S48 → Int → Int
  | [], c => c
  | t :: l, c => sizL l (c + sizT t)
end
def ofR : List Int → Nat → Int × Int
  | [], m => ((m : Int), 0)
  | k :: l, m => if k < 0 ∨ 10 ≤ k then (0, 5) else if tb m k = true then (0, 6) else ofR l (m ||| 2 ^ k.toNat)
def outR (ns : List Int) : Bool := ns.any fun k => decide (k < 0 ∨ 10 ≤ k)
mutual
def chkT : S48 → Int
  | ⟨th, ns, inn⟩ => if th < 1 ∨ th > (ns.length : Int) + (inn.length : Int) then 4 else if outR ns = true then 5 else if (ofR ns 0).2 = 0 then chkL inn else (ofR ns 0).2
def chkL : List S48 → Int
  | [] => 0
  | t :: l => if chkT t = 0 then chkL l else chkT t
end
def valT (t : S48) : Int := if depT t > 4 then 3 else if sizT t > 200 then 3 else chkT t
theorem dep_bd (N : Nat) : ∀ t : S48, fuT t ≤ N → 0 ≤ depT t ∧ depT t ≤ fuT t := by
  induction N with
  | zero => intro t h; rw [fuT_eq] at h; omega
  | succ N ih =>
    intro t h
    have key : ∀ (l : List S48) (c : Int), fuL l ≤ N → 0 ≤ c → 0 ≤ depL l c ∧ depL l c ≤ c + fuL l := by
      intro l
      induction l with
      | nil => intro c _ hc; rw [depL, fuL]; omega
      | cons x l ihl =>
        intro c hf hc
        rw [fuL] at hf
        obtain ⟨a, b⟩ := ih x (by omega)
        have hm : 0 ≤ mx c (depT x) ∧ mx c (depT x) ≤ c + fuT x := by unfold mx; split <;> omega
        obtain ⟨a', b'⟩ := ihl (mx c (depT x)) (by omega) hm.1
        rw [depL, fuL]; omega
    obtain ⟨th, ns, inn⟩ := t
    rw [fuT] at h ⊢
    have := key inn 0 (by omega) (by omega)
    rw [depT]; omega
theorem siz_bd (N : Nat) : ∀ t : S48, fuT t ≤ N → 0 ≤ sizT t ∧ sizT t ≤ 2 * fuT t := by
  induction N with
  | zero => intro t h; rw [fuT_eq] at h; omega
  | succ N ih =>
    intro t h
    have key : ∀ (l : List S48) (c : Int), fuL l ≤ N → 0 ≤ c → 0 ≤ sizL l c ∧ sizL l c ≤ c + 2 * fuL l - l.length := by
      intro l
      induction l with
      | nil => intro c _ hc; rw [sizL, fuL]; simp only [List.length_nil]; omega
      | cons x l ihl =>
        intro c hf hc
        rw [fuL] at hf
        obtain ⟨a, b⟩ := ih x (by omega)
        obtain ⟨a', b'⟩ := ihl (c + sizT x) (by omega) (by omega)
        rw [sizL, fuL, List.length_cons]; omega
    obtain ⟨th, ns, inn⟩ := t
    rw [fuT] at h ⊢
    have := key inn (ns.length + inn.length) (by omega) (by omega)
    rw [sizT]; omega

theorem trustquorumref02_Size_eq (N : Nat) : ∀ (t : S48) (k : Nat), fuT t ≤ N → fuT t ≤ 1000000 → fuT t ≤ k → trustquorumref02_Size.f k t.f0 t.f1 t.f2 = some (sizT t) := by
  induction N with
  | zero => intro t k h; rw [fuT_eq] at h; omega
  | succ N ih =>
    intro t k h hb hk
    obtain ⟨th, ns, inn⟩ := t
    rw [fuT] at h hb hk
    have hl := fuL_len inn
    have key : ∀ (r s : Nat) (c : Int) (k : Nat), s + r = inn.length → fuL (inn.drop s) + 2 ≤ k → 0 ≤ c → c + 2 * fuL (inn.drop s) ≤ 10000000 → trustquorumref02_Size.l0 k c inn (inn.length : Int) (s : Int) = some (sizL (inn.drop s) c) := by
      intro r
      induction r with
      | zero =>
        intro s c k h1 hk _ _
        obtain ⟨k, rfl⟩ : ∃ m, k = m + 1 := ⟨k - 1, by omega⟩
        rw [trustquorumref02_Size.l0, if_neg (by omega), List.drop_of_length_le (by omega), sizL]
      | succ r ihr =>
        intro s c k h1 hk hc0 hc1
        obtain ⟨k, rfl⟩ : ∃ m, k = m + 1 := ⟨k - 1, by omega⟩
        have hs : s < inn.length := by omega
        have hd := fuL_drop inn s hs
        have hle := fuL_le inn s
        have hb2 := siz_bd _ inn[s] (Nat.le_refl _)
        rw [trustquorumref02_Size.l0, if_pos (by omega), if_pos (by omega), if_pos (by omega), rdS_at inn s hs, ih inn[s] k (by omega) (by omega) (by omega)]
        simp only [Option.bind_some]
        rw [w64 (x := c + sizT inn[s]) (by omega) (by omega), nx s (by omega), ihr (s + 1) (c + sizT inn[s]) k (by omega) (by omega) (by omega) (by omega), List.drop_eq_getElem_cons hs, sizL]
    obtain ⟨k, rfl⟩ : ∃ m, k = m + 1 := ⟨k - 1, by omega⟩
    show trustquorumref02_Size.f (k + 1) th ns inn = _
    rw [trustquorumref02_Size.f, w64 (by omega) (by omega), sizT]
    exact key inn.length 0 _ k (by omega) (by rw [List.drop_zero]; omega) (by omega) (by rw [List.drop_zero]; omega)

theorem trustquorumref02_Depth_eq (N : Nat) : ∀ (t : S48) (k : Nat), fuT t ≤ N → fuT t ≤ 1000000 → fuT t ≤ k → trustquorumref02_Depth.f k t.f0 t.f1 t.f2 = some (depT t) := by
  induction N with
  | zero => intro t k h; rw [fuT_eq] at h; omega
  | succ N ih =>
    intro t k h hb hk
    obtain ⟨th, ns, inn⟩ := t
    rw [fuT] at h hb hk
    have hl := fuL_len inn
    have key : ∀ (r s : Nat) (c : Int) (k : Nat), s + r = inn.length → fuL (inn.drop s) + 2 ≤ k → 0 ≤ c → c + fuL (inn.drop s) ≤ 10000000 → trustquorumref02_Depth.l0 k c inn (inn.length : Int) (s : Int) = some (depL (inn.drop s) c + 1) := by
      intro r
      induction r with
      | zero =>
        intro s c k h1 hk hc0 hc1
        obtain ⟨k, rfl⟩ : ∃ m, k = m + 1 := ⟨k - 1, by omega⟩
        rw [trustquorumref02_Depth.l0, if_neg (by omega), List.drop_of_length_le (by omega), depL, w64 (by omega) (by omega)]
      | succ r ihr =>
        intro s c k h1 hk hc0 hc1
        obtain ⟨k, rfl⟩ : ∃ m, k = m + 1 := ⟨k - 1, by omega⟩
        have hs : s < inn.length := by omega
        have hd := fuL_drop inn s hs
        have hle := fuL_le inn s
        have hb2 := dep_bd _ inn[s] (Nat.le_refl _)
        have hm : 0 ≤ mx c (depT inn[s]) ∧ mx c (depT inn[s]) ≤ c + fuT inn[s] := by unfold mx; split <;> omega
        rw [trustquorumref02_Depth.l0, if_pos (by omega), if_pos (by omega), if_pos (by omega), rdS_at inn s hs, ih inn[s] k (by omega) (by omega) (by omega)]
        simp only [Option.bind_some]
        rw [nx s (by omega), ihr (s + 1) (mx c (depT inn[s])) k (by omega) (by omega) (by omega) (by omega), List.drop_eq_getElem_cons hs, depL]
    obtain ⟨k, rfl⟩ : ∃ m, k = m + 1 := ⟨k - 1, by omega⟩
    show trustquorumref02_Depth.f (k + 1) th ns inn = _
    rw [trustquorumref02_Depth.f, depT]
    exact key inn.length 0 0 k (by omega) (by rw [List.drop_zero]; omega) (by omega) (by rw [List.drop_zero]; omega)

theorem trustquorumref01_Of_loop (l : List Int) (hl : l.length ≤ 1000000) (r : Nat) : ∀ (s m k : Nat), s + r = l.length → m < 1024 → 2 * r + 2 ≤ k → trustquorumref01_Of.l0 k (m : Int) l (l.length : Int) (s : Int) = some (ofR (l.drop s) m) := by
  induction r with
  | zero =>
    intro s m k h1 hm hk
    obtain ⟨k, rfl⟩ : ∃ q, k = q + 1 := ⟨k - 1, by omega⟩
    rw [trustquorumref01_Of.l0, if_neg (by omega), List.drop_of_length_le (by omega), ofR]
  | succ r ih =>
    intro s m k h1 hm hk
    obtain ⟨k, rfl⟩ : ∃ q, k = q + 2 := ⟨k - 2, by omega⟩
    have hs : s < l.length := by omega
    show trustquorumref01_Of.l0 ((k + 1) + 1) _ _ _ _ = _
    rw [trustquorumref01_Of.l0, if_pos (by omega), if_pos (by omega), if_pos (by omega), rd_at l s hs, List.drop_eq_getElem_cons hs, ofR]
    generalize l[s] = x
    by_cases h0 : x < 0
    · rw [if_pos h0, trustquorumref01_Of.j1, if_pos rfl, if_pos (.inl h0)]
    · rw [if_neg h0, trustquorumref01_Of.j1]
      by_cases h2 : x ≥ 10
      · rw [if_pos (decide_eq_true h2), if_pos (.inr h2)]
      · rw [if_neg (by rw [decide_eq_true_eq]; exact h2), if_neg (show ¬ (x < 0 ∨ 10 ≤ x) by omega), has_ref m hm x]
        simp only [Option.bind_some]
        cases ht : tb m x
        · simp only [Bool.false_eq_true, if_false]
          obtain ⟨i, rfl⟩ := Int.eq_ofNat_of_zero_le (show 0 ≤ x by omega)
          have hp := pow_lt i (by omega)
          rw [if_pos (show 0 ≤ (i : Int) by omega), shl_eq i (by omega), or_eq m (2 ^ i) hm hp, nx s (by omega), Int.toNat_natCast]
          exact ih (s + 1) (m ||| 2 ^ i) k (by omega) (Nat.or_lt_two_pow (n := 10) hm hp) (by omega)
        · simp only [if_true]
theorem trustquorumref01_Of_eq (l : List Int) (hl : l.length ≤ 1000000) {k : Nat} (hk : 2 * l.length + 2 ≤ k) : trustquorumref01_Of.f k l = some (ofR l 0) := by
  unfold trustquorumref01_Of.f
  exact trustquorumref01_Of_loop l hl l.length 0 0 k (by omega) (by omega) hk

theorem check_eq (N : Nat) : ∀ (t : S48) (k : Nat), fuT t ≤ N → fuT t ≤ 1000000 → fuT t ≤ k → trustquorumref02_check.f k t.f0 t.f1 t.f2 = some (chkT t) := by
  induction N with
  | zero => intro t k h; rw [fuT_eq] at h; omega
  | succ N ih =>
    intro t k h hb hk
    obtain ⟨th, ns, inn⟩ := t
    rw [fuT] at h hb hk
    have hl := fuL_len inn
    have key : ∀ (r s : Nat) (k : Nat), s + r = inn.length → fuL (inn.drop s) + 2 ≤ k → trustquorumref02_check.l1 k inn (inn.length : Int) (s : Int) = some (chkL (inn.drop s)) := by
      intro r
      induction r with
      | zero =>
        intro s k h1 hk
        obtain ⟨k, rfl⟩ : ∃ m, k = m + 1 := ⟨k - 1, by omega⟩
        rw [trustquorumref02_check.l1, if_neg (by omega), List.drop_of_length_le (by omega), chkL]
      | succ r ihr =>
        intro s k h1 hk
        obtain ⟨k, rfl⟩ : ∃ m, k = m + 1 := ⟨k - 1, by omega⟩
        have hs : s < inn.length := by omega
        have hd := fuL_drop inn s hs
        have hle := fuL_le inn s
        rw [trustquorumref02_check.l1, if_pos (by omega), if_pos (by omega), if_pos (by omega), rdS_at inn s hs, ih inn[s] k (by omega) (by omega) (by omega)]
        simp only [Option.bind_some]
        rw [nx s (by omega), List.drop_eq_getElem_cons hs, chkL]
        by_cases hc : chkT inn[s] = 0
        · rw [if_pos hc, if_pos hc]; exact ihr (s + 1) k (by omega) (by omega)
        · rw [if_neg hc, if_neg hc]
    have nodes : ∀ (r s : Nat) (k : Nat), s + r = ns.length → r + 2 * ns.length + fuL inn + 5 ≤ k → trustquorumref02_check.l0 k ns (ns.length : Int) (s : Int) th ns inn = some (if outR (ns.drop s) = true then 5 else if (ofR ns 0).2 = 0 then chkL inn else (ofR ns 0).2) := by
      intro r
      induction r with
      | zero =>
        intro s k h1 hk
        obtain ⟨k, rfl⟩ : ∃ m, k = m + 1 := ⟨k - 1, by omega⟩
        rw [trustquorumref02_check.l0, if_neg (by omega), List.drop_of_length_le (by omega), trustquorumref01_Of_eq ns (by omega) (by omega)]
        simp only [Option.bind_some]
        rw [if_neg (show ¬ (outR [] = true) by decide)]
        by_cases he : (ofR ns 0).2 = 0
        · rw [if_pos he, if_pos he]; exact key inn.length 0 k (by omega) (by rw [List.drop_zero]; omega)
        · rw [if_neg he, if_neg he]
      | succ r ihr =>
        intro s k h1 hk
        obtain ⟨k, rfl⟩ : ∃ m, k = m + 1 := ⟨k - 1, by omega⟩
        have hs : s < ns.length := by omega
        have ho : outR (ns.drop s) = (decide (ns[s] < 0 ∨ 10 ≤ ns[s]) || outR (ns.drop (s + 1))) := by rw [List.drop_eq_getElem_cons hs]; unfold outR; rw [List.any_cons]
        rw [trustquorumref02_check.l0, if_pos (by omega), if_pos (by omega), if_pos (by omega), rd_at ns s hs, nx s (by omega), ho]
        by_cases h0 : ns[s] < 0
        · rw [if_pos h0, decide_eq_true (.inl h0), Bool.true_or, if_pos rfl]
        · rw [if_neg h0]
          by_cases h2 : ns[s] ≥ 10
          · rw [if_pos h2, decide_eq_true (.inr h2), Bool.true_or, if_pos rfl]
          · rw [if_neg h2, decide_eq_false (by omega), Bool.false_or]
            exact ihr (s + 1) k (by omega) (by omega)
    obtain ⟨k, rfl⟩ : ∃ m, k = m + 2 := ⟨k - 2, by omega⟩
    show trustquorumref02_check.f ((k + 1) + 1) th ns inn = _
    rw [trustquorumref02_check.f, w64 (by omega) (by omega), chkT]
    by_cases h0 : th < 1
    · rw [if_pos h0, trustquorumref02_check.j0, if_pos rfl, if_pos (.inl h0)]
    · rw [if_neg h0, trustquorumref02_check.j0]
      by_cases h1 : th > (ns.length : Int) + (inn.length : Int)
      · rw [if_pos (decide_eq_true h1), if_pos (.inr h1)]
      · rw [if_neg (by rw [decide_eq_true_eq]; exact h1), if_neg (by omega)]
        exact nodes ns.length 0 k (by omega) (by omega)
theorem refValid_eq (t : S48) {k : Nat} (hb : fuT t ≤ 1000000) (hk : fuT t ≤ k) : trustquorumref02_Valid.f k t.f0 t.f1 t.f2 = some (valT t) := by
  unfold trustquorumref02_Valid.f valT
  rw [trustquorumref02_Depth_eq _ t k (Nat.le_refl _) hb hk, trustquorumref02_Size_eq _ t k (Nat.le_refl _) hb hk, check_eq _ t k (Nat.le_refl _) hb hk]
  simp only [Option.bind_some]
  split
  · rfl
  · split <;> rfl

-- the drawn trust
theorem order_swap {L : List Int} (r : Nat) : ∀ (l : List Int) (p : Int) (k : Nat), St L p → r < l.length → l.length ≤ 100 → r + 2 ≤ k → ∃ l' p', trustquorummake_Tape_Order.l1 k l (r : Int) L p = some (l', p') ∧ l'.length = l.length ∧ St L p' := by
  induction r with
  | zero =>
    intro l p k hs hr hl hk
    obtain ⟨k, rfl⟩ : ∃ m, k = m + 1 := ⟨k - 1, by omega⟩
    exact ⟨l, p, by rw [trustquorummake_Tape_Order.l1, if_neg (by omega)], rfl, hs⟩
  | succ r ih =>
    intro l p k hs hr hl hk
    obtain ⟨k, rfl⟩ : ∃ m, k = m + 1 := ⟨k - 1, by omega⟩
    obtain ⟨q, p', hq, q0, q1, hs'⟩ := N_eq (n := ((r + 1 : Nat) : Int) + 1) hs (by omega) (by omega)
    obtain ⟨l', p'', h1, h2, h3⟩ := ih ((l.set ((r + 1 : Nat) : Int).toNat (rd l q)).set q.toNat (rd l ((r + 1 : Nat) : Int))) p' k hs' (by simp; omega) (by simp; omega) (by omega)
    refine ⟨l', p'', ?_, by rw [h2]; simp, h3⟩
    rw [trustquorummake_Tape_Order.l1, if_pos (by omega), w64 (x := ((r + 1 : Nat) : Int) + 1) (by omega) (by omega), hq]
    simp only [Option.bind_some]
    rw [if_pos q0, if_pos (by omega), if_pos (by omega), if_pos (by omega), w64 (x := ((r + 1 : Nat) : Int) - 1) (by omega) (by omega), show ((r + 1 : Nat) : Int) - 1 = (r : Int) by omega]
    exact h1
theorem order_fill {L : List Int} {n : Nat} (hn : 1 ≤ n) (hn2 : n ≤ 100) (r : Nat) : ∀ (l : List Int) (p : Int) (k : Nat), St L p → l.length + r = n → r + n + 5 ≤ k → ∃ l' p', trustquorummake_Tape_Order.l0 k (n : Int) l (l.length : Int) L p = some (l', p') ∧ l'.length = n ∧ St L p' := by
  induction r with
  | zero =>
    intro l p k hs hl hk
    obtain ⟨k, rfl⟩ : ∃ m, k = m + 1 := ⟨k - 1, by omega⟩
    obtain ⟨l', p', h1, h2, h3⟩ := order_swap (n - 1) l p k hs (by omega) (by omega) (by omega)
    refine ⟨l', p', ?_, by omega, h3⟩
    rw [trustquorummake_Tape_Order.l0, if_neg (by omega), w64 (x := (n : Int) - 1) (by omega) (by omega), show (n : Int) - 1 = ((n - 1 : Nat) : Int) by omega]
    exact h1
  | succ r ih =>
    intro l p k hs hl hk
    obtain ⟨k, rfl⟩ : ∃ m, k = m + 1 := ⟨k - 1, by omega⟩
    obtain ⟨l', p', h1, h2, h3⟩ := ih (l ++ [(l.length : Int)]) p k hs (by rw [List.length_append]; simp only [List.length_cons, List.length_nil]; omega) (by omega)
    refine ⟨l', p', ?_, h2, h3⟩
    rw [trustquorummake_Tape_Order.l0, if_pos (by omega), if_pos (by omega), nx l.length (by omega)]
    rw [List.length_append] at h1
    exact h1
theorem order_eq {L : List Int} {p : Int} {n : Nat} (h : St L p) (hn : 1 ≤ n) (hn2 : n ≤ 100) {k : Nat} (hk : 2 * n + 10 ≤ k) : ∃ l p', trustquorummake_Tape_Order.f k L p (n : Int) = some (l, p') ∧ l.length = n ∧ St L p' := by
  unfold trustquorummake_Tape_Order.f
  exact order_fill hn hn2 n [] p k h (by simp) (by omega)
theorem pick6 {L : List Int} {p : Int} (h : St L p) : ∃ c p', trustquorummake_Tape_Pick.f L p ([0, 0, 1, 1, 2, 3] : List Int) = some (c, p') ∧ 0 ≤ c ∧ c ≤ 3 ∧ St L p' := by
  obtain ⟨r, p', hr, h0, h1, hs⟩ := N_eq (n := 6) h (by omega) (by omega)
  have l6 : ((([0, 0, 1, 1, 2, 3] : List Int).length : Nat) : Int) = 6 := rfl
  unfold trustquorummake_Tape_Pick.f
  rw [l6, hr]
  simp only [Option.bind_some]
  rw [if_pos h0, if_pos h1]
  refine ⟨_, _, rfl, ?_, ?_, hs⟩
  all_goals
    have : r = 0 ∨ r = 1 ∨ r = 2 ∨ r = 3 ∨ r = 4 ∨ r = 5 := by omega
    rcases this with rfl | rfl | rfl | rfl | rfl | rfl <;> decide
/-- rounds and size of a drawn trust of so many levels -/
def fd : Nat → Nat
  | 0 => 40
  | d + 1 => 40 + 3 * (3 + fd d)
theorem fd_ge (d : Nat) : 40 ≤ fd d := by cases d <;> simp only [fd] <;> omega
theorem copy_nodes {L : List Int} (n deep : Int) (ns : List Int) (hns : ns.length ≤ 5) (Q : Option (Int × List Int × List S48 × Int)) (p : Int) (K : Nat)
    (hQ : ∀ k, K ≤ k → trustquorummake_trust.l0 k n deep ns (ns.length : Int) (ns.length : Int) L p 0 ns = Q) (r : Nat) :
    ∀ (s k : Nat), s + r = ns.length → K + r ≤ k → trustquorummake_trust.l0 k n deep ns (ns.length : Int) (s : Int) L p 0 (ns.take s) = Q := by
  induction r with
  | zero =>
    intro s k h1 hk
    rw [show s = ns.length by omega, List.take_length]
    exact hQ k (by omega)
  | succ r ih =>
    intro s k h1 hk
    obtain ⟨k, rfl⟩ : ∃ m, k = m + 1 := ⟨k - 1, by omega⟩
    have hs : s < ns.length := by omega
    rw [trustquorummake_trust.l0, if_pos (by omega), if_pos (by omega), if_pos (by omega), if_pos (by rw [List.length_take]; omega), rd_at ns s hs, nx s (by omega), show ns.take s ++ [ns[s]] = ns.take (s + 1) by rw [List.take_succ_eq_append_getElem hs]]
    exact ih (s + 1) k (by omega) (by omega)
theorem trust_eq {L : List Int} {n : Nat} (hn : 1 ≤ n) (hn2 : n ≤ 10) (d : Nat) : (d : Int) ≤ 1000 → ∀ (p : Int) (k : Nat), St L p → fd d + 40 ≤ k → ∃ th ns inn p', trustquorummake_trust.f k L p (n : Int) (d : Int) = some (th, ns, inn, p') ∧ fuT ⟨th, ns, inn⟩ ≤ fd d ∧ St L p' := by
  induction d with
  | zero =>
    intro _ p k hs hk
    rw [fd] at hk
    obtain ⟨k, rfl⟩ : ∃ m, k = m + 1 := ⟨k - 1, by omega⟩
    obtain ⟨l, p1, h1, hl, s1⟩ := order_eq (n := n) hs hn (by omega) (k := k) (by omega)
    have hm : 1 ≤ mn (n : Int) 5 ∧ mn (n : Int) 5 ≤ 5 ∧ mn (n : Int) 5 ≤ n := by unfold mn; split <;> omega
    obtain ⟨r, p2, h2, r0, r1, s2⟩ := Range_eq (a := 1) (b := mn (n : Int) 5) s1 (by omega) (by omega) (by omega)
    obtain ⟨q, rfl⟩ := Int.eq_ofNat_of_zero_le (show 0 ≤ r by omega)
    have hlen : (l.take q).length = q := by rw [List.length_take]; omega
    obtain ⟨th, p3, h3, t0, t1, s3⟩ := Range_eq (a := 1) (b := ((l.take q).length : Int)) s2 (by omega) (by omega) (by omega)
    refine ⟨th, l.take q, [], p3, ?_, by rw [fuT, fuL, fd]; omega, s3⟩
    rw [trustquorummake_trust.f, h1]
    simp only [Option.bind_some]
    rw [h2]
    simp only [Option.bind_some]
    rw [if_pos (by omega), if_pos (by omega), Int.toNat_natCast]
    refine copy_nodes (n : Int) ((0 : Nat) : Int) (l.take q) (by omega) _ p2 1 (fun k hk => ?_) (l.take q).length 0 k (by omega) (by omega)
    obtain ⟨k, rfl⟩ : ∃ m, k = m + 1 := ⟨k - 1, by omega⟩
    rw [trustquorummake_trust.l0, if_neg (by omega), if_neg (by omega), w64 (x := ((l.take q).length : Int)) (by omega) (by omega), h3]
    rfl
  | succ d ih =>
    intro hdd0 p k hs hk
    have hdd : (d : Int) ≤ 1000 := by omega
    have ih := ih hdd
    have hfd := fd_ge d
    rw [fd] at hk
    obtain ⟨k, rfl⟩ : ∃ m, k = m + 1 := ⟨k - 1, by omega⟩
    obtain ⟨l, p1, h1, hl, s1⟩ := order_eq (n := n) hs hn (by omega) (k := k) (by omega)
    have hm : 1 ≤ mn (n : Int) 5 ∧ mn (n : Int) 5 ≤ 5 ∧ mn (n : Int) 5 ≤ n := by unfold mn; split <;> omega
    obtain ⟨r, p2, h2, r0, r1, s2⟩ := Range_eq (a := 1) (b := mn (n : Int) 5) s1 (by omega) (by omega) (by omega)
    obtain ⟨q, rfl⟩ := Int.eq_ofNat_of_zero_le (show 0 ≤ r by omega)
    have hlen : (l.take q).length = q := by rw [List.length_take]; omega
    have inner : ∀ (c : Nat) (inn : List S48) (p : Int) (k : Nat), St L p → inn.length + c ≤ 3 → fuL inn ≤ inn.length * (3 + fd d) → fd d + 40 + c + 3 ≤ k → 1 < ((d + 1 : Nat) : Int) → ∃ th ns inn' p', trustquorummake_trust.l1 k (n : Int) ((d + 1 : Nat) : Int) (c : Int) L p 0 (l.take q) inn = some (th, ns, inn', p') ∧ fuT ⟨th, ns, inn'⟩ ≤ fd (d + 1) ∧ St L p' := by
      intro c
      induction c with
      | zero =>
        intro inn p k hs hc hf hk hd
        obtain ⟨k, rfl⟩ : ∃ m, k = m + 1 := ⟨k - 1, by omega⟩
        have hmul : inn.length * (3 + fd d) ≤ 3 * (3 + fd d) := Nat.mul_le_mul_right _ (by omega)
        rw [trustquorummake_trust.l1, if_neg (by omega)]
        by_cases hi : (inn.length : Int) > 0
        · obtain ⟨z, pz, hz, z0, z1, sz⟩ := N_eq (n := 3) hs (by omega) (by omega)
          rw [if_pos hi, hz]
          simp only [Option.bind_some]
          by_cases hz0 : z = 0
          · obtain ⟨th, p3, h3, t0, t1, s3⟩ := Range_eq (a := 1) (b := (inn.length : Int)) sz (by omega) (by omega) (by omega)
            rw [if_pos hz0, w64 (x := (inn.length : Int)) (by omega) (by omega), h3]
            exact ⟨th, [], inn, p3, rfl, by rw [fuT, fd, List.length_nil]; omega, s3⟩
          · obtain ⟨th, p3, h3, t0, t1, s3⟩ := Range_eq (a := 1) (b := ((l.take q).length : Int) + (inn.length : Int)) sz (by omega) (by omega) (by omega)
            rw [if_neg hz0, w64 (x := ((l.take q).length : Int) + (inn.length : Int)) (by omega) (by omega), h3]
            exact ⟨th, _, inn, p3, rfl, by rw [fuT, fd]; omega, s3⟩
        · obtain ⟨th, p3, h3, t0, t1, s3⟩ := Range_eq (a := 1) (b := ((l.take q).length : Int) + (inn.length : Int)) hs (by omega) (by omega) (by omega)
          rw [if_neg hi, w64 (x := ((l.take q).length : Int) + (inn.length : Int)) (by omega) (by omega), h3]
          exact ⟨th, _, inn, p3, rfl, by rw [fuT, fd]; omega, s3⟩
      | succ c ihc =>
        intro inn p k hs hc hf hk hd
        obtain ⟨k, rfl⟩ : ∃ m, k = m + 1 := ⟨k - 1, by omega⟩
        obtain ⟨th, ns, inn', p', ht, hft, st⟩ := ih p k hs (by omega)
        have happ : ∀ (l : List S48) (t : S48), fuL (l ++ [t]) = fuL l + (3 + fuT t) := by
          intro l t
          induction l with
          | nil => rw [List.nil_append, fuL]; simp only [fuL]; omega
          | cons a l ih => rw [List.cons_append, fuL, fuL, ih]; omega
        obtain ⟨th2, ns2, inn2, p2', h2', hf2, st2⟩ := ihc (inn ++ [(⟨th, ns, inn'⟩ : S48)]) p' k st (by rw [List.length_append]; simp only [List.length_cons, List.length_nil]; omega) (by rw [happ, List.length_append]; simp only [List.length_cons, List.length_nil, Nat.zero_add, Nat.add_mul, Nat.one_mul]; omega) (by omega) hd
        refine ⟨th2, ns2, inn2, p2', ?_, hf2, st2⟩
        have hd2 : (d : Int) ≤ 1000 := hdd
        rw [trustquorummake_trust.l1, if_pos (by omega), w64 (x := ((d + 1 : Nat) : Int) - 1) (by omega) (by omega), show ((d + 1 : Nat) : Int) - 1 = (d : Int) by omega, ht]
        simp only [Option.bind_some]
        rw [if_pos (by omega), w64 (x := ((c + 1 : Nat) : Int) - 1) (by omega) (by omega), show ((c + 1 : Nat) : Int) - 1 = (c : Int) by omega]
        exact h2'
    by_cases hd : 1 < ((d + 1 : Nat) : Int)
    · obtain ⟨c, p3, h3, c0, c1, s3⟩ := pick6 s2
      obtain ⟨c, rfl⟩ := Int.eq_ofNat_of_zero_le c0
      obtain ⟨th, ns, inn, p4, h4, hf4, s4⟩ := inner c [] p3 (k - 6) s3 (by simp only [List.length_nil]; omega) (by rw [fuL]; omega) (by omega) hd
      refine ⟨th, ns, inn, p4, ?_, hf4, s4⟩
      rw [trustquorummake_trust.f, h1]
      simp only [Option.bind_some]
      rw [h2]
      simp only [Option.bind_some]
      rw [if_pos (by omega), if_pos (by omega), Int.toNat_natCast]
      refine copy_nodes (n : Int) ((d + 1 : Nat) : Int) (l.take q) (by omega) _ p2 (k - 5) (fun k' hk' => ?_) (l.take q).length 0 k (by omega) (by omega)
      obtain ⟨k', rfl⟩ : ∃ m, k' = m + 1 := ⟨k' - 1, by omega⟩
      rw [trustquorummake_trust.l0, if_neg (by omega), if_pos hd, h3]
      simp only [Option.bind_some]
      exact at_rounds (g := fun k => trustquorummake_trust.l1 k (n : Int) ((d + 1 : Nat) : Int) (c : Int) L p3 0 (l.take q) []) (fun k => (trustquorummake_trust.mono_l k).2.2 _ _ _ _ _ _ _ _) (show k - 6 ≤ k' by omega) h4
    · obtain ⟨th, p3, h3, t0, t1, s3⟩ := Range_eq (a := 1) (b := ((l.take q).length : Int)) s2 (by omega) (by omega) (by omega)
      refine ⟨th, l.take q, [], p3, ?_, by rw [fuT, fuL, fd]; omega, s3⟩
      rw [trustquorummake_trust.f, h1]
      simp only [Option.bind_some]
      rw [h2]
      simp only [Option.bind_some]
      rw [if_pos (by omega), if_pos (by omega), Int.toNat_natCast]
      refine copy_nodes (n : Int) ((d + 1 : Nat) : Int) (l.take q) (by omega) _ p2 1 (fun k hk => ?_) (l.take q).length 0 k (by omega) (by omega)
      obtain ⟨k, rfl⟩ : ∃ m, k = m + 1 := ⟨k - 1, by omega⟩
      rw [trustquorummake_trust.l0, if_neg (by omega), if_neg hd, w64 (x := ((l.take q).length : Int)) (by omega) (by omega), h3]
      rfl
theorem one_ok : ∀ r, r < 10 → chkT (⟨1, [((r : Nat) : Int)], []⟩ : S48) = 0 := by decide +kernel
/-- The drawn trust is valid and not great. -/
theorem Trust_eq {L : List Int} {p n : Int} (h : St L p) (hn : 1 ≤ n) (hn2 : n ≤ 10) (d : Nat) (hd : d ≤ 4) {k : Nat} (hk : 6000 ≤ k) : ∃ th ns inn p', trustquorummake_Trust.f k L p n (d : Int) = some (th, ns, inn, p') ∧ fuT ⟨th, ns, inn⟩ ≤ 5800 ∧ chkT ⟨th, ns, inn⟩ = 0 ∧ depT ⟨th, ns, inn⟩ ≤ 4 ∧ sizT ⟨th, ns, inn⟩ ≤ 200 ∧ St L p' := by
  obtain ⟨n, rfl⟩ := Int.eq_ofNat_of_zero_le (show 0 ≤ n by omega)
  have hfd : fd d ≤ 5800 := by
    have : d = 0 ∨ d = 1 ∨ d = 2 ∨ d = 3 ∨ d = 4 := by omega
    rcases this with rfl | rfl | rfl | rfl | rfl <;> decide
  obtain ⟨th, ns, inn, p', h1, hf, hs⟩ := trust_eq (n := n) (by omega) (by omega) d (by omega) p k h (by omega)
  unfold trustquorummake_Trust.f
  rw [h1]
  simp only [Option.bind_some]
  have hv := refValid_eq ⟨th, ns, inn⟩ (k := k) (by omega) (by omega)
  rw [show trustquorumref02_Valid.f k th ns inn = some (valT ⟨th, ns, inn⟩) from hv]
  simp only [Option.bind_some]
  by_cases h0 : valT ⟨th, ns, inn⟩ = 0
  · rw [if_pos h0]
    unfold valT at h0
    by_cases a1 : depT ⟨th, ns, inn⟩ > 4
    · rw [if_pos a1] at h0; cases h0
    · rw [if_neg a1] at h0
      by_cases a2 : sizT ⟨th, ns, inn⟩ > 200
      · rw [if_pos a2] at h0; cases h0
      · rw [if_neg a2] at h0
        exact ⟨th, ns, inn, p', rfl, by omega, h0, by omega, by omega, hs⟩
  · rw [if_neg h0]
    obtain ⟨r, p2, h2, r0, r1, s2⟩ := N_eq (n := (n : Int)) hs (by omega) (by omega)
    rw [h2]
    obtain ⟨q, rfl⟩ := Int.eq_ofNat_of_zero_le r0
    refine ⟨1, [(q : Int)], [], p2, rfl, by rw [fuT, fuL]; simp, one_ok q (by omega), ?_, ?_, s2⟩
    · rw [depT, depL]; omega
    · rw [sizT, sizL]; simp

-- what satisfies a trust
def cntN : List Int → Nat → Int
  | [], _ => 0
  | k :: l, m => (if tb m k = true then 1 else 0) + cntN l m
mutual
def satT : S48 → Nat → Bool
  | ⟨th, ns, inn⟩, m => decide (th ≤ cntN ns m + satL inn m)
def satL : List S48 → Nat → Int
  | [], _ => 0
  | t :: l, m => (if satT t m = true then 1 else 0) + satL l m
end
theorem cntN_bd (m : Nat) : ∀ l : List Int, 0 ≤ cntN l m ∧ cntN l m ≤ l.length
  | [] => by rw [cntN]; simp
  | k :: l => by have := cntN_bd m l; rw [cntN, List.length_cons]; split <;> omega
theorem satL_bd (m : Nat) : ∀ l : List S48, 0 ≤ satL l m ∧ satL l m ≤ l.length
  | [] => by rw [satL]; simp
  | k :: l => by have := satL_bd m l; rw [satL, List.length_cons]; split <;> omega
theorem sat_eq (m : Nat) (hm : m < 1024) (N : Nat) : ∀ (t : S48) (k : Nat), fuT t ≤ N → fuT t ≤ 1000000 → fuT t ≤ k → threshold_Satisfied.f k t.f0 t.f1 t.f2 (m : Int) = some (satT t m) := by
  induction N with
  | zero => intro t k h; rw [fuT_eq] at h; omega
  | succ N ih =>
    intro t k h hb hk
    obtain ⟨th, ns, inn⟩ := t
    rw [fuT] at h hb hk
    have hl := fuL_len inn
    have key : ∀ (r s : Nat) (c : Int) (k : Nat), s + r = inn.length → fuL (inn.drop s) + 2 ≤ k → 0 ≤ c → c + r ≤ 10000000 → threshold_Satisfied.l1 k (m : Int) c inn (inn.length : Int) (s : Int) th ns inn = some (decide (th ≤ c + satL (inn.drop s) m)) := by
      intro r
      induction r with
      | zero =>
        intro s c k h1 hk _ _
        obtain ⟨k, rfl⟩ : ∃ q, k = q + 1 := ⟨k - 1, by omega⟩
        rw [threshold_Satisfied.l1, if_neg (by omega), List.drop_of_length_le (by omega), satL, Int.add_zero]
      | succ r ihr =>
        intro s c k h1 hk hc0 hc1
        obtain ⟨k, rfl⟩ : ∃ q, k = q + 1 := ⟨k - 1, by omega⟩
        have hs : s < inn.length := by omega
        have hd := fuL_drop inn s hs
        have hle := fuL_le inn s
        rw [threshold_Satisfied.l1, if_pos (by omega), if_pos (by omega), if_pos (by omega), rdS_at inn s hs, ih inn[s] k (by omega) (by omega) (by omega)]
        simp only [Option.bind_some]
        rw [nx s (by omega), List.drop_eq_getElem_cons hs, satL]
        cases hq : satT inn[s] m
        · rw [if_neg (by decide), if_neg (by decide), ihr (s + 1) c k (by omega) (by omega) (by omega) (by omega), Int.zero_add]
        · rw [if_pos rfl, if_pos rfl, w64 (x := c + 1) (by omega) (by omega), ihr (s + 1) (c + 1) k (by omega) (by omega) (by omega) (by omega), Int.add_assoc]
    have nodes : ∀ (r s : Nat) (c : Int) (k : Nat), s + r = ns.length → r + fuL inn + 3 ≤ k → 0 ≤ c → c + r + inn.length ≤ 10000000 → threshold_Satisfied.l0 k (m : Int) c ns (ns.length : Int) (s : Int) th ns inn = some (decide (th ≤ c + cntN (ns.drop s) m + satL inn m)) := by
      intro r
      induction r with
      | zero =>
        intro s c k h1 hk hc0 hc1
        obtain ⟨k, rfl⟩ : ∃ q, k = q + 1 := ⟨k - 1, by omega⟩
        rw [threshold_Satisfied.l0, if_neg (by omega), List.drop_of_length_le (by omega), cntN, Int.add_zero]
        exact key inn.length 0 c k (by omega) (by rw [List.drop_zero]; omega) hc0 (by omega)
      | succ r ihr =>
        intro s c k h1 hk hc0 hc1
        obtain ⟨k, rfl⟩ : ∃ q, k = q + 1 := ⟨k - 1, by omega⟩
        have hs : s < ns.length := by omega
        rw [threshold_Satisfied.l0, if_pos (by omega), if_pos (by omega), if_pos (by omega), rd_at ns s hs, has_eq m hm]
        simp only [Option.bind_some]
        rw [nx s (by omega), List.drop_eq_getElem_cons hs, cntN]
        cases hq : tb m ns[s]
        · rw [if_neg (by decide), if_neg (by decide), ihr (s + 1) c k (by omega) (by omega) (by omega) (by omega), Int.zero_add]
        · rw [if_pos rfl, if_pos rfl, w64 (x := c + 1) (by omega) (by omega), ihr (s + 1) (c + 1) k (by omega) (by omega) (by omega) (by omega), Int.add_assoc c 1]
    obtain ⟨k, rfl⟩ : ∃ q, k = q + 1 := ⟨k - 1, by omega⟩
    show threshold_Satisfied.f (k + 1) th ns inn (m : Int) = _
    rw [threshold_Satisfied.f, nsValid_eq, decide_eq_true (show 0 ≤ (m : Int) ∧ (m : Int) < 1024 by omega)]
    simp only [Option.bind_some, if_true]
    have := nodes ns.length 0 0 k (by omega) (by omega) (by omega) (by omega)
    rw [List.drop_zero, Int.zero_add] at this
    rw [satT]
    exact this
theorem satisfied_eq (t : S48) (m : Nat) (hm : m < 1024) {k : Nat} (hb : fuT t ≤ 1000000) (hk : fuT t ≤ k) : threshold_Satisfied.f k t.f0 t.f1 t.f2 (m : Int) = some (satT t m) := sat_eq m hm _ t k (Nat.le_refl _) hb hk
-- a greater set
theorem cntN_mono {a b : Nat} (h : ∀ k, tb a k = true → tb b k = true) : ∀ l : List Int, cntN l a ≤ cntN l b
  | [] => Int.le_refl _
  | k :: l => by
    have := cntN_mono h l
    rw [cntN, cntN]
    by_cases ha : tb a k = true
    · rw [if_pos ha, if_pos (h k ha)]; omega
    · rw [if_neg ha]; split <;> omega
mutual
theorem satT_mono {a b : Nat} (h : ∀ k, tb a k = true → tb b k = true) : ∀ t : S48, satT t a = true → satT t b = true
  | ⟨th, ns, inn⟩, hs => by
    rw [satT, decide_eq_true_eq] at hs ⊢
    have h1 := cntN_mono h ns
    have h2 := satL_mono h inn
    omega
theorem satL_mono {a b : Nat} (h : ∀ k, tb a k = true → tb b k = true) : ∀ l : List S48, satL l a ≤ satL l b
  | [] => Int.le_refl _
  | t :: l => by
    have h1 := satL_mono h l
    have h2 := satT_mono h t
    rw [satL, satL]
    by_cases ha : satT t a = true
    · rw [if_pos ha, if_pos (h2 ha)]; omega
    · rw [if_neg ha]; split <;> omega
end
theorem tb_compl (m : Nat) (hm : m < 1024) (k : Int) (h0 : 0 ≤ k) (h1 : k < 10) : tb (1023 - m) k = !tb m k := by
  obtain ⟨i, rfl⟩ := Int.eq_ofNat_of_zero_le h0
  unfold tb
  rw [decide_eq_true h0, decide_eq_true h1, Int.toNat_natCast]
  simp only [Bool.true_and]
  have := Nat.testBit_two_pow_sub_succ (x := m) (n := 10) hm i
  rw [show 2 ^ 10 - (m + 1) = 1023 - m by omega] at this
  rw [this, decide_eq_true (show i < 10 by omega), Bool.true_and]
theorem tb_range {m : Nat} {k : Int} (h : tb m k = true) : 0 ≤ k ∧ k < 10 := by
  unfold tb at h
  simp only [Bool.and_eq_true, decide_eq_true_eq] at h
  exact h.1
-- valid trusts
theorem outR_mem {ns : List Int} (h : outR ns = false) : ∀ k ∈ ns, 0 ≤ k ∧ k < 10 := by
  intro k hk
  unfold outR at h
  rw [List.any_eq_false] at h
  have := h k hk
  rw [decide_eq_true_eq] at this
  omega
theorem chkT_ok {th : Int} {ns : List Int} {inn : List S48} (h : chkT ⟨th, ns, inn⟩ = 0) : 1 ≤ th ∧ th ≤ (ns.length : Int) + (inn.length : Int) ∧ outR ns = false ∧ (ofR ns 0).2 = 0 ∧ chkL inn = 0 := by
  rw [chkT] at h
  by_cases h0 : th < 1 ∨ th > (ns.length : Int) + (inn.length : Int)
  · rw [if_pos h0] at h; cases h
  · rw [if_neg h0] at h
    cases h1 : outR ns
    · rw [if_neg (by rw [h1]; decide)] at h
      by_cases h2 : (ofR ns 0).2 = 0
      · rw [if_pos h2] at h; exact ⟨by omega, by omega, rfl, h2, h⟩
      · rw [if_neg h2] at h; exact absurd h h2
    · rw [if_pos h1] at h; cases h
theorem chkL_cons {t : S48} {l : List S48} (h : chkL (t :: l) = 0) : chkT t = 0 ∧ chkL l = 0 := by
  rw [chkL] at h
  by_cases h0 : chkT t = 0
  · rw [if_pos h0] at h; exact ⟨h0, h⟩
  · rw [if_neg h0] at h; exact absurd h h0
theorem cntN_full (m : Nat) (h : ∀ k, 0 ≤ k → k < 10 → tb m k = true) : ∀ l : List Int, (∀ k ∈ l, 0 ≤ k ∧ k < 10) → cntN l m = l.length
  | [], _ => rfl
  | k :: l, hl => by
    have h1 := cntN_full m h l (fun x hx => hl x (List.mem_cons_of_mem _ hx))
    have h2 := hl k (by simp)
    rw [cntN, if_pos (h k h2.1 h2.2), h1, List.length_cons]; omega
theorem cntN_none (m : Nat) (h : ∀ k, tb m k = false) : ∀ l : List Int, cntN l m = 0
  | [] => rfl
  | k :: l => by rw [cntN, if_neg (by rw [h k]; decide), cntN_none m h l]; rfl
mutual
theorem satT_full (m : Nat) (h : ∀ k, 0 ≤ k → k < 10 → tb m k = true) : ∀ t : S48, chkT t = 0 → satT t m = true
  | ⟨th, ns, inn⟩, hc => by
    obtain ⟨h1, h2, h3, h4, h5⟩ := chkT_ok hc
    have a := cntN_full m h ns (outR_mem h3)
    have b := satL_full m h inn h5
    rw [satT, decide_eq_true_eq]; omega
theorem satL_full (m : Nat) (h : ∀ k, 0 ≤ k → k < 10 → tb m k = true) : ∀ l : List S48, chkL l = 0 → satL l m = l.length
  | [], _ => rfl
  | t :: l, hc => by
    obtain ⟨h1, h2⟩ := chkL_cons hc
    have a := satT_full m h t h1
    have b := satL_full m h l h2
    rw [satL, if_pos a, b, List.length_cons]; omega
end
mutual
theorem satT_none (m : Nat) (h : ∀ k, tb m k = false) : ∀ t : S48, chkT t = 0 → satT t m = false
  | ⟨th, ns, inn⟩, hc => by
    obtain ⟨h1, h2, h3, h4, h5⟩ := chkT_ok hc
    have a := cntN_none m h ns
    have b := satL_none m h inn h5
    rw [satT, decide_eq_false_iff_not]; omega
theorem satL_none (m : Nat) (h : ∀ k, tb m k = false) : ∀ l : List S48, chkL l = 0 → satL l m = 0
  | [], _ => rfl
  | t :: l, hc => by
    obtain ⟨h1, h2⟩ := chkL_cons hc
    have a := satT_none m h t h1
    have b := satL_none m h l h2
    rw [satL, if_neg (by rw [a]; decide), b]; rfl
end
theorem tb_all (k : Int) (h0 : 0 ≤ k) (h1 : k < 10) : tb 1023 k = true := by
  obtain ⟨i, rfl⟩ := Int.eq_ofNat_of_zero_le h0
  have : ∀ i, i < 10 → tb 1023 ((i : Nat) : Int) = true := by decide +kernel
  exact this i (by omega)
theorem tb_zero (k : Int) : tb 0 k = false := by unfold tb; rw [Nat.zero_testBit, Bool.and_false]

-- the nodes of a trust
theorem tb_or (a b : Nat) (k : Int) : tb (a ||| b) k = (tb a k || tb b k) := by
  unfold tb
  rw [Nat.testBit_or]
  cases decide (0 ≤ k) <;> cases decide (k < 10) <;> simp
theorem tb_and (a b : Nat) (k : Int) : tb (a &&& b) k = (tb a k && tb b k) := by
  unfold tb
  rw [Nat.testBit_and]
  cases decide (0 ≤ k) <;> cases decide (k < 10) <;> cases a.testBit k.toNat <;> simp
theorem tb_pow (i : Nat) (h : i < 10) : tb (2 ^ i) (i : Int) = true := by
  unfold tb
  rw [decide_eq_true (show 0 ≤ (i : Int) by omega), decide_eq_true (show (i : Int) < 10 by omega), Int.toNat_natCast, Nat.testBit_two_pow]
  simp

theorem andNot_eq (a b : Nat) (ha : a < 1024) (hb : b < 1024) : Go.bits .andNot .i64 (a : Int) (b : Int) = ((a &&& (1023 - b) : Nat) : Int) := by
  have wr10 : ∀ n : Int, 0 ≤ n → n < 2 ^ 10 → IntKind.i64.wrap n = n := by intro n h0 h1; rw [IntKind.wrap_i64]; omega
  have e64 : IntKind.i64.bits = 64 := by decide
  have ha' : a % 2 ^ 64 = a := Nat.mod_eq_of_lt (by omega)
  have hb' : b % 2 ^ 64 = b := Nat.mod_eq_of_lt (by omega)
  have key : a &&& (2 ^ 64 - 1 - b) = a &&& (1023 - b) := by
    apply Nat.eq_of_testBit_eq
    intro i
    rw [Nat.testBit_and, Nat.testBit_and]
    by_cases hi : i < 10
    · have h1 := Nat.testBit_two_pow_sub_succ (x := b) (n := 64) (by omega) i
      have h2 := Nat.testBit_two_pow_sub_succ (x := b) (n := 10) (by omega) i
      rw [show 2 ^ 64 - 1 - b = 2 ^ 64 - (b + 1) by omega, h1, show 1023 - b = 2 ^ 10 - (b + 1) by omega, h2, decide_eq_true (show i < 64 by omega), decide_eq_true hi]
    · have : a.testBit i = false := Nat.testBit_lt_two_pow (Nat.lt_of_lt_of_le ha (show 1024 ≤ 2 ^ i from Nat.pow_le_pow_right (n := 2) (by decide) (show 10 ≤ i by omega)))
      rw [this, Bool.false_and, Bool.false_and]
  simp only [Go.bits, BitVec.ofInt_natCast, BitVec.toNat_and, BitVec.toNat_not, BitVec.toNat_ofNat, e64, ha', hb']
  rw [key]
  exact wr10 _ (Int.natCast_nonneg _) (by have := Nat.and_lt_two_pow (n := 10) a (show 1023 - b < 2 ^ 10 by omega); omega)

-- configurations, their greatest closed sets
theorem tbn (m i : Nat) (h : i < 10) : tb m (i : Int) = m.testBit i := by
  unfold tb
  rw [decide_eq_true (show 0 ≤ (i : Int) by omega), decide_eq_true (show (i : Int) < 10 by omega), Int.toNat_natCast]; rfl
def dcl (c : List S54) (i : Nat) : Bool := (rd_T54 c (i : Int)).f0
def tr (c : List S54) (i : Nat) : S48 := (rd_T54 c (i : Int)).f1
structure Cfg (c : List S54) : Prop where
  len : c.length ≤ 10
  fu : ∀ i, i < c.length → fuT (tr c i) ≤ 5800
theorem dcl_out (c : List S54) (i : Nat) (h : c.length ≤ i) : dcl c i = false := by
  unfold dcl rd_T54
  rw [Int.toNat_natCast, List.getD_eq_getElem?_getD, List.getElem?_eq_none h]; rfl
theorem dcl_in {c : List S54} {i : Nat} (h : dcl c i = true) : i < c.length := by
  by_cases hi : i < c.length
  · exact hi
  · rw [dcl_out c i (by omega)] at h; cases h
theorem decl_loop (c : List S54) (hc : c.length ≤ 10) (r : Nat) : ∀ (s m k : Nat), s + r = c.length → r + 1 ≤ k → m < 1024 → (∀ i, i < 10 → m.testBit i = (decide (i < s) && dcl c i)) →
    ∃ D : Nat, configuration_Declared.l0 k (m : Int) c (c.length : Int) (s : Int) = some (D : Int) ∧ D < 1024 ∧ ∀ i, i < 10 → D.testBit i = dcl c i := by
  induction r with
  | zero =>
    intro s m k h1 hk hm hb
    obtain ⟨k, rfl⟩ : ∃ q, k = q + 1 := ⟨k - 1, by omega⟩
    refine ⟨m, by rw [configuration_Declared.l0, if_neg (by omega)], hm, fun i hi => ?_⟩
    rw [hb i hi]
    by_cases h : i < s
    · rw [decide_eq_true h]; rfl
    · rw [decide_eq_false h, dcl_out c i (by omega)]; rfl
  | succ r ih =>
    intro s m k h1 hk hm hb
    obtain ⟨k, rfl⟩ : ∃ q, k = q + 1 := ⟨k - 1, by omega⟩
    rw [configuration_Declared.l0, if_pos (by omega), if_pos (by omega), if_pos (by omega), nx s (by omega)]
    cases hd : (rd_T54 c (s : Int)).f0
    · rw [if_neg (by decide)]
      refine ih (s + 1) m k (by omega) (by omega) hm (fun i hi => ?_)
      rw [hb i hi]
      by_cases he : i = s
      · subst he; unfold dcl; rw [hd, Bool.and_false, Bool.and_false]
      · rw [show decide (i < s) = decide (i < s + 1) by rw [decide_eq_decide]; omega]
    · rw [if_pos rfl, if_pos (by omega), shl_eq s (by omega), or_eq m (2 ^ s) hm (pow_lt s (by omega))]
      refine ih (s + 1) (m ||| 2 ^ s) k (by omega) (by omega) (Nat.or_lt_two_pow (n := 10) hm (pow_lt s (by omega))) (fun i hi => ?_)
      rw [Nat.testBit_or, hb i hi, Nat.testBit_two_pow]
      by_cases he : i = s
      · subst he; unfold dcl; rw [hd]; simp
      · rw [decide_eq_false (show ¬ s = i by omega), Bool.or_false, show decide (i < s) = decide (i < s + 1) by rw [decide_eq_decide]; omega]
theorem declared_eq (c : List S54) (hc : c.length ≤ 10) {k : Nat} (hk : 20 ≤ k) : ∃ D : Nat, configuration_Declared.f k c = some (D : Int) ∧ D < 1024 ∧ ∀ i, i < 10 → D.testBit i = dcl c i := by
  unfold configuration_Declared.f
  exact decl_loop c hc c.length 0 0 k (by omega) (by omega) (by omega) (fun i _ => by rw [Nat.zero_testBit]; simp)
theorem nodes_loop (m : Nat) (hm : m < 1024) (r : Nat) : ∀ (s k : Nat) (l : List Int), s + r = 10 → r + 1 ≤ k → l.length ≤ s → (∀ x ∈ l, ∃ i : Nat, x = (i : Int) ∧ i < 10 ∧ m.testBit i = true) → (∀ i : Nat, i < s → m.testBit i = true → (i : Int) ∈ l) →
    ∃ l', nodeset_Nodes.l0 k (m : Int) l (s : Int) = some l' ∧ l'.length ≤ 10 ∧ (∀ x ∈ l', ∃ i : Nat, x = (i : Int) ∧ i < 10 ∧ m.testBit i = true) ∧ (∀ i : Nat, i < 10 → m.testBit i = true → (i : Int) ∈ l') := by
  induction r with
  | zero =>
    intro s k l h1 hk hl h2 h3
    obtain ⟨k, rfl⟩ : ∃ q, k = q + 1 := ⟨k - 1, by omega⟩
    exact ⟨l, by rw [nodeset_Nodes.l0, if_neg (by omega)], by omega, h2, fun i hi => h3 i (by omega)⟩
  | succ r ih =>
    intro s k l h1 hk hl h2 h3
    obtain ⟨k, rfl⟩ : ∃ q, k = q + 1 := ⟨k - 1, by omega⟩
    rw [nodeset_Nodes.l0, if_pos (by omega), has_eq m hm, tbn m s (by omega), nx s (by omega)]
    simp only [Option.bind_some]
    cases hb : m.testBit s
    · rw [if_neg (by decide)]
      refine ih (s + 1) k l (by omega) (by omega) (by omega) h2 (fun i hi ht => ?_)
      by_cases he : i = s
      · rw [he, hb] at ht; cases ht
      · exact h3 i (by omega) ht
    · rw [if_pos rfl, if_pos (by omega)]
      refine ih (s + 1) k (l ++ [(s : Int)]) (by omega) (by omega) (by rw [List.length_append]; simp only [List.length_cons, List.length_nil]; omega) (fun x hx => ?_) (fun i hi ht => ?_)
      · rcases List.mem_append.1 hx with h | h
        · exact h2 x h
        · exact ⟨s, List.mem_singleton.1 h, by omega, hb⟩
      · by_cases he : i = s
        · rw [he]; exact List.mem_append.2 (.inr (List.mem_singleton.2 rfl))
        · exact List.mem_append.2 (.inl (h3 i (by omega) ht))
theorem nodes_eq (m : Nat) (hm : m < 1024) {k : Nat} (hk : 20 ≤ k) : ∃ l', nodeset_Nodes.f k (m : Int) = some l' ∧ l'.length ≤ 10 ∧ (∀ x ∈ l', ∃ i : Nat, x = (i : Int) ∧ i < 10 ∧ m.testBit i = true) ∧ (∀ i : Nat, i < 10 → m.testBit i = true → (i : Int) ∈ l') := by
  unfold nodeset_Nodes.f
  exact nodes_loop m hm 10 0 k [] (by omega) (by omega) (by simp) (fun x hx => by cases hx) (fun i hi => by omega)
theorem content_eq {c : List S54} (hc : Cfg c) {i : Nat} (hi : i < c.length) (m : Nat) (hm : m < 1024) {k : Nat} (hk : 5800 ≤ k) : closure_content.f k c (i : Int) (m : Int) = some (satT (tr c i) m) := by
  unfold closure_content.f
  have := hc.fu i hi
  rw [if_pos (by omega), if_pos (by omega)]
  have h := satisfied_eq (tr c i) m hm (k := k) (by omega) (by omega)
  unfold tr at h
  rw [h]; rfl
theorem unhappy_loop {c : List S54} (hc : Cfg c) (m : Nat) (hm : m < 1024) (l : List Int) (hl : l.length ≤ 10) (h2 : ∀ x ∈ l, ∃ i : Nat, x = (i : Int) ∧ i < c.length ∧ i < 10 ∧ m.testBit i = true) (r : Nat) :
    ∀ (s k : Nat), s + r = l.length → 5800 + r + 1 ≤ k → (∀ j, (h : j < l.length) → j < s → satT (tr c (l[j]'h).toNat) m = true) →
    (∃ i : Nat, closure_unhappy.l0 k (m : Int) l (l.length : Int) (s : Int) c = some ((i : Int), true) ∧ i < c.length ∧ i < 10 ∧ m.testBit i = true ∧ satT (tr c i) m = false) ∨ (closure_unhappy.l0 k (m : Int) l (l.length : Int) (s : Int) c = some (0, false) ∧ ∀ x ∈ l, satT (tr c x.toNat) m = true) := by
  induction r with
  | zero =>
    intro s k h1 hk hd
    obtain ⟨k, rfl⟩ : ∃ q, k = q + 1 := ⟨k - 1, by omega⟩
    refine .inr ⟨by rw [closure_unhappy.l0, if_neg (by omega)], fun x hx => ?_⟩
    obtain ⟨j, hj, rfl⟩ := List.getElem_of_mem hx
    exact hd j hj (by omega)
  | succ r ih =>
    intro s k h1 hk hd
    obtain ⟨k, rfl⟩ : ∃ q, k = q + 1 := ⟨k - 1, by omega⟩
    have hs : s < l.length := by omega
    obtain ⟨i, e, i1, i2, i3⟩ := h2 _ (List.getElem_mem hs)
    rw [closure_unhappy.l0, if_pos (by omega), if_pos (by omega), if_pos (by omega), rd_at l s hs, nx s (by omega), e, content_eq hc i1 m hm (by omega)]
    simp only [Option.bind_some]
    cases hq : satT (tr c i) m
    · rw [if_neg (by decide)]
      exact .inl ⟨i, rfl, i1, i2, i3, hq⟩
    · rw [if_pos rfl]
      refine ih (s + 1) k (by omega) (by omega) (fun j hj hjs => ?_)
      by_cases he : j = s
      · subst he; rw [e, Int.toNat_natCast]; exact hq
      · exact hd j hj (by omega)
theorem unhappy_eq {c : List S54} (hc : Cfg c) (m : Nat) (hm : m < 1024) (hin : ∀ i, i < 10 → m.testBit i = true → i < c.length) {k : Nat} (hk : 5900 ≤ k) :
    (∃ i : Nat, closure_unhappy.f k c (m : Int) = some ((i : Int), true) ∧ i < c.length ∧ i < 10 ∧ m.testBit i = true ∧ satT (tr c i) m = false) ∨ (closure_unhappy.f k c (m : Int) = some (0, false) ∧ ∀ i, i < 10 → m.testBit i = true → satT (tr c i) m = true) := by
  obtain ⟨l, h1, hl, h2, h3⟩ := nodes_eq m hm (k := k) (by omega)
  unfold closure_unhappy.f
  rw [h1]
  simp only [Option.bind_some]
  have h2' : ∀ x ∈ l, ∃ i : Nat, x = (i : Int) ∧ i < c.length ∧ i < 10 ∧ m.testBit i = true := fun x hx => by
    obtain ⟨i, a, b, d⟩ := h2 x hx
    exact ⟨i, a, hin i b d, b, d⟩
  rcases unhappy_loop hc m hm l hl h2' l.length 0 k (by omega) (by omega) (fun j _ hj => by omega) with h | ⟨h, h'⟩
  · exact .inl h
  · refine .inr ⟨h, fun i hi ht => ?_⟩
    have := h' _ (h3 i hi ht)
    rw [Int.toNat_natCast] at this
    exact this
/-- g is the greatest set within m of declared nodes that are all satisfied by it -/
structure IsG (c : List S54) (m g : Nat) : Prop where
  lt : g < 1024
  inn : ∀ i, i < 10 → g.testBit i = true → m.testBit i = true ∧ dcl c i = true ∧ satT (tr c i) g = true
  all : ∀ s, s < 1024 → (∀ i, i < 10 → s.testBit i = true → m.testBit i = true ∧ dcl c i = true ∧ satT (tr c i) s = true) → ∀ i, i < 10 → s.testBit i = true → g.testBit i = true
theorem tb_of {a b : Nat} (h : ∀ i, i < 10 → a.testBit i = true → b.testBit i = true) : ∀ k, tb a k = true → tb b k = true := by
  intro k hk
  obtain ⟨k0, k1⟩ := tb_range hk
  obtain ⟨i, rfl⟩ := Int.eq_ofNat_of_zero_le k0
  rw [tbn a i (by omega)] at hk
  rw [tbn b i (by omega)]
  exact h i (by omega) hk
theorem elim_loop {c : List S54} (hc : Cfg c) (m0 : Nat) (N : Nat) : ∀ (m k : Nat) (l : List Int), m ≤ N → m < 1024 → 6000 + m ≤ k → l.length + m ≤ 2000 →
    (∀ i, i < 10 → m.testBit i = true → m0.testBit i = true ∧ dcl c i = true) →
    (∀ s, s < 1024 → (∀ i, i < 10 → s.testBit i = true → m0.testBit i = true ∧ dcl c i = true ∧ satT (tr c i) s = true) → ∀ i, i < 10 → s.testBit i = true → m.testBit i = true) →
    ∃ g l', closure_eliminate.l0 k (m : Int) l c = some (((g : Nat) : Int), l') ∧ IsG c m0 g := by
  induction N with
  | zero =>
    intro m k l hN hm hk hl h1 h2
    obtain ⟨k, rfl⟩ : ∃ q, k = q + 1 := ⟨k - 1, by omega⟩
    obtain rfl : m = 0 := by omega
    rw [closure_eliminate.l0]
    rcases unhappy_eq hc 0 hm (fun i _ h => by rw [Nat.zero_testBit] at h; cases h) (k := k) (by omega) with ⟨i, _, _, _, h, _⟩ | ⟨h, h'⟩
    · rw [Nat.zero_testBit] at h; cases h
    · rw [h]
      exact ⟨0, l, rfl, by omega, (fun i _ h => by rw [Nat.zero_testBit] at h; cases h), h2⟩
  | succ N ih =>
    intro m k l hN hm hk hl h1 h2
    obtain ⟨k, rfl⟩ : ∃ q, k = q + 1 := ⟨k - 1, by omega⟩
    rw [closure_eliminate.l0]
    rcases unhappy_eq hc m hm (fun i hi h => dcl_in (h1 i hi h).2) (k := k) (by omega) with ⟨i, h, i1, i2, i3, i4⟩ | ⟨h, h'⟩
    · rw [h]
      simp only [Option.bind_some, if_true]
      have hp := pow_lt i i2
      rw [if_pos (by omega), if_pos (by omega), shl_eq i i2, andNot_eq m (2 ^ i) hm hp]
      have bit : ∀ j, j < 10 → (m &&& (1023 - 2 ^ i)).testBit j = (m.testBit j && !decide (i = j)) := fun j hj => by
        have := Nat.testBit_two_pow_sub_succ (x := 2 ^ i) (n := 10) (by omega) j
        rw [Nat.testBit_and, show 1023 - 2 ^ i = 2 ^ 10 - (2 ^ i + 1) by omega, this, decide_eq_true hj, Nat.testBit_two_pow, Bool.true_and]
      have hlt : m &&& (1023 - 2 ^ i) < m := by
        have hle : m &&& (1023 - 2 ^ i) ≤ m := Nat.and_le_left
        rcases Nat.lt_or_eq_of_le hle with h | h
        · exact h
        · have := bit i i2
          rw [h, i3, decide_eq_true rfl] at this
          cases this
      refine ih (m &&& (1023 - 2 ^ i)) k (l ++ [(i : Int)]) (by omega) (by omega) (by omega) (by rw [List.length_append]; simp only [List.length_cons, List.length_nil]; omega) (fun j hj hb => ?_) (fun s hs hsa j hj hb => ?_)
      · rw [bit j hj, Bool.and_eq_true] at hb
        exact h1 j hj hb.1
      · have hjm := h2 s hs hsa j hj hb
        rw [bit j hj, hjm, Bool.true_and]
        by_cases he : i = j
        · subst he
          have hsat := (hsa i hj hb).2.2
          have := satT_mono (tb_of (fun q hq hqb => h2 s hs hsa q hq hqb)) (tr c i) hsat
          rw [this] at i4; cases i4
        · rw [decide_eq_false he]; rfl
    · rw [h]
      exact ⟨m, l, rfl, hm, fun i hi hb => ⟨(h1 i hi hb).1, (h1 i hi hb).2, h' i hi hb⟩, h2⟩
theorem greatest_eq {c : List S54} (hc : Cfg c) (m : Nat) (hm : m < 1024) {k : Nat} (hk : 7100 ≤ k) : ∃ g : Nat, closure_Greatest.f k c (m : Int) = some (g : Int) ∧ IsG c m g := by
  obtain ⟨D, hD, hD1, hD2⟩ := declared_eq c hc.len (k := k) (by omega)
  have hlt : m &&& D < 1024 := Nat.and_lt_two_pow (n := 10) m hD1
  obtain ⟨g, l', hg, hG⟩ := elim_loop hc m (m &&& D) (m &&& D) k [] (Nat.le_refl _) hlt (by omega) (by simp only [List.length_nil]; omega)
    (fun i hi h => by rw [Nat.testBit_and, Bool.and_eq_true, hD2 i hi] at h; exact h)
    (fun s hs h i hi hb => by rw [Nat.testBit_and, hD2 i hi, (h i hi hb).1, (h i hi hb).2.1]; rfl)
  refine ⟨g, ?_, hG⟩
  unfold closure_Greatest.f closure_eliminate.f
  rw [nsValid_eq, decide_eq_true (show 0 ≤ (m : Int) ∧ (m : Int) < 1024 by omega)]
  simp only [Option.bind_some, if_true]
  rw [hD]
  simp only [Option.bind_some]
  rw [and_eq m D hm hD1, hg]; rfl
theorem IsG.mono {c : List S54} {m m' g g' : Nat} (h : IsG c m g) (h' : IsG c m' g') (hm : ∀ i, i < 10 → m.testBit i = true → m'.testBit i = true) : ∀ i, i < 10 → g.testBit i = true → g'.testBit i = true :=
  h'.all g h.lt (fun i hi hb => ⟨hm i hi (h.inn i hi hb).1, (h.inn i hi hb).2⟩)

-- the two rules
def blk (c : List S54) (v b : Nat) : Bool := dcl c v && !satT (tr c v) ((1023 &&& (1023 - b)) ||| 2 ^ v)
theorem blocks_eq {c : List S54} (hc : Cfg c) (v b : Nat) (hv : v < 10) (hb : b < 1024) {k : Nat} (hk : 5900 ≤ k) : blocking_Blocks.f k c (v : Int) (b : Int) = some (blk c v b) := by
  obtain ⟨D, hD, hD1, hD2⟩ := declared_eq c hc.len (k := k) (by omega)
  have h1 : 1023 &&& (1023 - b) < 1024 := Nat.and_lt_two_pow (n := 10) 1023 (show 1023 - b < 2 ^ 10 by omega)
  unfold blocking_Blocks.f blk
  rw [nsValid_eq, decide_eq_true (show 0 ≤ (b : Int) ∧ (b : Int) < 1024 by omega)]
  simp only [Option.bind_some, if_true]
  rw [hD]
  simp only [Option.bind_some]
  rw [has_eq D hD1, tbn D v hv, hD2 v hv]
  simp only [Option.bind_some]
  cases hd : dcl c v
  · rw [if_neg (by decide)]; rfl
  · have hi := dcl_in hd
    have hf := hc.fu v hi
    have e := andNot_eq 1023 b (by omega) hb
    rw [show ((1023 : Nat) : Int) = 1023 from rfl] at e
    have hs := satisfied_eq (tr c v) ((1023 &&& (1023 - b)) ||| 2 ^ v) (Nat.or_lt_two_pow (n := 10) h1 (pow_lt v hv)) (k := k) (by omega) (by omega)
    unfold tr at hs
    rw [if_pos rfl, if_pos (by omega), if_pos (by omega), e, shl_eq v hv, or_eq _ _ h1 (pow_lt v hv), hs]
    rfl
theorem blk_mono {c : List S54} {v b y : Nat} (hb : b < 1024) (hy : y < 1024) (h : ∀ i, i < 10 → b.testBit i = true → y.testBit i = true) (hk : blk c v b = true) : blk c v y = true := by
  unfold blk at hk ⊢
  rw [Bool.and_eq_true] at hk ⊢
  refine ⟨hk.1, ?_⟩
  cases hs : satT (tr c v) ((1023 &&& (1023 - y)) ||| 2 ^ v)
  · rfl
  · have bit : ∀ m, m < 1024 → ∀ i, i < 10 → ((1023 &&& (1023 - m)) ||| 2 ^ v).testBit i = (!m.testBit i || decide (v = i)) := fun m hm i hi => by
      have e1 : Nat.testBit 1023 i = true := by
        have : ∀ i, i < 10 → Nat.testBit 1023 i = true := by decide
        exact this i hi
      have e2 := Nat.testBit_two_pow_sub_succ (x := m) (n := 10) (by omega) i
      rw [Nat.testBit_or, Nat.testBit_and, e1, show 1023 - m = 2 ^ 10 - (m + 1) by omega, e2, decide_eq_true hi, Nat.testBit_two_pow]; rfl
    have := satT_mono (tb_of (a := (1023 &&& (1023 - y)) ||| 2 ^ v) (b := (1023 &&& (1023 - b)) ||| 2 ^ v) (fun i hi hq => by
      rw [bit y hy i hi] at hq
      rw [bit b hb i hi]
      cases hbi : b.testBit i
      · rfl
      · rw [h i hi hbi] at hq; exact hq)) (tr c v) hs
    rw [this] at hk; cases hk.2
theorem confirms_eq {c : List S54} (hc : Cfg c) (v b : Nat) (hv : v < 10) (hb : b < 1024) {k : Nat} (hk : 7100 ≤ k) : ∃ g, IsG c b g ∧ federated_Confirms.f k c (v : Int) (b : Int) = some (g.testBit v) := by
  obtain ⟨g, hg, hG⟩ := greatest_eq hc b hb hk
  refine ⟨g, hG, ?_⟩
  unfold federated_Confirms.f
  rw [hg]
  simp only [Option.bind_some]
  rw [has_eq g hG.lt, tbn g v hv]; rfl
theorem accepts_eq {c : List S54} (hc : Cfg c) (v a b : Nat) (hv : v < 10) (ha : a < 1024) (hb : b < 1024) {k : Nat} (hk : 7101 ≤ k) : ∃ g, IsG c (a ||| b) g ∧ federated_Accepts.f k c (v : Int) (a : Int) (b : Int) = some (blk c v b || g.testBit v) := by
  obtain ⟨k, rfl⟩ : ∃ q, k = q + 1 := ⟨k - 1, by omega⟩
  obtain ⟨g, hg, hG⟩ := greatest_eq hc (a ||| b) (Nat.or_lt_two_pow (n := 10) ha hb) (k := k) (by omega)
  refine ⟨g, hG, ?_⟩
  unfold federated_Accepts.f
  rw [nsValid_eq, nsValid_eq, decide_eq_true (show 0 ≤ (a : Int) ∧ (a : Int) < 1024 by omega), decide_eq_true (show 0 ≤ (b : Int) ∧ (b : Int) < 1024 by omega)]
  simp only [Option.bind_some, if_true, Bool.not_true]
  rw [federated_Accepts.j0, if_neg (by decide), blocks_eq hc v b hv hb (by omega)]
  simp only [Option.bind_some]
  cases hB : blk c v b
  · rw [if_neg (by decide), or_eq a b ha hb, hg]
    simp only [Option.bind_some]
    rw [has_eq g hG.lt, tbn g v hv]; rfl
  · rw [if_pos rfl]; rfl
-- the example
def c4 : List S54 := [⟨true, ⟨3, [0, 1, 2, 3], []⟩⟩, ⟨true, ⟨3, [0, 1, 2, 3], []⟩⟩, ⟨true, ⟨3, [0, 1, 2, 3], []⟩⟩, ⟨true, ⟨3, [0, 1, 2, 3], []⟩⟩]
theorem four_eq {k : Nat} (hk : 10 ≤ k) : trustquorumlaw18_four.f k = some c4 :=
  at_rounds (g := fun k => trustquorumlaw18_four.f k) (fun k => trustquorumlaw18_four.mono k) hk (by kernel_rfl)
theorem c4_ok : Cfg c4 := ⟨by decide, by decide +kernel⟩
theorem awake_eq {k : Nat} (hk : 7200 ≤ k) : trustquorumlaw18_awake.f k = some true := by
  have F := four_eq (k := k) (by omega)
  obtain ⟨g1, G1, A1⟩ := accepts_eq c4_ok 0 7 0 (by omega) (by omega) (by omega) (k := k) (by omega)
  obtain ⟨g2, G2, A2⟩ := accepts_eq c4_ok 0 0 6 (by omega) (by omega) (by omega) (k := k) (by omega)
  obtain ⟨g3, G3, A3⟩ := accepts_eq c4_ok 0 3 0 (by omega) (by omega) (by omega) (k := k) (by omega)
  obtain ⟨g4, G4, A4⟩ := confirms_eq c4_ok 0 7 (by omega) (by omega) (k := k) (by omega)
  obtain ⟨g5, G5, A5⟩ := confirms_eq c4_ok 0 14 (by omega) (by omega) (k := k) (by omega)
  have s7 : ∀ i, i < 10 → Nat.testBit 7 i = true → Nat.testBit 7 i = true ∧ dcl c4 i = true ∧ satT (tr c4 i) 7 = true := by decide +kernel
  have b1 : g1.testBit 0 = true := G1.all 7 (by omega) s7 0 (by omega) (by decide)
  have b4 : g4.testBit 0 = true := G4.all 7 (by omega) s7 0 (by omega) (by decide)
  have b3 : g3.testBit 0 = false := by
    cases h : g3.testBit 0
    · rfl
    · have hs := (G3.inn 0 (by omega) h).2.2
      have := satT_mono (tb_of (fun i hi hb => (G3.inn i hi hb).1)) (tr c4 0) hs
      have e : satT (tr c4 0) (3 ||| 0) = false := by decide +kernel
      rw [e] at this; cases this
  have b5 : g5.testBit 0 = false := by
    cases h : g5.testBit 0
    · rfl
    · have := (G5.inn 0 (by omega) h).1
      cases this
  have k0 : blk c4 0 0 = false := by decide +kernel
  have k6 : blk c4 0 6 = true := by decide +kernel
  rw [b1, Bool.or_true] at A1
  rw [k6, Bool.true_or] at A2
  rw [b3, k0, Bool.or_false] at A3
  rw [b4] at A4
  rw [b5] at A5
  have A1 : federated_Accepts.f k c4 0 7 0 = some true := A1
  have A2 : federated_Accepts.f k c4 0 0 6 = some true := A2
  have A3 : federated_Accepts.f k c4 0 3 0 = some false := A3
  have A4 : federated_Confirms.f k c4 0 7 = some true := A4
  have A5 : federated_Confirms.f k c4 0 14 = some false := A5
  unfold trustquorumlaw18_awake.f
  rw [F]
  simp only [Option.bind_some]
  rw [A1]; simp only [Option.bind_some, if_true]
  rw [A2]; simp only [Option.bind_some, if_true]
  rw [A3]; simp only [Option.bind_some, Bool.false_eq_true, if_false]
  rw [A4]; simp only [Option.bind_some, if_true]
  rw [A5]; rfl

theorem threshold_Size_eq (N : Nat) : ∀ (t : S48) (k : Nat), fuT t ≤ N → fuT t ≤ 1000000 → fuT t ≤ k → threshold_Size.f k t.f0 t.f1 t.f2 = some (sizT t) := by
  induction N with
  | zero => intro t k h; rw [fuT_eq] at h; omega
  | succ N ih =>
    intro t k h hb hk
    obtain ⟨th, ns, inn⟩ := t
    rw [fuT] at h hb hk
    have hl := fuL_len inn
    have key : ∀ (r s : Nat) (c : Int) (k : Nat), s + r = inn.length → fuL (inn.drop s) + 2 ≤ k → 0 ≤ c → c + 2 * fuL (inn.drop s) ≤ 10000000 → threshold_Size.l0 k c inn (inn.length : Int) (s : Int) = some (sizL (inn.drop s) c) := by
      intro r
      induction r with
      | zero =>
        intro s c k h1 hk _ _
        obtain ⟨k, rfl⟩ : ∃ m, k = m + 1 := ⟨k - 1, by omega⟩
        rw [threshold_Size.l0, if_neg (by omega), List.drop_of_length_le (by omega), sizL]
      | succ r ihr =>
        intro s c k h1 hk hc0 hc1
        obtain ⟨k, rfl⟩ : ∃ m, k = m + 1 := ⟨k - 1, by omega⟩
        have hs : s < inn.length := by omega
        have hd := fuL_drop inn s hs
        have hle := fuL_le inn s
        have hb2 := siz_bd _ inn[s] (Nat.le_refl _)
        rw [threshold_Size.l0, if_pos (by omega), if_pos (by omega), if_pos (by omega), rdS_at inn s hs, ih inn[s] k (by omega) (by omega) (by omega)]
        simp only [Option.bind_some]
        rw [w64 (x := c + sizT inn[s]) (by omega) (by omega), nx s (by omega), ihr (s + 1) (c + sizT inn[s]) k (by omega) (by omega) (by omega) (by omega), List.drop_eq_getElem_cons hs, sizL]
    obtain ⟨k, rfl⟩ : ∃ m, k = m + 1 := ⟨k - 1, by omega⟩
    show threshold_Size.f (k + 1) th ns inn = _
    rw [threshold_Size.f, w64 (by omega) (by omega), sizT]
    exact key inn.length 0 _ k (by omega) (by rw [List.drop_zero]; omega) (by omega) (by rw [List.drop_zero]; omega)

theorem threshold_Depth_eq (N : Nat) : ∀ (t : S48) (k : Nat), fuT t ≤ N → fuT t ≤ 1000000 → fuT t ≤ k → threshold_Depth.f k t.f0 t.f1 t.f2 = some (depT t) := by
  induction N with
  | zero => intro t k h; rw [fuT_eq] at h; omega
  | succ N ih =>
    intro t k h hb hk
    obtain ⟨th, ns, inn⟩ := t
    rw [fuT] at h hb hk
    have hl := fuL_len inn
    have key : ∀ (r s : Nat) (c : Int) (k : Nat), s + r = inn.length → fuL (inn.drop s) + 2 ≤ k → 0 ≤ c → c + fuL (inn.drop s) ≤ 10000000 → threshold_Depth.l0 k c inn (inn.length : Int) (s : Int) = some (depL (inn.drop s) c + 1) := by
      intro r
      induction r with
      | zero =>
        intro s c k h1 hk hc0 hc1
        obtain ⟨k, rfl⟩ : ∃ m, k = m + 1 := ⟨k - 1, by omega⟩
        rw [threshold_Depth.l0, if_neg (by omega), List.drop_of_length_le (by omega), depL, w64 (by omega) (by omega)]
      | succ r ihr =>
        intro s c k h1 hk hc0 hc1
        obtain ⟨k, rfl⟩ : ∃ m, k = m + 1 := ⟨k - 1, by omega⟩
        have hs : s < inn.length := by omega
        have hd := fuL_drop inn s hs
        have hle := fuL_le inn s
        have hb2 := dep_bd _ inn[s] (Nat.le_refl _)
        have hm : 0 ≤ mx c (depT inn[s]) ∧ mx c (depT inn[s]) ≤ c + fuT inn[s] := by unfold mx; split <;> omega
        rw [threshold_Depth.l0, if_pos (by omega), if_pos (by omega), if_pos (by omega), rdS_at inn s hs, ih inn[s] k (by omega) (by omega) (by omega)]
        simp only [Option.bind_some]
        rw [nx s (by omega), ihr (s + 1) (mx c (depT inn[s])) k (by omega) (by omega) (by omega) (by omega), List.drop_eq_getElem_cons hs, depL]
    obtain ⟨k, rfl⟩ : ∃ m, k = m + 1 := ⟨k - 1, by omega⟩
    show threshold_Depth.f (k + 1) th ns inn = _
    rw [threshold_Depth.f, depT]
    exact key inn.length 0 0 k (by omega) (by rw [List.drop_zero]; omega) (by omega) (by rw [List.drop_zero]; omega)

theorem nodeset_Of_loop (l : List Int) (hl : l.length ≤ 1000000) (r : Nat) : ∀ (s m k : Nat), s + r = l.length → m < 1024 → 2 * r + 2 ≤ k → nodeset_Of.l0 k (m : Int) l (l.length : Int) (s : Int) = some (ofR (l.drop s) m) := by
  induction r with
  | zero =>
    intro s m k h1 hm hk
    obtain ⟨k, rfl⟩ : ∃ q, k = q + 1 := ⟨k - 1, by omega⟩
    rw [nodeset_Of.l0, if_neg (by omega), List.drop_of_length_le (by omega), ofR]
  | succ r ih =>
    intro s m k h1 hm hk
    obtain ⟨k, rfl⟩ : ∃ q, k = q + 2 := ⟨k - 2, by omega⟩
    have hs : s < l.length := by omega
    show nodeset_Of.l0 ((k + 1) + 1) _ _ _ _ = _
    rw [nodeset_Of.l0, if_pos (by omega), if_pos (by omega), if_pos (by omega), rd_at l s hs, List.drop_eq_getElem_cons hs, ofR]
    generalize l[s] = x
    by_cases h0 : x < 0
    · rw [if_pos h0, nodeset_Of.j1, if_pos rfl, if_pos (.inl h0)]
    · rw [if_neg h0, nodeset_Of.j1]
      by_cases h2 : x ≥ 10
      · rw [if_pos (decide_eq_true h2), if_pos (.inr h2)]
      · rw [if_neg (by rw [decide_eq_true_eq]; exact h2), if_neg (show ¬ (x < 0 ∨ 10 ≤ x) by omega), has_eq m hm x]
        simp only [Option.bind_some]
        cases ht : tb m x
        · simp only [Bool.false_eq_true, if_false]
          obtain ⟨i, rfl⟩ := Int.eq_ofNat_of_zero_le (show 0 ≤ x by omega)
          have hp := pow_lt i (by omega)
          rw [if_pos (show 0 ≤ (i : Int) by omega), shl_eq i (by omega), or_eq m (2 ^ i) hm hp, nx s (by omega), Int.toNat_natCast]
          exact ih (s + 1) (m ||| 2 ^ i) k (by omega) (Nat.or_lt_two_pow (n := 10) hm hp) (by omega)
        · simp only [if_true]
theorem nodeset_Of_eq (l : List Int) (hl : l.length ≤ 1000000) {k : Nat} (hk : 2 * l.length + 2 ≤ k) : nodeset_Of.f k l = some (ofR l 0) := by
  unfold nodeset_Of.f
  exact nodeset_Of_loop l hl l.length 0 0 k (by omega) (by omega) hk

-- the program's own check
theorem node_eq (k : Int) : threshold_node.f k = some (decide (0 ≤ k ∧ k < 10)) := by
  unfold threshold_node.f
  by_cases h : k ≥ 0
  · rw [if_pos h]; congr 1; rw [decide_eq_decide]; omega
  · rw [if_neg h]; congr 1; rw [eq_comm, decide_eq_false_iff_not]; omega
theorem bad_eq (k : Int) : threshold_level_1.f k = some (decide (k < 0 ∨ 10 ≤ k)) := by
  unfold threshold_level_1.f
  rw [node_eq]
  simp only [Option.bind_some]
  congr 1
  by_cases h : 0 ≤ k ∧ k < 10
  · rw [decide_eq_true h, decide_eq_false (by omega)]; rfl
  · rw [decide_eq_false h, decide_eq_true (by omega)]; rfl
theorem indexf_loop (l : List Int) (hl : l.length ≤ 1000000) (r : Nat) : ∀ (s k : Nat), s + r = l.length → r + 1 ≤ k → ∃ x, slices_IndexFunc_int_int__on_119.l0 k l (l.length : Int) (s : Int) = some x ∧ decide (x ≥ 0) = outR (l.drop s) := by
  induction r with
  | zero =>
    intro s k h1 hk
    obtain ⟨k, rfl⟩ : ∃ q, k = q + 1 := ⟨k - 1, by omega⟩
    exact ⟨-1, by rw [slices_IndexFunc_int_int__on_119.l0, if_neg (by omega)], by rw [List.drop_of_length_le (by omega)]; decide⟩
  | succ r ih =>
    intro s k h1 hk
    obtain ⟨k, rfl⟩ : ∃ q, k = q + 1 := ⟨k - 1, by omega⟩
    have hs : s < l.length := by omega
    have ho : outR (l.drop s) = (decide (l[s] < 0 ∨ 10 ≤ l[s]) || outR (l.drop (s + 1))) := by rw [List.drop_eq_getElem_cons hs]; unfold outR; rw [List.any_cons]
    rw [slices_IndexFunc_int_int__on_119.l0, if_pos (by omega), if_pos (by omega), if_pos (by omega), rd_at l s hs, bad_eq, ho]
    simp only [Option.bind_some]
    by_cases hb : l[s] < 0 ∨ 10 ≤ l[s]
    · exact ⟨(s : Int), by rw [if_pos (decide_eq_true hb)], by rw [decide_eq_true hb, decide_eq_true (by omega), Bool.true_or]⟩
    · obtain ⟨x, hx, hd⟩ := ih (s + 1) k (by omega) (by omega)
      exact ⟨x, by rw [if_neg (by rw [decide_eq_true_eq]; exact hb), nx s (by omega)]; exact hx, by rw [hd, decide_eq_false hb, Bool.false_or]⟩
theorem containsf_eq (l : List Int) (hl : l.length ≤ 1000000) {k : Nat} (hk : l.length + 1 ≤ k) : slices_ContainsFunc_int_int__on_119.f k l = some (outR l) := by
  obtain ⟨x, hx, hd⟩ := indexf_loop l hl l.length 0 k (by omega) hk
  unfold slices_ContainsFunc_int_int__on_119.f slices_IndexFunc_int_int__on_119.f
  rw [show (0 : Int) = ((0 : Nat) : Int) from rfl, hx]
  simp only [Option.bind_some]
  rw [List.drop_zero] at hd
  rw [← hd]
  rfl
theorem level_eq (N : Nat) : ∀ (t : S48) (k : Nat), fuT t ≤ N → fuT t ≤ 1000000 → fuT t ≤ k → threshold_level.f k t.f0 t.f1 t.f2 = some (chkT t) := by
  induction N with
  | zero => intro t k h; rw [fuT_eq] at h; omega
  | succ N ih =>
    intro t k h hb hk
    obtain ⟨th, ns, inn⟩ := t
    rw [fuT] at h hb hk
    have hl := fuL_len inn
    have key : ∀ (r s : Nat) (k : Nat), s + r = inn.length → fuL (inn.drop s) + 2 ≤ k → threshold_level.l0 k inn (inn.length : Int) (s : Int) = some (chkL (inn.drop s)) := by
      intro r
      induction r with
      | zero =>
        intro s k h1 hk
        obtain ⟨k, rfl⟩ : ∃ m, k = m + 1 := ⟨k - 1, by omega⟩
        rw [threshold_level.l0, if_neg (by omega), List.drop_of_length_le (by omega), chkL]
      | succ r ihr =>
        intro s k h1 hk
        obtain ⟨k, rfl⟩ : ∃ m, k = m + 1 := ⟨k - 1, by omega⟩
        have hs : s < inn.length := by omega
        have hd := fuL_drop inn s hs
        have hle := fuL_le inn s
        rw [threshold_level.l0, if_pos (by omega), if_pos (by omega), if_pos (by omega), rdS_at inn s hs, ih inn[s] k (by omega) (by omega) (by omega)]
        simp only [Option.bind_some]
        rw [nx s (by omega), List.drop_eq_getElem_cons hs, chkL]
        by_cases hc : chkT inn[s] = 0
        · rw [if_pos hc, if_pos hc]; exact ihr (s + 1) k (by omega) (by omega)
        · rw [if_neg hc, if_neg hc]
    obtain ⟨k, rfl⟩ : ∃ m, k = m + 2 := ⟨k - 2, by omega⟩
    show threshold_level.f ((k + 1) + 1) th ns inn = _
    rw [threshold_level.f, w64 (by omega) (by omega), chkT]
    by_cases h0 : th < 1
    · rw [if_pos h0, threshold_level.j0, if_pos rfl, if_pos (.inl h0)]
    · rw [if_neg h0, threshold_level.j0]
      by_cases h1 : th > (ns.length : Int) + (inn.length : Int)
      · rw [if_pos (decide_eq_true h1), if_pos (.inr h1)]
      · rw [if_neg (by rw [decide_eq_true_eq]; exact h1), if_neg (show ¬ (th < 1 ∨ th > (ns.length : Int) + (inn.length : Int)) by omega), containsf_eq ns (by omega) (by omega), nodeset_Of_eq ns (by omega) (by omega)]
        simp only [Option.bind_some]
        cases ho : outR ns
        · rw [if_neg (show ¬ (false = true) by decide), if_neg (show ¬ (false = true) by decide)]
          by_cases he : (ofR ns 0).2 = 0
          · rw [if_pos he, if_pos he]; exact key inn.length 0 k (by omega) (by rw [List.drop_zero]; omega)
          · rw [if_neg he, if_neg he]
        · rw [if_pos rfl, if_pos rfl]
theorem valid_eq (t : S48) {k : Nat} (hb : fuT t ≤ 1000000) (hk : fuT t ≤ k) : threshold_Valid.f k t.f0 t.f1 t.f2 = some (valT t) := by
  unfold threshold_Valid.f valT
  rw [threshold_Depth_eq _ t k (Nat.le_refl _) hb hk, threshold_Size_eq _ t k (Nat.le_refl _) hb hk, level_eq _ t k (Nat.le_refl _) hb hk]
  simp only [Option.bind_some]
  split
  · rfl
  · split <;> rfl
theorem valT_ok {t : S48} (h1 : chkT t = 0) (h2 : depT t ≤ 4) (h3 : sizT t ≤ 200) : valT t = 0 := by unfold valT; rw [if_neg (by omega), if_neg (by omega), h1]

theorem eta48 (x : S48) : (⟨x.f0, x.f1, x.f2⟩ : S48) = x := by cases x; rfl
-- messages, and the configuration that a node sees
theorem Pick_some {L : List Int} {p : Int} (h : St L p) (l : List Int) (h1 : 1 ≤ l.length) (h2 : l.length ≤ 100) : ∃ c p', trustquorummake_Tape_Pick.f L p l = some (c, p') ∧ St L p' := by
  obtain ⟨r, p', hr, r0, r1, hs⟩ := N_eq (n := (l.length : Int)) h (by omega) (by omega)
  unfold trustquorummake_Tape_Pick.f
  rw [hr]
  simp only [Option.bind_some]
  rw [if_pos r0, if_pos r1]
  exact ⟨_, _, rfl, hs⟩
theorem Claim_some {L : List Int} {p : Int} (h : St L p) : ∃ a b p', trustquorummake_Claim.f L p = some (a, b, p') ∧ St L p' := by
  obtain ⟨r, p1, h1, _, _, s1⟩ := N_eq (n := 30) h (by omega) (by omega)
  unfold trustquorummake_Claim.f
  rw [h1]
  simp only [Option.bind_some]
  by_cases hr : r = 29
  · obtain ⟨a, p2, h2, s2⟩ := Pick_some s1 [(-1), 0, 7, 8] (by decide) (by decide)
    obtain ⟨b, p3, h3, s3⟩ := Pick_some s2 [(-1), 0, 15, 16] (by decide) (by decide)
    rw [if_pos hr, h2]
    simp only [Option.bind_some]
    rw [h3]
    exact ⟨_, _, _, rfl, s3⟩
  · obtain ⟨a, p2, h2, _, _, s2⟩ := N_eq (n := 3) s1 (by omega) (by omega)
    obtain ⟨b, p3, h3, _, _, s3⟩ := N_eq (n := 3) s2 (by omega) (by omega)
    rw [if_neg hr, h2]
    simp only [Option.bind_some]
    rw [h3]
    exact ⟨_, _, _, rfl, s3⟩
theorem claims_loop {L : List Int} (r : Nat) : ∀ (l : List S60) (p : Int) (k : Nat), St L p → l.length + r ≤ 20 → r + 1 ≤ k → ∃ l' p', trustquorummake_Claims.l0 k l (r : Int) L p = some (l', p') ∧ l'.length ≤ 20 ∧ St L p' := by
  induction r with
  | zero =>
    intro l p k hs hl hk
    obtain ⟨k, rfl⟩ : ∃ m, k = m + 1 := ⟨k - 1, by omega⟩
    rw [trustquorummake_Claims.l0, if_neg (by omega)]
    exact ⟨l, p, rfl, by omega, hs⟩
  | succ r ih =>
    intro l p k hs hl hk
    obtain ⟨k, rfl⟩ : ∃ m, k = m + 1 := ⟨k - 1, by omega⟩
    obtain ⟨a, b, p1, h1, s1⟩ := Claim_some hs
    rw [trustquorummake_Claims.l0, if_pos (by omega), h1]
    simp only [Option.bind_some]
    rw [if_pos (by omega), w64 (x := ((r + 1 : Nat) : Int) - 1) (by omega) (by omega), show ((r + 1 : Nat) : Int) - 1 = (r : Int) by omega]
    exact ih _ p1 k s1 (by rw [List.length_append]; simp only [List.length_cons, List.length_nil]; omega) (by omega)
theorem Claims_some {L : List Int} {p n : Int} (h : St L p) (h0 : 0 ≤ n) (h1 : n ≤ 10) {k : Nat} (hk : 20 ≤ k) : ∃ l p', trustquorummake_Claims.f k L p n = some (l, p') ∧ l.length ≤ 20 ∧ St L p' := by
  obtain ⟨r, p1, h2, r0, r1, s1⟩ := N_eq (n := n + 1) h (by omega) (by omega)
  obtain ⟨r, rfl⟩ := Int.eq_ofNat_of_zero_le r0
  unfold trustquorummake_Claims.f
  rw [w64 (x := n + 1) (by omega) (by omega), h2]
  simp only [Option.bind_some]
  exact claims_loop r [] p1 k s1 (by simp; omega) (by omega)
theorem has17 (l : List S60) (hl : l.length ≤ 1000) (a b : Int) (r : Nat) : ∀ (s k : Nat), s + r = l.length → r + 1 ≤ k → ∃ x, trustquorumref17_Has.l0 k l (l.length : Int) (s : Int) a b = some x := by
  induction r with
  | zero =>
    intro s k h1 hk
    obtain ⟨k, rfl⟩ : ∃ m, k = m + 1 := ⟨k - 1, by omega⟩
    exact ⟨_, by rw [trustquorumref17_Has.l0, if_neg (by omega)]⟩
  | succ r ih =>
    intro s k h1 hk
    obtain ⟨k, rfl⟩ : ∃ m, k = m + 1 := ⟨k - 1, by omega⟩
    rw [trustquorumref17_Has.l0, if_pos (by omega), if_pos (by omega), if_pos (by omega), nx s (by omega)]
    split
    · exact ⟨_, rfl⟩
    · exact ih (s + 1) k (by omega) (by omega)
def ltC (x y : S60) : Prop := x.f0 < y.f0 ∨ x.f0 = y.f0 ∧ x.f1 < y.f1
def okC (x : S60) : Prop := 0 ≤ x.f0 ∧ x.f0 < 8 ∧ 0 ≤ x.f1 ∧ x.f1 ≤ 15
structure SC (l : List S60) : Prop where
  len : l.length ≤ 200
  ok : ∀ x ∈ l, okC x
  asc : l.Pairwise ltC
/-- What has been listed before a claim. -/
structure SB (l : List S60) (t v : Nat) : Prop where
  len : l.length ≤ 16 * t + v
  ok : ∀ x ∈ l, okC x ∧ ltC x ⟨(t : Int), (v : Int)⟩
  asc : l.Pairwise ltC
theorem SB.next {l : List S60} {t v : Nat} (h : SB l t v) : SB l t (v + 1) := by
  refine ⟨by have := h.len; omega, fun x hx => ⟨(h.ok x hx).1, ?_⟩, h.asc⟩
  have := (h.ok x hx).2
  unfold ltC at this ⊢
  dsimp only at this ⊢
  omega
theorem SB.more {l : List S60} {t v : Nat} (h : SB l t v) (ht : t < 8) (hv : v ≤ 15) : SB (l ++ [⟨(t : Int), (v : Int)⟩]) t (v + 1) := by
  refine ⟨by have := h.len; rw [List.length_append]; simp only [List.length_cons, List.length_nil]; omega, fun x hx => ?_, ?_⟩
  · rcases List.mem_append.1 hx with hx | hx
    · exact (SB.next h).ok x hx
    · rw [List.mem_singleton.1 hx]
      unfold okC ltC
      dsimp only
      omega
  · rw [List.pairwise_append]
    exact ⟨h.asc, List.pairwise_singleton .., fun x hx y hy => by rw [List.mem_singleton.1 hy]; exact (h.ok x hx).2⟩
theorem SB.turn {l : List S60} {t : Nat} (h : SB l t 16) : SB l (t + 1) 0 := by
  refine ⟨by have := h.len; omega, fun x hx => ⟨(h.ok x hx).1, ?_⟩, h.asc⟩
  have := (h.ok x hx).2
  unfold ltC at this ⊢
  dsimp only at this ⊢
  omega
theorem sorted_row (x : List S60) (hx : x.length ≤ 20) (t : Nat) (ht : t < 8) (K : Nat) (H : ∀ (l : List S60) (k : Nat), SB l (t + 1) 0 → K ≤ k → ∃ o, trustquorumref17_Sorted.l0 k x l ((t + 1 : Nat) : Int) = some o ∧ SC o) (r : Nat) : ∀ (v : Nat) (l : List S60) (k : Nat), v + r = 16 → SB l t v → K + r + 30 ≤ k →
    ∃ o, trustquorumref17_Sorted.l1 k x l (t : Int) (v : Int) = some o ∧ SC o := by
  induction r with
  | zero =>
    intro v l k h1 hb hk
    obtain ⟨k, rfl⟩ : ∃ m, k = m + 1 := ⟨k - 1, by omega⟩
    obtain rfl : v = 16 := by omega
    rw [trustquorumref17_Sorted.l1, if_neg (by omega), nx t (by omega)]
    exact H l k hb.turn (by omega)
  | succ r ih =>
    intro v l k h1 hb hk
    obtain ⟨k, rfl⟩ : ∃ m, k = m + 1 := ⟨k - 1, by omega⟩
    obtain ⟨b, hb2⟩ := has17 x (by omega) (t : Int) (v : Int) x.length 0 k (by omega) (by omega)
    have hlen := hb.len
    rw [trustquorumref17_Sorted.l1, if_pos (by omega)]
    unfold trustquorumref17_Has.f
    rw [show (0 : Int) = ((0 : Nat) : Int) from rfl, hb2]
    simp only [Option.bind_some]
    rw [nx v (by omega)]
    cases b with
    | true => rw [if_pos rfl, if_pos (by omega)]; exact ih (v + 1) _ k (by omega) (hb.more ht (by omega)) (by omega)
    | false => rw [if_neg (by decide)]; exact ih (v + 1) l k (by omega) hb.next (by omega)
theorem sorted_all (x : List S60) (hx : x.length ≤ 20) (r : Nat) : ∀ (t : Nat) (l : List S60) (k : Nat), t + r = 8 → SB l t 0 → 100 * r + 1 ≤ k → ∃ o, trustquorumref17_Sorted.l0 k x l (t : Int) = some o ∧ SC o := by
  induction r with
  | zero =>
    intro t l k h1 hb hk
    obtain ⟨k, rfl⟩ : ∃ m, k = m + 1 := ⟨k - 1, by omega⟩
    rw [trustquorumref17_Sorted.l0, if_neg (by omega)]
    exact ⟨l, rfl, by have := hb.len; omega, fun x hx => (hb.ok x hx).1, hb.asc⟩
  | succ r ih =>
    intro t l k h1 hb hk
    obtain ⟨k, rfl⟩ : ∃ m, k = m + 1 := ⟨k - 1, by omega⟩
    rw [trustquorumref17_Sorted.l0, if_pos (by omega)]
    exact sorted_row x hx t (by omega) (100 * r + 1) (fun l k hb hk => ih (t + 1) l k (by omega) hb hk) 16 0 l k rfl hb (by omega)
theorem Sorted_eq (x : List S60) (hx : x.length ≤ 20) {k : Nat} (hk : 900 ≤ k) : ∃ o, trustquorumref17_Sorted.f k x = some o ∧ SC o := by
  unfold trustquorumref17_Sorted.f
  exact sorted_all x hx 8 0 [] k rfl ⟨by simp, fun x hx => (nomatch hx), List.Pairwise.nil⟩ (by omega)
def cmi (a b : Int) : Int := if a < b then -1 else if b < a then 1 else 0
theorem cmi_eq (a b : Int) : cmp_Compare_int.f a b = some (cmi a b) := by
  unfold cmp_Compare_int.f cmp_isNaN_int.f cmi
  simp only [Option.bind_some, bne_self_eq_false, Bool.false_eq_true, if_false]
  split <;> (try rfl)
  split <;> (try rfl)
theorem or2_eq (x y : Int) {k : Nat} (hk : 3 ≤ k) : cmp_Or_int.f k ([x, y] : List Int) = some (if x = 0 then y else x) := by
  obtain ⟨m, rfl⟩ : ∃ m, k = m + 3 := ⟨k - 3, by omega⟩
  have r0 : rd [x, y] 0 = x := rfl
  have r1 : rd [x, y] 1 = y := rfl
  have w1 : wrap64 (0 + 1) = 1 := by unfold wrap64; omega
  have w2 : wrap64 (1 + 1) = 2 := by unfold wrap64; omega
  have l2 : (([x, y] : List Int).length : Int) = 2 := rfl
  unfold cmp_Or_int.f
  rw [l2]
  simp only [cmp_Or_int.l0]
  rw [l2, w1, w2, r0, r1]
  simp only [show (0 : Int) < 2 from by omega, show (1 : Int) < 2 from by omega, show (0 : Int) ≤ 0 from by omega, show (0 : Int) ≤ 1 from by omega, if_true, show ¬ ((2 : Int) < 2) from by omega, if_false]
  by_cases hx : x = 0
  · rw [if_pos hx, if_pos hx]
    by_cases hy : y = 0
    · rw [if_pos hy, hy]
    · rw [if_neg hy]
  · rw [if_neg hx, if_neg hx]
theorem compareC (x y : S60) (h : ltC x y) {k : Nat} (hk : 3 ≤ k) : ∃ c, claims_Compare.f k x.f0 x.f1 y.f0 y.f1 = some c ∧ c < 0 := by
  unfold claims_Compare.f
  rw [cmi_eq, cmi_eq]
  simp only [Option.bind_some]
  rw [or2_eq _ _ hk]
  simp only [Option.bind_some]
  refine ⟨_, rfl, ?_⟩
  unfold ltC at h
  unfold cmi
  (repeat' split) <;> omega
theorem rdC_at (l : List S60) (s : Nat) (h : s < l.length) : rd_T60 l (s : Int) = l[s]'h := by unfold rd_T60; simp [List.getD, h]
theorem validC (x : S60) (h : okC x) : claims_Valid.f x.f0 x.f1 = some true := by
  obtain ⟨h0, h1, h2, h3⟩ := h
  unfold claims_Valid.f
  rw [if_pos h0, if_pos h1, if_pos h2, decide_eq_true h3]
theorem plainC_loop (l : List S60) (h : SC l) (r : Nat) : ∀ (s k : Nat), s + r = l.length → 2 * r + 5 ≤ k → claims_Plain.l0 k l l (l.length : Int) (s : Int) = some true := by
  have hl := h.len
  induction r with
  | zero =>
    intro s k h1 hk
    obtain ⟨k, rfl⟩ : ∃ m, k = m + 1 := ⟨k - 1, by omega⟩
    rw [claims_Plain.l0, if_neg (by omega)]
  | succ r ih =>
    intro s k h1 hk
    obtain ⟨k, rfl⟩ : ∃ m, k = m + 2 := ⟨k - 2, by omega⟩
    have hs : s < l.length := by omega
    show claims_Plain.l0 ((k + 1) + 1) _ _ _ _ = _
    rw [claims_Plain.l0, if_pos (by omega), if_pos (by omega), if_pos (by omega), rdC_at l s hs, validC _ (h.ok _ (List.getElem_mem hs))]
    simp only [Option.bind_some, if_true]
    by_cases h0 : (s : Int) > 0
    · obtain ⟨q, rfl⟩ : ∃ q, s = q + 1 := ⟨s - 1, by omega⟩
      obtain ⟨c, hc, c0⟩ := compareC l[q] l[q + 1] (List.pairwise_iff_getElem.1 h.asc q (q + 1) (by omega) hs (by omega)) (k := k + 1) (by omega)
      rw [if_pos h0, w64 (x := ((q + 1 : Nat) : Int) - 1) (by omega) (by omega), show ((q + 1 : Nat) : Int) - 1 = (q : Int) by omega, if_pos (by omega), if_pos (by omega), rdC_at l q (by omega), hc]
      simp only [Option.bind_some]
      rw [decide_eq_false (by omega), claims_Plain.j1, if_neg (by decide), nx (q + 1) (by omega)]
      exact ih (q + 1 + 1) k (by omega) (by omega)
    · rw [if_neg h0, claims_Plain.j1, if_neg (by decide), nx s (by omega)]
      exact ih (s + 1) k (by omega) (by omega)
theorem plainC_eq (l : List S60) (h : SC l) {k : Nat} (hk : 500 ≤ k) : claims_Plain.f k l = some true := by
  unfold claims_Plain.f
  have := h.len
  exact plainC_loop l h l.length 0 k (by omega) (by omega)
/-- A trust that was drawn. -/
structure DT (t : S48) : Prop where
  fu : fuT t ≤ 5800
  chk : chkT t = 0
  dep : depT t ≤ 4
  siz : sizT t ≤ 200
structure GM (m : S58) : Prop where
  node0 : 0 ≤ m.f0
  node1 : m.f0 < 5
  seq : 1 ≤ m.f1
  tr : DT m.f2
  votes : SC m.f3
  accs : SC m.f4
theorem Message_eq {L : List Int} {p : Int} (h : St L p) {k : Nat} (hk : 6000 ≤ k) : ∃ m : S58, ∃ p', trustquorummake_Message.f k L p 5 = some (m.f0, m.f1, m.f2.f0, m.f2.f1, m.f2.f2, m.f3, m.f4, p') ∧ GM m ∧ St L p' := by
  obtain ⟨a, p1, h1, a0, a1, s1⟩ := N_eq (n := 5) h (by omega) (by omega)
  obtain ⟨b, p2, h2, b0, b1, s2⟩ := Range_eq (a := 1) (b := 5) s1 (by omega) (by omega) (by omega)
  obtain ⟨th, ns, inn, p3, h3, hf, hc, hd, hz, s3⟩ := Trust_eq (n := 5) s2 (by omega) (by omega) 2 (by omega) (k := k) (by omega)
  obtain ⟨c, p4, h4, hcl, s4⟩ := Claims_some (n := 3) s3 (by omega) (by omega) (k := k) (by omega)
  obtain ⟨v, h5, hv⟩ := Sorted_eq c hcl (k := k) (by omega)
  obtain ⟨d, p5, h6, hdl, s5⟩ := Claims_some (n := 2) s4 (by omega) (by omega) (k := k) (by omega)
  obtain ⟨w, h7, hw⟩ := Sorted_eq d hdl (k := k) (by omega)
  refine ⟨⟨a, b, ⟨th, ns, inn⟩, v, w⟩, p5, ?_, ⟨a0, a1, b0, ⟨hf, hc, hd, hz⟩, hv, hw⟩, s5⟩
  unfold trustquorummake_Message.f
  rw [h1]; simp only [Option.bind_some]
  rw [h2]; simp only [Option.bind_some]
  rw [show (2 : Int) = ((2 : Nat) : Int) from rfl, h3]; simp only [Option.bind_some]
  rw [h4]; simp only [Option.bind_some]
  rw [h5]; simp only [Option.bind_some]
  rw [show ((2 : Nat) : Int) = 2 from rfl, h6]; simp only [Option.bind_some]
  rw [h7]; rfl
theorem messages_loop {L : List Int} (r : Nat) : ∀ (l : List S58) (p : Int) (k : Nat), St L p → l.length + r ≤ 20 → (∀ m ∈ l, GM m) → 6000 + r + 1 ≤ k → ∃ l' p', trustquorummake_Messages.l0 k 5 l (r : Int) L p = some (l', p') ∧ l'.length ≤ 20 ∧ (∀ m ∈ l', GM m) ∧ St L p' := by
  induction r with
  | zero =>
    intro l p k hs hl hg hk
    obtain ⟨k, rfl⟩ : ∃ m, k = m + 1 := ⟨k - 1, by omega⟩
    rw [trustquorummake_Messages.l0, if_neg (by omega)]
    exact ⟨l, p, rfl, by omega, hg, hs⟩
  | succ r ih =>
    intro l p k hs hl hg hk
    obtain ⟨k, rfl⟩ : ∃ m, k = m + 1 := ⟨k - 1, by omega⟩
    obtain ⟨⟨m0, m1, ⟨m2, m3, m4⟩, m5, m6⟩, p1, h1, hm, s1⟩ := Message_eq hs (k := k) (by omega)
    rw [trustquorummake_Messages.l0, if_pos (by omega), h1]
    simp only [Option.bind_some]
    rw [if_pos (by omega), w64 (x := ((r + 1 : Nat) : Int) - 1) (by omega) (by omega), show ((r + 1 : Nat) : Int) - 1 = (r : Int) by omega]
    refine ih _ p1 k s1 (by rw [List.length_append]; simp only [List.length_cons, List.length_nil]; omega) (fun x hx => ?_) (by omega)
    rcases List.mem_append.1 hx with hx | hx
    · exact hg x hx
    · rw [List.mem_singleton.1 hx]; exact hm
theorem Messages_eq {L : List Int} {p : Int} (h : St L p) {k : Nat} (hk : 6100 ≤ k) : ∃ l p', trustquorummake_Messages.f k L p 5 8 = some (l, p') ∧ l.length ≤ 20 ∧ (∀ m ∈ l, GM m) ∧ St L p' := by
  obtain ⟨r, p1, h2, r0, r1, s1⟩ := N_eq (n := 9) h (by omega) (by omega)
  obtain ⟨r, rfl⟩ := Int.eq_ofNat_of_zero_le r0
  unfold trustquorummake_Messages.f
  rw [w64 (x := (8 : Int) + 1) (by omega) (by omega), show (8 : Int) + 1 = 9 from rfl, h2]
  simp only [Option.bind_some]
  exact messages_loop r [] p1 k s1 (by simp; omega) (fun m hm => by cases hm) (by omega)
theorem copied_eq (N : Nat) : ∀ (t : S48) (k : Nat), fuT t ≤ N → fuT t ≤ 1000000 → fuT t ≤ k → federated_copied.f k t.f0 t.f1 t.f2 = some (t.f0, t.f1, t.f2) := by
  induction N with
  | zero => intro t k h; rw [fuT_eq] at h; omega
  | succ N ih =>
    intro t k h hb hk
    obtain ⟨th, ns, inn⟩ := t
    rw [fuT] at h hb hk
    have hl := fuL_len inn
    have key : ∀ (r s : Nat) (k : Nat), s + r = inn.length → fuL (inn.drop s) + 2 ≤ k → federated_copied.l0 k inn (inn.length : Int) (s : Int) th ns (inn.take s) = some (th, ns, inn) := by
      intro r
      induction r with
      | zero =>
        intro s k h1 hk
        obtain ⟨k, rfl⟩ : ∃ m, k = m + 1 := ⟨k - 1, by omega⟩
        rw [federated_copied.l0, if_neg (by omega), List.take_of_length_le (by omega)]
      | succ r ihr =>
        intro s k h1 hk
        obtain ⟨k, rfl⟩ : ∃ m, k = m + 1 := ⟨k - 1, by omega⟩
        have hs : s < inn.length := by omega
        have hd := fuL_drop inn s hs
        have hle := fuL_le inn s
        rw [federated_copied.l0, if_pos (by omega), if_pos (by omega), if_pos (by omega), rdS_at inn s hs, ih inn[s] k (by omega) (by omega) (by omega)]
        simp only [Option.bind_some]
        rw [if_pos (by rw [List.length_take]; omega), nx s (by omega)]
        have := ihr (s + 1) k (by omega) (by omega)
        rw [List.take_succ_eq_append_getElem hs] at this
        rw [eta48]
        exact this
    obtain ⟨k, rfl⟩ : ∃ m, k = m + 1 := ⟨k - 1, by omega⟩
    show federated_copied.f (k + 1) th ns inn = _
    rw [federated_copied.f, if_pos (by rw [List.length_nil]; omega), List.nil_append]
    have := key inn.length 0 k (by omega) (by rw [List.drop_zero]; omega)
    rw [List.take_zero] at this
    exact this
theorem refints_eq (l : List Int) (hl : l.length ≤ 1000000) (r : Nat) : ∀ (s k : Nat), s + r = l.length → r + 1 ≤ k → trustquorumref01_Same.l0 k l l (l.length : Int) (s : Int) = some true := by
  induction r with
  | zero =>
    intro s k h1 hk
    obtain ⟨k, rfl⟩ : ∃ m, k = m + 1 := ⟨k - 1, by omega⟩
    rw [trustquorumref01_Same.l0, if_neg (by omega)]
  | succ r ih =>
    intro s k h1 hk
    obtain ⟨k, rfl⟩ : ∃ m, k = m + 1 := ⟨k - 1, by omega⟩
    rw [trustquorumref01_Same.l0, if_pos (by omega), if_pos (by omega), if_pos (by omega), if_pos (by omega), if_pos rfl, nx s (by omega)]
    exact ih (s + 1) k (by omega) (by omega)
theorem refsame_refl (N : Nat) : ∀ (t : S48) (k : Nat), fuT t ≤ N → fuT t ≤ 1000000 → fuT t ≤ k → trustquorumref02_Same.f k t.f0 t.f1 t.f2 t.f0 t.f1 t.f2 = some true := by
  induction N with
  | zero => intro t k h; rw [fuT_eq] at h; omega
  | succ N ih =>
    intro t k h hb hk
    obtain ⟨th, ns, inn⟩ := t
    rw [fuT] at h hb hk
    have hl := fuL_len inn
    have key : ∀ (r s : Nat) (k : Nat), s + r = inn.length → fuL (inn.drop s) + 2 ≤ k → trustquorumref02_Same.l0 k (inn.length : Int) (s : Int) th ns inn th ns inn = some true := by
      intro r
      induction r with
      | zero =>
        intro s k h1 hk
        obtain ⟨k, rfl⟩ : ∃ m, k = m + 1 := ⟨k - 1, by omega⟩
        rw [trustquorumref02_Same.l0, if_neg (by omega)]
      | succ r ihr =>
        intro s k h1 hk
        obtain ⟨k, rfl⟩ : ∃ m, k = m + 1 := ⟨k - 1, by omega⟩
        have hs : s < inn.length := by omega
        have hd := fuL_drop inn s hs
        have hle := fuL_le inn s
        rw [trustquorumref02_Same.l0, if_pos (by omega), if_pos (by omega), if_pos (by omega), if_pos (by omega), rdS_at inn s hs, ih inn[s] k (by omega) (by omega) (by omega)]
        simp only [Option.bind_some, if_true]
        rw [nx s (by omega)]
        exact ihr (s + 1) k (by omega) (by omega)
    obtain ⟨k, rfl⟩ : ∃ m, k = m + 2 := ⟨k - 2, by omega⟩
    show trustquorumref02_Same.f ((k + 1) + 1) th ns inn th ns inn = _
    rw [trustquorumref02_Same.f, if_pos rfl]
    unfold trustquorumref01_Same.f
    rw [if_pos rfl, show (0 : Int) = ((0 : Nat) : Int) from rfl, refints_eq ns (by omega) ns.length 0 (k + 1) (by omega) (by omega)]
    simp only [Option.bind_some, if_true]
    rw [bne_self_eq_false, trustquorumref02_Same.j0, if_neg (by decide)]
    exact key inn.length 0 k (by omega) (by rw [List.drop_zero]; omega)
theorem fnode_eq (k : Int) (h0 : 0 ≤ k) (h1 : k < 10) : federated_node.f k = some true := by
  unfold federated_node.f
  rw [if_pos h0, decide_eq_true h1]
theorem validT_eq {t : S48} (h : DT t) {k : Nat} (hk : 5900 ≤ k) : threshold_Valid.f k t.f0 t.f1 t.f2 = some 0 := by
  have := h.fu
  rw [valid_eq t (by omega) (by omega), valT_ok h.chk h.dep h.siz]
theorem Plain_eq {m : S58} (h : GM m) {k : Nat} (hk : 5900 ≤ k) : federated_Plain.f k m.f0 m.f1 m.f2.f0 m.f2.f1 m.f2.f2 m.f3 m.f4 = some true := by
  have := h.node1
  have := h.seq
  unfold federated_Plain.f
  rw [fnode_eq _ h.node0 (by omega), validT_eq h.tr hk, plainC_eq _ h.votes (by omega), plainC_eq _ h.accs (by omega)]
  simp only [Option.bind_some, if_true]
  rw [if_pos (by omega)]
/-- What the messages make of a configuration. -/
def vw (v : Int) : List S58 → List S54 → List S54
  | [], c => c
  | m :: l, c => vw v l (if m.f0 = v then c else c.set m.f0.toNat ⟨true, m.f2⟩)
theorem vw_append (v : Int) (a b : List S58) : ∀ c, vw v (a ++ b) c = vw v b (vw v a c) := by
  induction a with
  | nil => intro c; rfl
  | cons x a ih => intro c; rw [List.cons_append, vw, vw, ih]
theorem vw_len (v : Int) (l : List S58) : ∀ c, (vw v l c).length = c.length := by
  induction l with
  | nil => intro c; rfl
  | cons x l ih => intro c; rw [vw, ih]; split <;> simp
theorem rdM_at (l : List S58) (s : Nat) (h : s < l.length) : rd_T58 l (s : Int) = l[s]'h := by unfold rd_T58; simp [List.getD, h]
theorem rd54_set (c : List S54) (i : Nat) (x : S54) (j : Nat) (hj : j < c.length) : rd_T54 (c.set i x) (j : Int) = if i = j then x else rd_T54 c (j : Int) := by
  unfold rd_T54
  rw [Int.toNat_natCast, List.getD_eq_getElem?_getD, List.getD_eq_getElem?_getD, List.getElem?_set]
  by_cases h : i = j
  · rw [if_pos h, if_pos h, if_pos (by omega)]; rfl
  · rw [if_neg h, if_neg h]
theorem view_loop (v : Nat) (hv : v < 10) (y : S48) (hy : DT y) (l : List S58) (hl : l.length ≤ 20) (hg : ∀ m ∈ l, GM m) (r : Nat) : ∀ (s k : Nat) (c : List S54), s + r = l.length → c.length = 10 → 6000 + 2 * r + 5 ≤ k →
    federated_View.l0 k (v : Int) l (l.length : Int) (s : Int) y.f0 y.f1 y.f2 c = some ((vw (v : Int) (l.drop s) c).set v ⟨true, y⟩) := by
  induction r with
  | zero =>
    intro s k c h1 hc hk
    obtain ⟨k, rfl⟩ : ∃ m, k = m + 2 := ⟨k - 2, by omega⟩
    have := hy.fu
    show federated_View.l0 ((k + 1) + 1) _ _ _ _ _ _ _ _ = _
    rw [federated_View.l0, if_neg (by omega), fnode_eq _ (by omega) (by omega), validT_eq hy (by omega), List.drop_of_length_le (by omega)]
    simp only [Option.bind_some, if_true, beq_self_eq_true]
    rw [federated_View.j2, if_pos rfl, copied_eq _ y k (Nat.le_refl _) (by omega) (by omega)]
    simp only [Option.bind_some]
    rw [if_pos (by omega), if_pos (by omega), Int.toNat_natCast, eta48]
    rfl
  | succ r ih =>
    intro s k c h1 hc hk
    obtain ⟨k, rfl⟩ : ∃ m, k = m + 2 := ⟨k - 2, by omega⟩
    have hs : s < l.length := by omega
    have hm := hg l[s] (List.getElem_mem hs)
    have hn := hm.node1
    have hn0 := hm.node0
    have hf := hm.tr.fu
    show federated_View.l0 ((k + 1) + 1) _ _ _ _ _ _ _ _ = _
    rw [federated_View.l0, if_pos (by omega), if_pos (by omega), if_pos (by omega), rdM_at l s hs, List.drop_eq_getElem_cons hs, vw]
    by_cases he : l[s].f0 = (v : Int)
    · rw [if_pos he, if_pos he, federated_View.j1, if_neg (by decide), nx s (by omega)]
      exact ih (s + 1) k c (by omega) hc (by omega)
    · rw [if_neg he, if_neg he, Plain_eq hm (by omega)]
      simp only [Option.bind_some]
      rw [federated_View.j1, if_pos rfl, copied_eq _ l[s].f2 k (Nat.le_refl _) (by omega) (by omega)]
      simp only [Option.bind_some]
      rw [if_pos hn0, if_pos (by omega), nx s (by omega)]
      have := ih (s + 1) k (c.set l[s].f0.toNat ⟨true, l[s].f2⟩) (by omega) (by rw [List.length_set]; exact hc) (by omega)
      rw [eta48]
      exact this

/-- The last message of a node, as far as they are looked at. -/
def Last (v : Int) (l : List S58) (j s : Nat) (x : Int) : Prop :=
  x = -1 ∧ rd_T54 (vw v (l.take s) (List.replicate 10 z54)) (j : Int) = z54 ∨ ∃ (i : Nat) (h : i < l.length), x = (i : Int) ∧ rd_T54 (vw v (l.take s) (List.replicate 10 z54)) (j : Int) = ⟨true, (l[i]'h).f2⟩
theorem last_next (v : Int) (l : List S58) (j : Nat) (hj : j < 10) (hv : (j : Int) ≠ v) (s : Nat) (hs : s < l.length) (h0 : 0 ≤ l[s].f0) (x : Int) (h : Last v l j s x) : Last v l j (s + 1) (if l[s].f0 = (j : Int) then (s : Int) else x) := by
  unfold Last
  rw [List.take_succ_eq_append_getElem hs, vw_append, vw, vw]
  by_cases he : l[s].f0 = (j : Int)
  · rw [if_pos he, if_neg (by omega)]
    refine .inr ⟨s, hs, rfl, ?_⟩
    rw [rd54_set _ _ _ _ (by rw [vw_len, List.length_replicate]; exact hj), if_pos (by omega)]
  · rw [if_neg he]
    have hr : rd_T54 (if l[s].f0 = v then vw v (l.take s) (List.replicate 10 z54) else (vw v (l.take s) (List.replicate 10 z54)).set l[s].f0.toNat ⟨true, l[s].f2⟩) (j : Int) = rd_T54 (vw v (l.take s) (List.replicate 10 z54)) (j : Int) := by
      split
      · rfl
      · rw [rd54_set _ _ _ _ (by rw [vw_len, List.length_replicate]; exact hj), if_neg (by omega)]
    rw [hr]
    exact h
section
variable (v : Nat) (hv : v < 10) (l : List S58) (hl : l.length ≤ 20) (hg : ∀ m ∈ l, GM m) (c : List S54) (hc : c.length = 10)
theorem view_j3 {K : Nat} (s : Nat) (hs : s < 10) (H : ∀ k, K ≤ k → trustquorumlaw18_FederatedView.l0 k (v : Int) l 10 ((s + 1 : Nat) : Int) c = some true) (k : Nat) (hk : K + 1 ≤ k) :
    trustquorumlaw18_FederatedView.j3 k (v : Int) l 10 (s : Int) false c = some true := by
  obtain ⟨k, rfl⟩ : ∃ m, k = m + 1 := ⟨k - 1, by omega⟩
  rw [trustquorumlaw18_FederatedView.j3, if_neg (by decide), nx s (by omega)]
  exact H k (by omega)
include hl hg hc in
theorem view_l1 {K : Nat} (hK : 7000 ≤ K) (hce : ∀ j : Nat, j < 10 → (j : Int) ≠ (v : Int) → rd_T54 c (j : Int) = rd_T54 (vw (v : Int) l (List.replicate 10 z54)) (j : Int)) (j : Nat) (hj : j < 10) (H : ∀ k, K ≤ k → trustquorumlaw18_FederatedView.l0 k (v : Int) l 10 ((j + 1 : Nat) : Int) c = some true) (r : Nat) : ∀ (s k : Nat) (x : Int), s + r = l.length → ((j : Int) ≠ (v : Int) → Last (v : Int) l j s x) → K + r + 5 ≤ k →
    trustquorumlaw18_FederatedView.l1 k (v : Int) l (j : Int) x 10 (j : Int) (l.length : Int) (s : Int) c = some true := by
  induction r with
  | zero =>
    intro s k x h1 hx hk
    obtain ⟨k, rfl⟩ : ∃ m, k = m + 1 := ⟨k - 1, by omega⟩
    rw [trustquorumlaw18_FederatedView.l1, if_neg (by omega)]
    by_cases he : (j : Int) = (v : Int)
    · rw [if_pos he]; exact view_j3 v l c j hj H k (by omega)
    · have hlast := hx he
      unfold Last at hlast
      rw [List.take_of_length_le (by omega), ← hce j hj he] at hlast
      rw [if_neg he, if_pos (by omega), if_pos (by omega)]
      rcases hlast with ⟨rfl, hr⟩ | ⟨i, hi, rfl, hr⟩
      · rw [hr, show (z54.f0 != decide ((-1 : Int) ≥ 0)) = false by decide, if_neg (by decide), if_neg (by omega)]
        exact view_j3 v l c j hj H k (by omega)
      · have hf := (hg _ (List.getElem_mem hi)).tr.fu
        rw [hr, decide_eq_true (show (i : Int) ≥ 0 by omega)]
        simp only [bne_self_eq_false]
        rw [if_neg (by decide), if_pos (by omega), if_pos (by omega), if_pos (by omega), rdM_at l i hi, refsame_refl _ l[i].f2 k (Nat.le_refl _) (by omega) (by omega)]
        simp only [Option.bind_some]
        exact view_j3 v l c j hj H k (by omega)
  | succ r ih =>
    intro s k x h1 hx hk
    obtain ⟨k, rfl⟩ : ∃ m, k = m + 1 := ⟨k - 1, by omega⟩
    have hs : s < l.length := by omega
    have hn := fun he => last_next (v : Int) l j hj he s hs (hg _ (List.getElem_mem hs)).node0 x (hx he)
    rw [trustquorumlaw18_FederatedView.l1, if_pos (by omega), if_pos (by omega), if_pos (by omega), rdM_at l s hs, nx s (by omega)]
    by_cases he : l[s].f0 = (j : Int)
    · rw [if_pos he] at hn ⊢
      exact ih (s + 1) k _ (by omega) hn (by omega)
    · rw [if_neg he] at hn ⊢
      exact ih (s + 1) k _ (by omega) hn (by omega)
include hl hg hc in
theorem view_l0 (hce : ∀ j : Nat, j < 10 → (j : Int) ≠ (v : Int) → rd_T54 c (j : Int) = rd_T54 (vw (v : Int) l (List.replicate 10 z54)) (j : Int)) (r : Nat) : ∀ (j k : Nat), j + r = 10 → 8000 + 40 * r ≤ k →
    trustquorumlaw18_FederatedView.l0 k (v : Int) l 10 (j : Int) c = some true := by
  induction r with
  | zero =>
    intro j k h1 hk
    obtain ⟨k, rfl⟩ : ∃ m, k = m + 1 := ⟨k - 1, by omega⟩
    rw [trustquorumlaw18_FederatedView.l0, if_neg (by omega), awake_eq (by omega)]; rfl
  | succ r ih =>
    intro j k h1 hk
    obtain ⟨k, rfl⟩ : ∃ m, k = m + 1 := ⟨k - 1, by omega⟩
    rw [trustquorumlaw18_FederatedView.l0, if_pos (by omega)]
    refine view_l1 v l hl hg c hc (K := 8000 + 40 * r) (by omega) hce j (by omega) (fun k hk => ih (j + 1) k (by omega) hk) l.length 0 k (-1) (by omega) (fun _ => .inl ⟨rfl, ?_⟩) (by omega)
    rw [List.take_zero, vw]
    have : ∀ j, j < 10 → rd_T54 (List.replicate 10 z54) ((j : Nat) : Int) = z54 := by
      intro j hj
      unfold rd_T54
      rw [Int.toNat_natCast, List.getD_eq_getElem?_getD, List.getElem?_replicate, if_pos hj]; rfl
    exact this j (by omega)
end
theorem FederatedView : trustquorumlaw18_FederatedView.Pure := by
  intro l0 _ _ _
  obtain ⟨L, hL, s0⟩ := New_eq l0
  obtain ⟨n, p1, h1, n0, n1, s1⟩ := N_eq (n := 5) s0 (by omega) (by omega)
  obtain ⟨v, rfl⟩ := Int.eq_ofNat_of_zero_le n0
  obtain ⟨K, hK⟩ : ∃ K, 9000 ≤ K := ⟨9000, Nat.le_refl _⟩
  obtain ⟨th, ns, inn, p2, h2, hf, hc, hd, hz, s2⟩ := Trust_eq (n := 5) s1 (by omega) (by omega) 2 (by omega) (k := K) (by omega)
  obtain ⟨l, p3, h3, hl, hg, s3⟩ := Messages_eq s2 (k := K) (by omega)
  have hy : DT (⟨th, ns, inn⟩ : S48) := ⟨hf, hc, hd, hz⟩
  have hv := view_loop v (by omega) ⟨th, ns, inn⟩ hy l hl hg l.length 0 K (List.replicate 10 z54) (by omega) (List.length_replicate ..) (by omega)
  rw [List.drop_zero] at hv
  have hlen : ((vw (v : Int) l (List.replicate 10 z54)).set v ⟨true, (⟨th, ns, inn⟩ : S48)⟩).length = 10 := by rw [List.length_set, vw_len, List.length_replicate]
  refine ⟨K, ?_⟩
  unfold trustquorumlaw18_FederatedView.f
  rw [hL]; simp only [Option.bind_some]
  rw [h1]; simp only [Option.bind_some]
  rw [show (2 : Int) = ((2 : Nat) : Int) from rfl, h2]; simp only [Option.bind_some]
  rw [h3]; simp only [Option.bind_some]
  unfold federated_View.f
  rw [if_pos (by decide), show (0 : Int) = ((0 : Nat) : Int) from rfl, hv]
  simp only [Option.bind_some]
  rw [hlen, if_pos (by decide), if_pos (by omega), if_pos (by omega), rd54_set _ _ _ _ (by rw [vw_len, List.length_replicate]; omega), if_pos rfl, if_pos rfl]
  rw [refsame_refl _ (⟨th, ns, inn⟩ : S48) K (Nat.le_refl _) (by omega) (by omega)]
  simp only [Option.bind_some]
  obtain ⟨K, rfl⟩ : ∃ m, K = m + 1 := ⟨K - 1, by omega⟩
  rw [trustquorumlaw18_FederatedView.j0, if_neg (by decide), hlen]
  refine view_l0 v l hl hg _ hlen (fun j hj he => ?_) 10 0 K rfl (by omega)
  rw [rd54_set _ _ _ _ (by rw [vw_len, List.length_replicate]; exact hj), if_neg (by omega)]

end Go.Proofs.Ytmeamdklonmahaa.Pure
