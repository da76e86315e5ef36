/- For every list of numbers, in a drawn configuration in which all quorums meet despite a set, two members outside of the set that may confirm by two sets of nodes have a node outside of the set in both of them: the statement over numbers and lists that the row asks. No condition. -/
import Derived.Test.YtmeamdklonmahaaQFederatedSafex15
import Derived.OpenShut
set_option linter.unusedSimpArgs false
set_option linter.unusedVariables false
namespace Go.Proofs.Ytmeamdklonmahaa.Pure
open Go.RowKit Go.Proofs.Ytmeamdklonmahaa.QFederatedSafe Go.Proofs.YtmeamdklonmahaaW.PrintWords Go.Proofs.YtmeamdklonmahaaW.PrintLast Go.Proofs.YtmeamdklonmahaaW.PrintMore

theorem w64 {x : Int} (h : -9223372036854775808 ≤ x) (h' : x ≤ 9223372036854775807) : wrap64 x = x := by unfold wrap64; omega
structure St (L : List Int) (p : Int) : Prop where
  len : L.length ≤ 400
  lo : 0 ≤ p
  hi : p ≤ 400
theorem New_eq (l : List Int) : ∃ L, trustquorummake_New.f l = some (L, 0) ∧ St L 0 := by
  unfold trustquorummake_New.f
  have h0 : 0 ≤ mn (l.length : Int) 400 := by unfold mn; split <;> omega
  have h1 : mn (l.length : Int) 400 ≤ l.length := by unfold mn; split <;> omega
  have h2 : mn (l.length : Int) 400 ≤ 400 := by unfold mn; split <;> omega
  rw [if_pos h0, if_pos h1]
  refine ⟨_, rfl, ⟨?_, by omega, by omega⟩⟩
  rw [List.length_take]; omega
theorem N_eq {L : List Int} {p n : Int} (h : St L p) (hn : 1 ≤ n) (hn2 : n ≤ 1000000) : ∃ r p', trustquorummake_Tape_N.f L p n = some (r, p') ∧ 0 ≤ r ∧ r < n ∧ St L p' := by
  unfold trustquorummake_Tape_N.f
  by_cases h1 : p ≥ (L.length : Int)
  · exact ⟨0, p, by rw [if_pos h1], by omega, by omega, h⟩
  · have hp : p < L.length := by omega
    have h3 := h.len
    have h4 := h.lo
    have e1 : wrap64 (p + 1) = p + 1 := w64 (by omega) (by omega)
    have b1 := Int.tmod_lt_of_pos (rd L p) (show 0 < n by omega)
    have b2 := Int.lt_tmod_of_pos (rd L p) (show 0 < n by omega)
    rw [if_neg h1, if_pos h.lo, if_pos hp, if_neg (by omega), e1]
    by_cases h5 : Int.tmod (rd L p) n < 0
    · rw [if_pos h5, w64 (by omega) (by omega)]
      exact ⟨_, _, rfl, by omega, by omega, ⟨h.len, by omega, by omega⟩⟩
    · rw [if_neg h5]
      exact ⟨_, _, rfl, by omega, by omega, ⟨h.len, by omega, by omega⟩⟩
theorem Range_eq {L : List Int} {p a b : Int} (h : St L p) (ha : -1000 ≤ a) (hab : a ≤ b) (hb : b ≤ 100000) : ∃ r p', trustquorummake_Tape_Range.f L p a b = some (r, p') ∧ a ≤ r ∧ r ≤ b ∧ St L p' := by
  have e1 : wrap64 (b - a) = b - a := w64 (by omega) (by omega)
  have e2 : wrap64 (b - a + 1) = b - a + 1 := w64 (by omega) (by omega)
  obtain ⟨r, p', hr, h0, h1, hs⟩ := N_eq (n := b - a + 1) h (by omega) (by omega)
  refine ⟨a + r, p', ?_, by omega, by omega, hs⟩
  unfold trustquorummake_Tape_Range.f
  rw [e1, e2, hr]
  simp only [Option.bind_some]
  rw [w64 (x := a + r) (by omega) (by omega)]
theorem rd_at (l : List Int) (s : Nat) (h : s < l.length) : rd l (s : Int) = l[s]'h := by unfold rd; simp [List.getD, h]
theorem rdS_at (l : List S48) (s : Nat) (h : s < l.length) : rd_T48 l (s : Int) = l[s]'h := by unfold rd_T48; simp [List.getD, h]
theorem nx (s : Nat) (h : s ≤ 10000000) : wrap64 ((s : Int) + 1) = ((s + 1 : Nat) : Int) := by rw [w64 (by omega) (by omega)]; omega
def tb (m : Nat) (k : Int) : Bool := decide (0 ≤ k) && decide (k < 10) && m.testBit k.toNat
theorem shl_eq : ∀ i, i < 10 → shl .i64 1 ((i : Nat) : Int) = ((2 ^ i : Nat) : Int) := by decide +kernel
theorem wr10 (n : Int) (h0 : 0 ≤ n) (h1 : n < 2 ^ 10) : IntKind.i64.wrap n = n := by rw [IntKind.wrap_i64]; omega
theorem and_eq (a b : Nat) (ha : a < 1024) (hb : b < 1024) : Go.bits .and .i64 (a : Int) (b : Int) = ((a &&& b : Nat) : Int) := (bits_nat .i64 10 (by decide) wr10 a b ha hb).1
theorem or_eq (a b : Nat) (ha : a < 1024) (hb : b < 1024) : Go.bits .or .i64 (a : Int) (b : Int) = ((a ||| b : Nat) : Int) := (bits_nat .i64 10 (by decide) wr10 a b ha hb).2
theorem pow_lt (i : Nat) (h : i < 10) : 2 ^ i < 1024 := by
  have : 2 ^ i < 2 ^ 10 := Nat.pow_lt_pow_right (by decide) h
  omega
theorem shr_eq (m i : Nat) (hi : i < 10) : shr .i64 (m : Int) (i : Int) = ((m / 2 ^ i : Nat) : Int) := by
  unfold shr
  have e : min ((i : Int)).toNat IntKind.i64.bits = i := by
    have : IntKind.i64.bits = 64 := by decide
    rw [this]; omega
  rw [e]; simp
theorem has_ref (m : Nat) (hm : m < 1024) (k : Int) : trustquorumref01_Has.f (m : Int) k = some (tb m k) := by
  unfold trustquorumref01_Has.f trustquorumref01_Valid.f tb
  rw [if_pos (by omega), decide_eq_true (show (m : Int) ≤ 1023 by omega)]
  simp only [Option.bind_some, if_true]
  by_cases h0 : k ≥ 0
  · rw [if_pos h0]
    by_cases h1 : k < 10
    · obtain ⟨i, rfl⟩ := Int.eq_ofNat_of_zero_le h0
      have hd : m / 2 ^ i < 1024 := Nat.lt_of_le_of_lt (Nat.div_le_self _ _) hm
      have a1 := and_eq (m / 2 ^ i) 1 hd (by omega)
      rw [if_pos h1, if_pos h0, shr_eq m i (by omega)]
      rw [show ((1 : Nat) : Int) = 1 from rfl] at a1
      rw [a1, decide_eq_true (show 0 ≤ (i : Int) by omega), decide_eq_true h1, Int.toNat_natCast, Nat.and_one_is_mod, Nat.testBit_eq_decide_div_mod_eq]
      congr 1
      simp only [Bool.true_and]
      by_cases h : m / 2 ^ i % 2 = 1
      · rw [h]; rfl
      · rw [decide_eq_false h, beq_eq_false_iff_ne]; omega
    · rw [if_neg h1, decide_eq_false h1]; simp
  · rw [if_neg h0, decide_eq_false (show ¬ 0 ≤ k by omega)]; simp

theorem shl10 : shl .i64 1 10 = 1024 := by decide +kernel
theorem nsValid_eq (a : Int) : nodeset_Valid.f a = some (decide (0 ≤ a ∧ a < 1024)) := by
  unfold nodeset_Valid.f nodeset_below.f
  rw [shl10]
  by_cases h : a ≥ 0
  · rw [if_pos h, if_pos (by omega)]
    simp only [Option.bind_some]
    congr 1; rw [decide_eq_decide]; omega
  · rw [if_neg h]
    simp only [Option.bind_some]
    congr 1; rw [eq_comm, decide_eq_false_iff_not]; omega
theorem and_pow (m i : Nat) : (((m &&& 2 ^ i : Nat) : Int) != 0) = m.testBit i := by
  cases h : m.testBit i
  · have e : m &&& 2 ^ i = 0 := by
      apply Nat.eq_of_testBit_eq
      intro j
      rw [Nat.testBit_and, Nat.testBit_two_pow, Nat.zero_testBit]
      by_cases hj : i = j
      · subst hj; rw [h]; rfl
      · rw [decide_eq_false hj, Bool.and_false]
    rw [e]; rfl
  · rw [bne_iff_ne]
    intro e
    have e2 : m &&& 2 ^ i = 0 := by omega
    have h2 := congrArg (fun x : Nat => x.testBit i) e2
    simp only [Nat.testBit_and, Nat.testBit_two_pow, Nat.zero_testBit, h, decide_true, Bool.and_true] at h2
    cases h2
theorem has_eq (m : Nat) (hm : m < 1024) (k : Int) : nodeset_Has.f (m : Int) k = some (tb m k) := by
  unfold nodeset_Has.f tb
  rw [nsValid_eq, decide_eq_true (show 0 ≤ (m : Int) ∧ (m : Int) < 1024 by omega)]
  simp only [Option.bind_some, if_true]
  by_cases h0 : k ≥ 0
  · rw [if_pos h0]
    by_cases h1 : k < 10
    · obtain ⟨i, rfl⟩ := Int.eq_ofNat_of_zero_le h0
      rw [if_pos h1, if_pos h0, shl_eq i (by omega), and_eq m (2 ^ i) hm (pow_lt i (by omega)), decide_eq_true (show 0 ≤ (i : Int) by omega), decide_eq_true h1, Int.toNat_natCast, and_pow]
      rfl
    · rw [if_neg h1, decide_eq_false h1]; simp
  · rw [if_neg h0, decide_eq_false (show ¬ 0 ≤ k by omega)]; simp

mutual
def fuT : S48 → Nat
  | ⟨_, ns, inn⟩ => 10 + 3 * ns.length + fuL inn
def fuL : List S48 → Nat
  | [] => 0
  | t :: l => 3 + fuT t + fuL l
end
theorem fuT_eq (t : S48) : fuT t = 10 + 3 * t.f1.length + fuL t.f2 := by cases t; rw [fuT]
theorem fuL_drop (l : List S48) (s : Nat) (h : s < l.length) : fuL (l.drop s) = 3 + fuT (l[s]'h) + fuL (l.drop (s + 1)) := by rw [List.drop_eq_getElem_cons h, fuL]
theorem fuL_len : ∀ l : List S48, l.length ≤ fuL l
  | [] => Nat.le_refl _
  | t :: l => by have := fuL_len l; rw [fuL, List.length_cons]; omega
theorem fuL_le (l : List S48) (s : Nat) : fuL (l.drop s) ≤ fuL l := by
  induction l generalizing s with
  | nil => rw [List.drop_nil]; exact Nat.le_refl _
  | cons t l ih =>
    cases s with
    | zero => exact Nat.le_refl _
    | succ s => rw [List.drop_succ_cons, fuL]; have := ih s; omega
mutual
def depT : S48 → Int
  | ⟨_, _, inn⟩ => depL inn 0 + 1
def depL : List S48 → Int → Int
  | [], c => c
  | t :: l, c => depL l (mx c (depT t))
end
mutual
def sizT : S48 → Int
  | ⟨_, ns, inn⟩ => sizL inn ((ns.length : Int) + (inn.length : Int))
def sizL : List S48 → Int → Int
  | [], c => c
  | t :: l, c => sizL l (c + sizT t)
end
def ofR : List Int → Nat → Int × Int
  | [], m => ((m : Int), 0)
  | k :: l, m => if k < 0 ∨ 10 ≤ k then (0, 5) else if tb m k = true then (0, 6) else ofR l (m ||| 2 ^ k.toNat)
def outR (ns : List Int) : Bool := ns.any fun k => decide (k < 0 ∨ 10 ≤ k)
mutual
def chkT : S48 → Int
  | ⟨th, ns, inn⟩ => if th < 1 ∨ th > (ns.length : Int) + (inn.length : Int) then 4 else if outR ns = true then 5 else if (ofR ns 0).2 = 0 then chkL inn else (ofR ns 0).2
def chkL : List S48 → Int
  | [] => 0
  | t :: l => if chkT t = 0 then chkL l else chkT t
end
def valT (t : S48) : Int := if depT t > 4 then 3 else if sizT t > 200 then 3 else chkT t
theorem dep_bd (N : Nat) : ∀ t : S48, fuT t ≤ N → 0 ≤ depT t ∧ depT t ≤ fuT t := by
  induction N with
  | zero => intro t h; rw [fuT_eq] at h; omega
  | succ N ih =>
    intro t h
    have key : ∀ (l : List S48) (c : Int), fuL l ≤ N → 0 ≤ c → 0 ≤ depL l c ∧ depL l c ≤ c + fuL l := by
      intro l
      induction l with
      | nil => intro c _ hc; rw [depL, fuL]; omega
      | cons x l ihl =>
        intro c hf hc
        rw [fuL] at hf
        obtain ⟨a, b⟩ := ih x (by omega)
        have hm : 0 ≤ mx c (depT x) ∧ mx c (depT x) ≤ c + fuT x := by unfold mx; split <;> omega
        obtain ⟨a', b'⟩ := ihl (mx c (depT x)) (by omega) hm.1
        rw [depL, fuL]; omega
    obtain ⟨th, ns, inn⟩ := t
    rw [fuT] at h ⊢
    have := key inn 0 (by omega) (by omega)
    rw [depT]; omega
theorem siz_bd (N : Nat) : ∀ t : S48, fuT t ≤ N → 0 ≤ sizT t ∧ sizT t ≤ 2 * fuT t := by
  induction N with
  | zero => intro t h; rw [fuT_eq] at h; omega
  | succ N ih =>
    intro t h
    have key : ∀ (l : List S48) (c : Int), fuL l ≤ N → 0 ≤ c → 0 ≤ sizL l c ∧ sizL l c ≤ c + 2 * fuL l - l.length := by
      intro l
      induction l with
      | nil => intro c _ hc; rw [sizL, fuL]; simp only [List.length_nil]; omega
      | cons x l ihl =>
        intro c hf hc
        rw [fuL] at hf
        obtain ⟨a, b⟩ := ih x (by omega)
        obtain ⟨a', b'⟩ := ihl (c + sizT x) (by omega) (by omega)
        rw [sizL, fuL, List.length_cons]; omega
    obtain ⟨th, ns, inn⟩ := t
    rw [fuT] at h ⊢
    have := key inn (ns.length + inn.length) (by omega) (by omega)
    rw [sizT]; omega

theorem trustquorumref02_Size_eq (N : Nat) : ∀ (t : S48) (k : Nat), fuT t ≤ N → fuT t ≤ 1000000 → fuT t ≤ k → trustquorumref02_Size.f k t.f0 t.f1 t.f2 = some (sizT t) := by
  induction N with
  | zero => intro t k h; rw [fuT_eq] at h; omega
  | succ N ih =>
    intro t k h hb hk
    obtain ⟨th, ns, inn⟩ := t
    rw [fuT] at h hb hk
    have hl := fuL_len inn
    have key : ∀ (r s : Nat) (c : Int) (k : Nat), s + r = inn.length → fuL (inn.drop s) + 2 ≤ k → 0 ≤ c → c + 2 * fuL (inn.drop s) ≤ 10000000 → trustquorumref02_Size.l0 k c inn (inn.length : Int) (s : Int) = some (sizL (inn.drop s) c) := by
      intro r
      induction r with
      | zero =>
        intro s c k h1 hk _ _
        obtain ⟨k, rfl⟩ : ∃ m, k = m + 1 := ⟨k - 1, by omega⟩
        rw [trustquorumref02_Size.l0, if_neg (by omega), List.drop_of_length_le (by omega), sizL]
      | succ r ihr =>
        intro s c k h1 hk hc0 hc1
        obtain ⟨k, rfl⟩ : ∃ m, k = m + 1 := ⟨k - 1, by omega⟩
        have hs : s < inn.length := by omega
        have hd := fuL_drop inn s hs
        have hle := fuL_le inn s
        have hb2 := siz_bd _ inn[s] (Nat.le_refl _)
        rw [trustquorumref02_Size.l0, if_pos (by omega), if_pos (by omega), if_pos (by omega), rdS_at inn s hs, ih inn[s] k (by omega) (by omega) (by omega)]
        simp only [Option.bind_some]
        rw [w64 (x := c + sizT inn[s]) (by omega) (by omega), nx s (by omega), ihr (s + 1) (c + sizT inn[s]) k (by omega) (by omega) (by omega) (by omega), List.drop_eq_getElem_cons hs, sizL]
    obtain ⟨k, rfl⟩ : ∃ m, k = m + 1 := ⟨k - 1, by omega⟩
    show trustquorumref02_Size.f (k + 1) th ns inn = _
    rw [trustquorumref02_Size.f, w64 (by omega) (by omega), sizT]
    exact key inn.length 0 _ k (by omega) (by rw [List.drop_zero]; omega) (by omega) (by rw [List.drop_zero]; omega)

theorem trustquorumref02_Depth_eq (N : Nat) : ∀ (t : S48) (k : Nat), fuT t ≤ N → fuT t ≤ 1000000 → fuT t ≤ k → trustquorumref02_Depth.f k t.f0 t.f1 t.f2 = some (depT t) := by
  induction N with
  | zero => intro t k h; rw [fuT_eq] at h; omega
  | succ N ih =>
    intro t k h hb hk
    obtain ⟨th, ns, inn⟩ := t
    rw [fuT] at h hb hk
    have hl := fuL_len inn
    have key : ∀ (r s : Nat) (c : Int) (k : Nat), s + r = inn.length → fuL (inn.drop s) + 2 ≤ k → 0 ≤ c → c + fuL (inn.drop s) ≤ 10000000 → trustquorumref02_Depth.l0 k c inn (inn.length : Int) (s : Int) = some (depL (inn.drop s) c + 1) := by
      intro r
      induction r with
      | zero =>
        intro s c k h1 hk hc0 hc1
        obtain ⟨k, rfl⟩ : ∃ m, k = m + 1 := ⟨k - 1, by omega⟩
        rw [trustquorumref02_Depth.l0, if_neg (by omega), List.drop_of_length_le (by omega), depL, w64 (by omega) (by omega)]
      | succ r ihr =>
        intro s c k h1 hk hc0 hc1
        obtain ⟨k, rfl⟩ : ∃ m, k = m + 1 := ⟨k - 1, by omega⟩
        have hs : s < inn.length := by omega
        have hd := fuL_drop inn s hs
        have hle := fuL_le inn s
        have hb2 := dep_bd _ inn[s] (Nat.le_refl _)
        have hm : 0 ≤ mx c (depT inn[s]) ∧ mx c (depT inn[s]) ≤ c + fuT inn[s] := by unfold mx; split <;> omega
        rw [trustquorumref02_Depth.l0, if_pos (by omega), if_pos (by omega), if_pos (by omega), rdS_at inn s hs, ih inn[s] k (by omega) (by omega) (by omega)]
        simp only [Option.bind_some]
        rw [nx s (by omega), ihr (s + 1) (mx c (depT inn[s])) k (by omega) (by omega) (by omega) (by omega), List.drop_eq_getElem_cons hs, depL]
    obtain ⟨k, rfl⟩ : ∃ m, k = m + 1 := ⟨k - 1, by omega⟩
    show trustquorumref02_Depth.f (k + 1) th ns inn = _
    rw [trustquorumref02_Depth.f, depT]
    exact key inn.length 0 0 k (by omega) (by rw [List.drop_zero]; omega) (by omega) (by rw [List.drop_zero]; omega)

theorem trustquorumref01_Of_loop (l : List Int) (hl : l.length ≤ 1000000) (r : Nat) : ∀ (s m k : Nat), s + r = l.length → m < 1024 → 2 * r + 2 ≤ k → trustquorumref01_Of.l0 k (m : Int) l (l.length : Int) (s : Int) = some (ofR (l.drop s) m) := by
  induction r with
  | zero =>
    intro s m k h1 hm hk
    obtain ⟨k, rfl⟩ : ∃ q, k = q + 1 := ⟨k - 1, by omega⟩
    rw [trustquorumref01_Of.l0, if_neg (by omega), List.drop_of_length_le (by omega), ofR]
  | succ r ih =>
    intro s m k h1 hm hk
    obtain ⟨k, rfl⟩ : ∃ q, k = q + 2 := ⟨k - 2, by omega⟩
    have hs : s < l.length := by omega
    show trustquorumref01_Of.l0 ((k + 1) + 1) _ _ _ _ = _
    rw [trustquorumref01_Of.l0, if_pos (by omega), if_pos (by omega), if_pos (by omega), rd_at l s hs, List.drop_eq_getElem_cons hs, ofR]
    generalize l[s] = x
    by_cases h0 : x < 0
    · rw [if_pos h0, trustquorumref01_Of.j1, if_pos rfl, if_pos (.inl h0)]
    · rw [if_neg h0, trustquorumref01_Of.j1]
      by_cases h2 : x ≥ 10
      · rw [if_pos (decide_eq_true h2), if_pos (.inr h2)]
      · rw [if_neg (by rw [decide_eq_true_eq]; exact h2), if_neg (show ¬ (x < 0 ∨ 10 ≤ x) by omega), has_ref m hm x]
        simp only [Option.bind_some]
        cases ht : tb m x
        · simp only [Bool.false_eq_true, if_false]
          obtain ⟨i, rfl⟩ := Int.eq_ofNat_of_zero_le (show 0 ≤ x by omega)
          have hp := pow_lt i (by omega)
          rw [if_pos (show 0 ≤ (i : Int) by omega), shl_eq i (by omega), or_eq m (2 ^ i) hm hp, nx s (by omega), Int.toNat_natCast]
          exact ih (s + 1) (m ||| 2 ^ i) k (by omega) (Nat.or_lt_two_pow (n := 10) hm hp) (by omega)
        · simp only [if_true]
theorem trustquorumref01_Of_eq (l : List Int) (hl : l.length ≤ 1000000) {k : Nat} (hk : 2 * l.length + 2 ≤ k) : trustquorumref01_Of.f k l = some (ofR l 0) := by
  unfold trustquorumref01_Of.f
  exact trustquorumref01_Of_loop l hl l.length 0 0 k (by omega) (by omega) hk

theorem check_eq (N : Nat) : ∀ (t : S48) (k : Nat), fuT t ≤ N → fuT t ≤ 1000000 → fuT t ≤ k → trustquorumref02_check.f k t.f0 t.f1 t.f2 = some (chkT t) := by
  induction N with
  | zero => intro t k h; rw [fuT_eq] at h; omega
  | succ N ih =>
    intro t k h hb hk
    obtain ⟨th, ns, inn⟩ := t
    rw [fuT] at h hb hk
    have hl := fuL_len inn
    have key : ∀ (r s : Nat) (k : Nat), s + r = inn.length → fuL (inn.drop s) + 2 ≤ k → trustquorumref02_check.l1 k inn (inn.length : Int) (s : Int) = some (chkL (inn.drop s)) := by
      intro r
      induction r with
      | zero =>
        intro s k h1 hk
        obtain ⟨k, rfl⟩ : ∃ m, k = m + 1 := ⟨k - 1, by omega⟩
        rw [trustquorumref02_check.l1, if_neg (by omega), List.drop_of_length_le (by omega), chkL]
      | succ r ihr =>
        intro s k h1 hk
        obtain ⟨k, rfl⟩ : ∃ m, k = m + 1 := ⟨k - 1, by omega⟩
        have hs : s < inn.length := by omega
        have hd := fuL_drop inn s hs
        have hle := fuL_le inn s
        rw [trustquorumref02_check.l1, if_pos (by omega), if_pos (by omega), if_pos (by omega), rdS_at inn s hs, ih inn[s] k (by omega) (by omega) (by omega)]
        simp only [Option.bind_some]
        rw [nx s (by omega), List.drop_eq_getElem_cons hs, chkL]
        by_cases hc : chkT inn[s] = 0
        · rw [if_pos hc, if_pos hc]; exact ihr (s + 1) k (by omega) (by omega)
        · rw [if_neg hc, if_neg hc]
    have nodes : ∀ (r s : Nat) (k : Nat), s + r = ns.length → r + 2 * ns.length + fuL inn + 5 ≤ k → trustquorumref02_check.l0 k ns (ns.length : Int) (s : Int) th ns inn = some (if outR (ns.drop s) = true then 5 else if (ofR ns 0).2 = 0 then chkL inn else (ofR ns 0).2) := by
      intro r
      induction r with
      | zero =>
        intro s k h1 hk
        obtain ⟨k, rfl⟩ : ∃ m, k = m + 1 := ⟨k - 1, by omega⟩
        rw [trustquorumref02_check.l0, if_neg (by omega), List.drop_of_length_le (by omega), trustquorumref01_Of_eq ns (by omega) (by omega)]
        simp only [Option.bind_some]
        rw [if_neg (show ¬ (outR [] = true) by decide)]
        by_cases he : (ofR ns 0).2 = 0
        · rw [if_pos he, if_pos he]; exact key inn.length 0 k (by omega) (by rw [List.drop_zero]; omega)
        · rw [if_neg he, if_neg he]
      | succ r ihr =>
        intro s k h1 hk
        obtain ⟨k, rfl⟩ : ∃ m, k = m + 1 := ⟨k - 1, by omega⟩
        have hs : s < ns.length := by omega
        have ho : outR (ns.drop s) = (decide (ns[s] < 0 ∨ 10 ≤ ns[s]) || outR (ns.drop (s + 1))) := by rw [List.drop_eq_getElem_cons hs]; unfold outR; rw [List.any_cons]
        rw [trustquorumref02_check.l0, if_pos (by omega), if_pos (by omega), if_pos (by omega), rd_at ns s hs, nx s (by omega), ho]
        by_cases h0 : ns[s] < 0
        · rw [if_pos h0, decide_eq_true (.inl h0), Bool.true_or, if_pos rfl]
        · rw [if_neg h0]
          by_cases h2 : ns[s] ≥ 10
          · rw [if_pos h2, decide_eq_true (.inr h2), Bool.true_or, if_pos rfl]
          · rw [if_neg h2, decide_eq_false (by omega), Bool.false_or]
            exact ihr (s + 1) k (by omega) (by omega)
    obtain ⟨k, rfl⟩ : ∃ m, k = m + 2 := ⟨k - 2, by omega⟩
    show trustquorumref02_check.f ((k + 1) + 1) th ns inn = _
    rw [trustquorumref02_check.f, w64 (by omega) (by omega), chkT]
    by_cases h0 : th < 1
    · rw [if_pos h0, trustquorumref02_check.j0, if_pos rfl, if_pos (.inl h0)]
    · rw [if_neg h0, trustquorumref02_check.j0]
      by_cases h1 : th > (ns.length : Int) + (inn.length : Int)
      · rw [if_pos (decide_eq_true h1), if_pos (.inr h1)]
      · rw [if_neg (by rw [decide_eq_true_eq]; exact h1), if_neg (by omega)]
        exact nodes ns.length 0 k (by omega) (by omega)
theorem refValid_eq (t : S48) {k : Nat} (hb : fuT t ≤ 1000000) (hk : fuT t ≤ k) : trustquorumref02_Valid.f k t.f0 t.f1 t.f2 = some (valT t) := by
  unfold trustquorumref02_Valid.f valT
  rw [trustquorumref02_Depth_eq _ t k (Nat.le_refl _) hb hk, trustquorumref02_Size_eq _ t k (Nat.le_refl _) hb hk, check_eq _ t k (Nat.le_refl _) hb hk]
  simp only [Option.bind_some]
  split
  · rfl
  · split <;> rfl

theorem order_swap {L : List Int} (r : Nat) : ∀ (l : List Int) (p : Int) (k : Nat), St L p → r < l.length → l.length ≤ 100 → r + 2 ≤ k → ∃ l' p', trustquorummake_Tape_Order.l1 k l (r : Int) L p = some (l', p') ∧ l'.length = l.length ∧ St L p' := by
  induction r with
  | zero =>
    intro l p k hs hr hl hk
    obtain ⟨k, rfl⟩ : ∃ m, k = m + 1 := ⟨k - 1, by omega⟩
    exact ⟨l, p, by rw [trustquorummake_Tape_Order.l1, if_neg (by omega)], rfl, hs⟩
  | succ r ih =>
    intro l p k hs hr hl hk
    obtain ⟨k, rfl⟩ : ∃ m, k = m + 1 := ⟨k - 1, by omega⟩
    obtain ⟨q, p', hq, q0, q1, hs'⟩ := N_eq (n := ((r + 1 : Nat) : Int) + 1) hs (by omega) (by omega)
    obtain ⟨l', p'', h1, h2, h3⟩ := ih ((l.set ((r + 1 : Nat) : Int).toNat (rd l q)).set q.toNat (rd l ((r + 1 : Nat) : Int))) p' k hs' (by simp; omega) (by simp; omega) (by omega)
    refine ⟨l', p'', ?_, by rw [h2]; simp, h3⟩
    rw [trustquorummake_Tape_Order.l1, if_pos (by omega), w64 (x := ((r + 1 : Nat) : Int) + 1) (by omega) (by omega), hq]
    simp only [Option.bind_some]
    rw [if_pos q0, if_pos (by omega), if_pos (by omega), if_pos (by omega), w64 (x := ((r + 1 : Nat) : Int) - 1) (by omega) (by omega), show ((r + 1 : Nat) : Int) - 1 = (r : Int) by omega]
    exact h1
theorem order_fill {L : List Int} {n : Nat} (hn : 1 ≤ n) (hn2 : n ≤ 100) (r : Nat) : ∀ (l : List Int) (p : Int) (k : Nat), St L p → l.length + r = n → r + n + 5 ≤ k → ∃ l' p', trustquorummake_Tape_Order.l0 k (n : Int) l (l.length : Int) L p = some (l', p') ∧ l'.length = n ∧ St L p' := by
  induction r with
  | zero =>
    intro l p k hs hl hk
    obtain ⟨k, rfl⟩ : ∃ m, k = m + 1 := ⟨k - 1, by omega⟩
    obtain ⟨l', p', h1, h2, h3⟩ := order_swap (n - 1) l p k hs (by omega) (by omega) (by omega)
    refine ⟨l', p', ?_, by omega, h3⟩
    rw [trustquorummake_Tape_Order.l0, if_neg (by omega), w64 (x := (n : Int) - 1) (by omega) (by omega), show (n : Int) - 1 = ((n - 1 : Nat) : Int) by omega]
    exact h1
  | succ r ih =>
    intro l p k hs hl hk
    obtain ⟨k, rfl⟩ : ∃ m, k = m + 1 := ⟨k - 1, by omega⟩
    obtain ⟨l', p', h1, h2, h3⟩ := ih (l ++ [(l.length : Int)]) p k hs (by rw [List.length_append]; simp only [List.length_cons, List.length_nil]; omega) (by omega)
    refine ⟨l', p', ?_, h2, h3⟩
    rw [trustquorummake_Tape_Order.l0, if_pos (by omega), if_pos (by omega), nx l.length (by omega)]
    rw [List.length_append] at h1
    exact h1
theorem order_eq {L : List Int} {p : Int} {n : Nat} (h : St L p) (hn : 1 ≤ n) (hn2 : n ≤ 100) {k : Nat} (hk : 2 * n + 10 ≤ k) : ∃ l p', trustquorummake_Tape_Order.f k L p (n : Int) = some (l, p') ∧ l.length = n ∧ St L p' := by
  unfold trustquorummake_Tape_Order.f
  exact order_fill hn hn2 n [] p k h (by simp) (by omega)
theorem pick6 {L : List Int} {p : Int} (h : St L p) : ∃ c p', trustquorummake_Tape_Pick.f L p ([0, 0, 1, 1, 2, 3] : List Int) = some (c, p') ∧ 0 ≤ c ∧ c ≤ 3 ∧ St L p' := by
  obtain ⟨r, p', hr, h0, h1, hs⟩ := N_eq (n := 6) h (by omega) (by omega)
  have l6 : ((([0, 0, 1, 1, 2, 3] : List Int).length : Nat) : Int) = 6 := rfl
  unfold trustquorummake_Tape_Pick.f
  rw [l6, hr]
  simp only [Option.bind_some]
  rw [if_pos h0, if_pos h1]
  refine ⟨_, _, rfl, ?_, ?_, hs⟩
  all_goals
    have : r = 0 ∨ r = 1 ∨ r = 2 ∨ r = 3 ∨ r = 4 ∨ r = 5 := by omega
    rcases this with rfl | rfl | rfl | rfl | rfl | rfl <;> decide
def fd : Nat → Nat
  | 0 => 40
  | d + 1 => 40 + 3 * (3 + fd d)
theorem fd_ge (d : Nat) : 40 ≤ fd d := by cases d <;> simp only [fd] <;> omega
theorem copy_nodes {L : List Int} (n deep : Int) (ns : List Int) (hns : ns.length ≤ 5) (Q : Option (Int × List Int × List S48 × Int)) (p : Int) (K : Nat)
    (hQ : ∀ k, K ≤ k → trustquorummake_trust.l0 k n deep ns (ns.length : Int) (ns.length : Int) L p 0 ns = Q) (r : Nat) :
    ∀ (s k : Nat), s + r = ns.length → K + r ≤ k → trustquorummake_trust.l0 k n deep ns (ns.length : Int) (s : Int) L p 0 (ns.take s) = Q := by
  induction r with
  | zero =>
    intro s k h1 hk
    rw [show s = ns.length by omega, List.take_length]
    exact hQ k (by omega)
  | succ r ih =>
    intro s k h1 hk
    obtain ⟨k, rfl⟩ : ∃ m, k = m + 1 := ⟨k - 1, by omega⟩
    have hs : s < ns.length := by omega
    rw [trustquorummake_trust.l0, if_pos (by omega), if_pos (by omega), if_pos (by omega), if_pos (by rw [List.length_take]; omega), rd_at ns s hs, nx s (by omega), show ns.take s ++ [ns[s]] = ns.take (s + 1) by rw [List.take_succ_eq_append_getElem hs]]
    exact ih (s + 1) k (by omega) (by omega)
theorem trust_eq {L : List Int} {n : Nat} (hn : 1 ≤ n) (hn2 : n ≤ 10) (d : Nat) : (d : Int) ≤ 1000 → ∀ (p : Int) (k : Nat), St L p → fd d + 40 ≤ k → ∃ th ns inn p', trustquorummake_trust.f k L p (n : Int) (d : Int) = some (th, ns, inn, p') ∧ fuT ⟨th, ns, inn⟩ ≤ fd d ∧ St L p' := by
  induction d with
  | zero =>
    intro _ p k hs hk
    rw [fd] at hk
    obtain ⟨k, rfl⟩ : ∃ m, k = m + 1 := ⟨k - 1, by omega⟩
    obtain ⟨l, p1, h1, hl, s1⟩ := order_eq (n := n) hs hn (by omega) (k := k) (by omega)
    have hm : 1 ≤ mn (n : Int) 5 ∧ mn (n : Int) 5 ≤ 5 ∧ mn (n : Int) 5 ≤ n := by unfold mn; split <;> omega
    obtain ⟨r, p2, h2, r0, r1, s2⟩ := Range_eq (a := 1) (b := mn (n : Int) 5) s1 (by omega) (by omega) (by omega)
    obtain ⟨q, rfl⟩ := Int.eq_ofNat_of_zero_le (show 0 ≤ r by omega)
    have hlen : (l.take q).length = q := by rw [List.length_take]; omega
    obtain ⟨th, p3, h3, t0, t1, s3⟩ := Range_eq (a := 1) (b := ((l.take q).length : Int)) s2 (by omega) (by omega) (by omega)
    refine ⟨th, l.take q, [], p3, ?_, by rw [fuT, fuL, fd]; omega, s3⟩
    rw [trustquorummake_trust.f, h1]
    simp only [Option.bind_some]
    rw [h2]
    simp only [Option.bind_some]
    rw [if_pos (by omega), if_pos (by omega), Int.toNat_natCast]
    refine copy_nodes (n : Int) ((0 : Nat) : Int) (l.take q) (by omega) _ p2 1 (fun k hk => ?_) (l.take q).length 0 k (by omega) (by omega)
    obtain ⟨k, rfl⟩ : ∃ m, k = m + 1 := ⟨k - 1, by omega⟩
    rw [trustquorummake_trust.l0, if_neg (by omega), if_neg (by omega), w64 (x := ((l.take q).length : Int)) (by omega) (by omega), h3]
    rfl
  | succ d ih =>
    intro hdd0 p k hs hk
    have hdd : (d : Int) ≤ 1000 := by omega
    have ih := ih hdd
    have hfd := fd_ge d
    rw [fd] at hk
    obtain ⟨k, rfl⟩ : ∃ m, k = m + 1 := ⟨k - 1, by omega⟩
    obtain ⟨l, p1, h1, hl, s1⟩ := order_eq (n := n) hs hn (by omega) (k := k) (by omega)
    have hm : 1 ≤ mn (n : Int) 5 ∧ mn (n : Int) 5 ≤ 5 ∧ mn (n : Int) 5 ≤ n := by unfold mn; split <;> omega
    obtain ⟨r, p2, h2, r0, r1, s2⟩ := Range_eq (a := 1) (b := mn (n : Int) 5) s1 (by omega) (by omega) (by omega)
    obtain ⟨q, rfl⟩ := Int.eq_ofNat_of_zero_le (show 0 ≤ r by omega)
    have hlen : (l.take q).length = q := by rw [List.length_take]; omega
    have inner : ∀ (c : Nat) (inn : List S48) (p : Int) (k : Nat), St L p → inn.length + c ≤ 3 → fuL inn ≤ inn.length * (3 + fd d) → fd d + 40 + c + 3 ≤ k → 1 < ((d + 1 : Nat) : Int) → ∃ th ns inn' p', trustquorummake_trust.l1 k (n : Int) ((d + 1 : Nat) : Int) (c : Int) L p 0 (l.take q) inn = some (th, ns, inn', p') ∧ fuT ⟨th, ns, inn'⟩ ≤ fd (d + 1) ∧ St L p' := by
      intro c
      induction c with
      | zero =>
        intro inn p k hs hc hf hk hd
        obtain ⟨k, rfl⟩ : ∃ m, k = m + 1 := ⟨k - 1, by omega⟩
        have hmul : inn.length * (3 + fd d) ≤ 3 * (3 + fd d) := Nat.mul_le_mul_right _ (by omega)
        rw [trustquorummake_trust.l1, if_neg (by omega)]
        by_cases hi : (inn.length : Int) > 0
        · obtain ⟨z, pz, hz, z0, z1, sz⟩ := N_eq (n := 3) hs (by omega) (by omega)
          rw [if_pos hi, hz]
          simp only [Option.bind_some]
          by_cases hz0 : z = 0
          · obtain ⟨th, p3, h3, t0, t1, s3⟩ := Range_eq (a := 1) (b := (inn.length : Int)) sz (by omega) (by omega) (by omega)
            rw [if_pos hz0, w64 (x := (inn.length : Int)) (by omega) (by omega), h3]
            exact ⟨th, [], inn, p3, rfl, by rw [fuT, fd, List.length_nil]; omega, s3⟩
          · obtain ⟨th, p3, h3, t0, t1, s3⟩ := Range_eq (a := 1) (b := ((l.take q).length : Int) + (inn.length : Int)) sz (by omega) (by omega) (by omega)
            rw [if_neg hz0, w64 (x := ((l.take q).length : Int) + (inn.length : Int)) (by omega) (by omega), h3]
            exact ⟨th, _, inn, p3, rfl, by rw [fuT, fd]; omega, s3⟩
        · obtain ⟨th, p3, h3, t0, t1, s3⟩ := Range_eq (a := 1) (b := ((l.take q).length : Int) + (inn.length : Int)) hs (by omega) (by omega) (by omega)
          rw [if_neg hi, w64 (x := ((l.take q).length : Int) + (inn.length : Int)) (by omega) (by omega), h3]
          exact ⟨th, _, inn, p3, rfl, by rw [fuT, fd]; omega, s3⟩
      | succ c ihc =>
        intro inn p k hs hc hf hk hd
        obtain ⟨k, rfl⟩ : ∃ m, k = m + 1 := ⟨k - 1, by omega⟩
        obtain ⟨th, ns, inn', p', ht, hft, st⟩ := ih p k hs (by omega)
        have happ : ∀ (l : List S48) (t : S48), fuL (l ++ [t]) = fuL l + (3 + fuT t) := by
          intro l t
          induction l with
          | nil => rw [List.nil_append, fuL]; simp only [fuL]; omega
          | cons a l ih => rw [List.cons_append, fuL, fuL, ih]; omega
        obtain ⟨th2, ns2, inn2, p2', h2', hf2, st2⟩ := ihc (inn ++ [(⟨th, ns, inn'⟩ : S48)]) p' k st (by rw [List.length_append]; simp only [List.length_cons, List.length_nil]; omega) (by rw [happ, List.length_append]; simp only [List.length_cons, List.length_nil, Nat.zero_add, Nat.add_mul, Nat.one_mul]; omega) (by omega) hd
        refine ⟨th2, ns2, inn2, p2', ?_, hf2, st2⟩
        have hd2 : (d : Int) ≤ 1000 := hdd
        rw [trustquorummake_trust.l1, if_pos (by omega), w64 (x := ((d + 1 : Nat) : Int) - 1) (by omega) (by omega), show ((d + 1 : Nat) : Int) - 1 = (d : Int) by omega, ht]
        simp only [Option.bind_some]
        rw [if_pos (by omega), w64 (x := ((c + 1 : Nat) : Int) - 1) (by omega) (by omega), show ((c + 1 : Nat) : Int) - 1 = (c : Int) by omega]
        exact h2'
    by_cases hd : 1 < ((d + 1 : Nat) : Int)
    · obtain ⟨c, p3, h3, c0, c1, s3⟩ := pick6 s2
      obtain ⟨c, rfl⟩ := Int.eq_ofNat_of_zero_le c0
      obtain ⟨th, ns, inn, p4, h4, hf4, s4⟩ := inner c [] p3 (k - 6) s3 (by simp only [List.length_nil]; omega) (by rw [fuL]; omega) (by omega) hd
      refine ⟨th, ns, inn, p4, ?_, hf4, s4⟩
      rw [trustquorummake_trust.f, h1]
      simp only [Option.bind_some]
      rw [h2]
      simp only [Option.bind_some]
      rw [if_pos (by omega), if_pos (by omega), Int.toNat_natCast]
      refine copy_nodes (n : Int) ((d + 1 : Nat) : Int) (l.take q) (by omega) _ p2 (k - 5) (fun k' hk' => ?_) (l.take q).length 0 k (by omega) (by omega)
      obtain ⟨k', rfl⟩ : ∃ m, k' = m + 1 := ⟨k' - 1, by omega⟩
      rw [trustquorummake_trust.l0, if_neg (by omega), if_pos hd, h3]
      simp only [Option.bind_some]
      exact at_rounds (g := fun k => trustquorummake_trust.l1 k (n : Int) ((d + 1 : Nat) : Int) (c : Int) L p3 0 (l.take q) []) (fun k => (trustquorummake_trust.mono_l k).2.2 _ _ _ _ _ _ _ _) (show k - 6 ≤ k' by omega) h4
    · obtain ⟨th, p3, h3, t0, t1, s3⟩ := Range_eq (a := 1) (b := ((l.take q).length : Int)) s2 (by omega) (by omega) (by omega)
      refine ⟨th, l.take q, [], p3, ?_, by rw [fuT, fuL, fd]; omega, s3⟩
      rw [trustquorummake_trust.f, h1]
      simp only [Option.bind_some]
      rw [h2]
      simp only [Option.bind_some]
      rw [if_pos (by omega), if_pos (by omega), Int.toNat_natCast]
      refine copy_nodes (n : Int) ((d + 1 : Nat) : Int) (l.take q) (by omega) _ p2 1 (fun k hk => ?_) (l.take q).length 0 k (by omega) (by omega)
      obtain ⟨k, rfl⟩ : ∃ m, k = m + 1 := ⟨k - 1, by omega⟩
      rw [trustquorummake_trust.l0, if_neg (by omega), if_neg hd, w64 (x := ((l.take q).length : Int)) (by omega) (by omega), h3]
      rfl
theorem one_ok : ∀ r, r < 10 → chkT (⟨1, [((r : Nat) : Int)], []⟩ : S48) = 0 := by decide +kernel
theorem Trust_eq {L : List Int} {p n : Int} (h : St L p) (hn : 1 ≤ n) (hn2 : n ≤ 10) (d : Nat) (hd : d ≤ 4) {k : Nat} (hk : 6000 ≤ k) : ∃ th ns inn p', trustquorummake_Trust.f k L p n (d : Int) = some (th, ns, inn, p') ∧ fuT ⟨th, ns, inn⟩ ≤ 5800 ∧ chkT ⟨th, ns, inn⟩ = 0 ∧ depT ⟨th, ns, inn⟩ ≤ 4 ∧ sizT ⟨th, ns, inn⟩ ≤ 200 ∧ St L p' := by
  obtain ⟨n, rfl⟩ := Int.eq_ofNat_of_zero_le (show 0 ≤ n by omega)
  have hfd : fd d ≤ 5800 := by
    have : d = 0 ∨ d = 1 ∨ d = 2 ∨ d = 3 ∨ d = 4 := by omega
    rcases this with rfl | rfl | rfl | rfl | rfl <;> decide
  obtain ⟨th, ns, inn, p', h1, hf, hs⟩ := trust_eq (n := n) (by omega) (by omega) d (by omega) p k h (by omega)
  unfold trustquorummake_Trust.f
  rw [h1]
  simp only [Option.bind_some]
  have hv := refValid_eq ⟨th, ns, inn⟩ (k := k) (by omega) (by omega)
  rw [show trustquorumref02_Valid.f k th ns inn = some (valT ⟨th, ns, inn⟩) from hv]
  simp only [Option.bind_some]
  by_cases h0 : valT ⟨th, ns, inn⟩ = 0
  · rw [if_pos h0]
    unfold valT at h0
    by_cases a1 : depT ⟨th, ns, inn⟩ > 4
    · rw [if_pos a1] at h0; cases h0
    · rw [if_neg a1] at h0
      by_cases a2 : sizT ⟨th, ns, inn⟩ > 200
      · rw [if_pos a2] at h0; cases h0
      · rw [if_neg a2] at h0
        exact ⟨th, ns, inn, p', rfl, by omega, h0, by omega, by omega, hs⟩
  · rw [if_neg h0]
    obtain ⟨r, p2, h2, r0, r1, s2⟩ := N_eq (n := (n : Int)) hs (by omega) (by omega)
    rw [h2]
    obtain ⟨q, rfl⟩ := Int.eq_ofNat_of_zero_le r0
    refine ⟨1, [(q : Int)], [], p2, rfl, by rw [fuT, fuL]; simp, one_ok q (by omega), ?_, ?_, s2⟩
    · rw [depT, depL]; omega
    · rw [sizT, sizL]; simp

def cntN : List Int → Nat → Int
  | [], _ => 0
  | k :: l, m => (if tb m k = true then 1 else 0) + cntN l m
mutual
def satT : S48 → Nat → Bool
  | ⟨th, ns, inn⟩, m => decide (th ≤ cntN ns m + satL inn m)
def satL : List S48 → Nat → Int
  | [], _ => 0
  | t :: l, m => (if satT t m = true then 1 else 0) + satL l m
end
theorem sat_eq (m : Nat) (hm : m < 1024) (N : Nat) : ∀ (t : S48) (k : Nat), fuT t ≤ N → fuT t ≤ 1000000 → fuT t ≤ k → threshold_Satisfied.f k t.f0 t.f1 t.f2 (m : Int) = some (satT t m) := by
  induction N with
  | zero => intro t k h; rw [fuT_eq] at h; omega
  | succ N ih =>
    intro t k h hb hk
    obtain ⟨th, ns, inn⟩ := t
    rw [fuT] at h hb hk
    have hl := fuL_len inn
    have key : ∀ (r s : Nat) (c : Int) (k : Nat), s + r = inn.length → fuL (inn.drop s) + 2 ≤ k → 0 ≤ c → c + r ≤ 10000000 → threshold_Satisfied.l1 k (m : Int) c inn (inn.length : Int) (s : Int) th ns inn = some (decide (th ≤ c + satL (inn.drop s) m)) := by
      intro r
      induction r with
      | zero =>
        intro s c k h1 hk _ _
        obtain ⟨k, rfl⟩ : ∃ q, k = q + 1 := ⟨k - 1, by omega⟩
        rw [threshold_Satisfied.l1, if_neg (by omega), List.drop_of_length_le (by omega), satL, Int.add_zero]
      | succ r ihr =>
        intro s c k h1 hk hc0 hc1
        obtain ⟨k, rfl⟩ : ∃ q, k = q + 1 := ⟨k - 1, by omega⟩
        have hs : s < inn.length := by omega
        have hd := fuL_drop inn s hs
        have hle := fuL_le inn s
        rw [threshold_Satisfied.l1, if_pos (by omega), if_pos (by omega), if_pos (by omega), rdS_at inn s hs, ih inn[s] k (by omega) (by omega) (by omega)]
        simp only [Option.bind_some]
        rw [nx s (by omega), List.drop_eq_getElem_cons hs, satL]
        cases hq : satT inn[s] m
        · rw [if_neg (by decide), if_neg (by decide), ihr (s + 1) c k (by omega) (by omega) (by omega) (by omega), Int.zero_add]
        · rw [if_pos rfl, if_pos rfl, w64 (x := c + 1) (by omega) (by omega), ihr (s + 1) (c + 1) k (by omega) (by omega) (by omega) (by omega), Int.add_assoc]
    have nodes : ∀ (r s : Nat) (c : Int) (k : Nat), s + r = ns.length → r + fuL inn + 3 ≤ k → 0 ≤ c → c + r + inn.length ≤ 10000000 → threshold_Satisfied.l0 k (m : Int) c ns (ns.length : Int) (s : Int) th ns inn = some (decide (th ≤ c + cntN (ns.drop s) m + satL inn m)) := by
      intro r
      induction r with
      | zero =>
        intro s c k h1 hk hc0 hc1
        obtain ⟨k, rfl⟩ : ∃ q, k = q + 1 := ⟨k - 1, by omega⟩
        rw [threshold_Satisfied.l0, if_neg (by omega), List.drop_of_length_le (by omega), cntN, Int.add_zero]
        exact key inn.length 0 c k (by omega) (by rw [List.drop_zero]; omega) hc0 (by omega)
      | succ r ihr =>
        intro s c k h1 hk hc0 hc1
        obtain ⟨k, rfl⟩ : ∃ q, k = q + 1 := ⟨k - 1, by omega⟩
        have hs : s < ns.length := by omega
        rw [threshold_Satisfied.l0, if_pos (by omega), if_pos (by omega), if_pos (by omega), rd_at ns s hs, has_eq m hm]
        simp only [Option.bind_some]
        rw [nx s (by omega), List.drop_eq_getElem_cons hs, cntN]
        cases hq : tb m ns[s]
        · rw [if_neg (by decide), if_neg (by decide), ihr (s + 1) c k (by omega) (by omega) (by omega) (by omega), Int.zero_add]
        · rw [if_pos rfl, if_pos rfl, w64 (x := c + 1) (by omega) (by omega), ihr (s + 1) (c + 1) k (by omega) (by omega) (by omega) (by omega), Int.add_assoc c 1]
    obtain ⟨k, rfl⟩ : ∃ q, k = q + 1 := ⟨k - 1, by omega⟩
    show threshold_Satisfied.f (k + 1) th ns inn (m : Int) = _
    rw [threshold_Satisfied.f, nsValid_eq, decide_eq_true (show 0 ≤ (m : Int) ∧ (m : Int) < 1024 by omega)]
    simp only [Option.bind_some, if_true]
    have := nodes ns.length 0 0 k (by omega) (by omega) (by omega) (by omega)
    rw [List.drop_zero, Int.zero_add] at this
    rw [satT]
    exact this
theorem satisfied_eq (t : S48) (m : Nat) (hm : m < 1024) {k : Nat} (hb : fuT t ≤ 1000000) (hk : fuT t ≤ k) : threshold_Satisfied.f k t.f0 t.f1 t.f2 (m : Int) = some (satT t m) := sat_eq m hm _ t k (Nat.le_refl _) hb hk
theorem cntN_mono {a b : Nat} (h : ∀ k, tb a k = true → tb b k = true) : ∀ l : List Int, cntN l a ≤ cntN l b
  | [] => Int.le_refl _
  | k :: l => by
    have := cntN_mono h l
    rw [cntN, cntN]
    by_cases ha : tb a k = true
    · rw [if_pos ha, if_pos (h k ha)]; omega
    · rw [if_neg ha]; split <;> omega
mutual
theorem satT_mono {a b : Nat} (h : ∀ k, tb a k = true → tb b k = true) : ∀ t : S48, satT t a = true → satT t b = true
  | ⟨th, ns, inn⟩, hs => by
    rw [satT, decide_eq_true_eq] at hs ⊢
    have h1 := cntN_mono h ns
    have h2 := satL_mono h inn
    omega
theorem satL_mono {a b : Nat} (h : ∀ k, tb a k = true → tb b k = true) : ∀ l : List S48, satL l a ≤ satL l b
  | [] => Int.le_refl _
  | t :: l => by
    have h1 := satL_mono h l
    have h2 := satT_mono h t
    rw [satL, satL]
    by_cases ha : satT t a = true
    · rw [if_pos ha, if_pos (h2 ha)]; omega
    · rw [if_neg ha]; split <;> omega
end
theorem tb_range {m : Nat} {k : Int} (h : tb m k = true) : 0 ≤ k ∧ k < 10 := by
  unfold tb at h
  simp only [Bool.and_eq_true, decide_eq_true_eq] at h
  exact h.1
theorem rvalid_eq (a : Int) : trustquorumref01_Valid.f a = some (decide (0 ≤ a ∧ a < 1024)) := by
  unfold trustquorumref01_Valid.f
  by_cases h : a ≥ 0
  · rw [if_pos h]; congr 1; rw [decide_eq_decide]; omega
  · rw [if_neg h, decide_eq_false (by omega)]
theorem rsat_eq (m : Nat) (hm : m < 1024) (N : Nat) : ∀ (t : S48) (k : Nat), fuT t ≤ N → fuT t ≤ 1000000 → fuT t ≤ k → trustquorumref02_Satisfied.f k t.f0 t.f1 t.f2 (m : Int) = some (satT t m) := by
  induction N with
  | zero => intro t k h; rw [fuT_eq] at h; omega
  | succ N ih =>
    intro t k h hb hk
    obtain ⟨th, ns, inn⟩ := t
    rw [fuT] at h hb hk
    have hl := fuL_len inn
    have key : ∀ (r s : Nat) (c : Int) (k : Nat), s + r = inn.length → fuL (inn.drop s) + 2 ≤ k → 0 ≤ c → c + r ≤ 10000000 → trustquorumref02_Satisfied.l1 k (m : Int) c inn (inn.length : Int) (s : Int) th ns inn = some (decide (th ≤ c + satL (inn.drop s) m)) := by
      intro r
      induction r with
      | zero =>
        intro s c k h1 hk _ _
        obtain ⟨k, rfl⟩ : ∃ q, k = q + 1 := ⟨k - 1, by omega⟩
        rw [trustquorumref02_Satisfied.l1, if_neg (by omega), List.drop_of_length_le (by omega), satL, Int.add_zero]
      | succ r ihr =>
        intro s c k h1 hk hc0 hc1
        obtain ⟨k, rfl⟩ : ∃ q, k = q + 1 := ⟨k - 1, by omega⟩
        have hs : s < inn.length := by omega
        have hd := fuL_drop inn s hs
        have hle := fuL_le inn s
        rw [trustquorumref02_Satisfied.l1, if_pos (by omega), if_pos (by omega), if_pos (by omega), rdS_at inn s hs, ih inn[s] k (by omega) (by omega) (by omega)]
        simp only [Option.bind_some]
        rw [nx s (by omega), List.drop_eq_getElem_cons hs, satL]
        cases hq : satT inn[s] m
        · rw [if_neg (by decide), if_neg (by decide), ihr (s + 1) c k (by omega) (by omega) (by omega) (by omega), Int.zero_add]
        · rw [if_pos rfl, if_pos rfl, w64 (x := c + 1) (by omega) (by omega), ihr (s + 1) (c + 1) k (by omega) (by omega) (by omega) (by omega), Int.add_assoc]
    have nodes : ∀ (r s : Nat) (c : Int) (k : Nat), s + r = ns.length → r + fuL inn + 3 ≤ k → 0 ≤ c → c + r + inn.length ≤ 10000000 → trustquorumref02_Satisfied.l0 k (m : Int) c ns (ns.length : Int) (s : Int) th ns inn = some (decide (th ≤ c + cntN (ns.drop s) m + satL inn m)) := by
      intro r
      induction r with
      | zero =>
        intro s c k h1 hk hc0 hc1
        obtain ⟨k, rfl⟩ : ∃ q, k = q + 1 := ⟨k - 1, by omega⟩
        rw [trustquorumref02_Satisfied.l0, if_neg (by omega), List.drop_of_length_le (by omega), cntN, Int.add_zero]
        exact key inn.length 0 c k (by omega) (by rw [List.drop_zero]; omega) hc0 (by omega)
      | succ r ihr =>
        intro s c k h1 hk hc0 hc1
        obtain ⟨k, rfl⟩ : ∃ q, k = q + 1 := ⟨k - 1, by omega⟩
        have hs : s < ns.length := by omega
        rw [trustquorumref02_Satisfied.l0, if_pos (by omega), if_pos (by omega), if_pos (by omega), rd_at ns s hs, has_ref m hm]
        simp only [Option.bind_some]
        rw [nx s (by omega), List.drop_eq_getElem_cons hs, cntN]
        cases hq : tb m ns[s]
        · rw [if_neg (by decide), if_neg (by decide), ihr (s + 1) c k (by omega) (by omega) (by omega) (by omega), Int.zero_add]
        · rw [if_pos rfl, if_pos rfl, w64 (x := c + 1) (by omega) (by omega), ihr (s + 1) (c + 1) k (by omega) (by omega) (by omega) (by omega), Int.add_assoc c 1]
    obtain ⟨k, rfl⟩ : ∃ q, k = q + 1 := ⟨k - 1, by omega⟩
    show trustquorumref02_Satisfied.f (k + 1) th ns inn (m : Int) = _
    rw [trustquorumref02_Satisfied.f, rvalid_eq, decide_eq_true (show 0 ≤ (m : Int) ∧ (m : Int) < 1024 by omega)]
    simp only [Option.bind_some, if_true]
    have := nodes ns.length 0 0 k (by omega) (by omega) (by omega) (by omega)
    rw [List.drop_zero, Int.zero_add] at this
    rw [satT]
    exact this
theorem rsatisfied_eq (t : S48) (m : Nat) (hm : m < 1024) {k : Nat} (hb : fuT t ≤ 1000000) (hk : fuT t ≤ k) : trustquorumref02_Satisfied.f k t.f0 t.f1 t.f2 (m : Int) = some (satT t m) := rsat_eq m hm _ t k (Nat.le_refl _) hb hk

def useN : List Int → Nat → Nat
  | [], m => m
  | k :: l, m => useN l (if 0 ≤ k ∧ k < 10 then m ||| 2 ^ k.toNat else m)
mutual
def useT : S48 → Nat
  | ⟨_, ns, inn⟩ => useL inn (useN ns 0)
def useL : List S48 → Nat → Nat
  | [], m => m
  | t :: l, m => useL l (m ||| useT t)
end
theorem useN_lt : ∀ (l : List Int) (m : Nat), m < 1024 → useN l m < 1024
  | [], _, h => h
  | k :: l, m, h => by
    rw [useN]
    by_cases hk : 0 ≤ k ∧ k < 10
    · rw [if_pos hk]; exact useN_lt l _ (Nat.or_lt_two_pow (n := 10) h (pow_lt k.toNat (by omega)))
    · rw [if_neg hk]; exact useN_lt l m h
mutual
theorem useT_lt : ∀ t : S48, useT t < 1024
  | ⟨_, ns, inn⟩ => by rw [useT]; exact useL_lt inn _ (useN_lt ns 0 (by omega))
theorem useL_lt : ∀ (l : List S48) (m : Nat), m < 1024 → useL l m < 1024
  | [], _, h => h
  | t :: l, m, h => by rw [useL]; exact useL_lt l _ (Nat.or_lt_two_pow (n := 10) h (useT_lt t))
end

theorem usesref_eq (N : Nat) : ∀ (t : S48) (k : Nat), fuT t ≤ N → fuT t ≤ 1000000 → fuT t ≤ k → trustquorumref02_Uses.f k t.f0 t.f1 t.f2 = some ((useT t : Nat) : Int) := by
  induction N with
  | zero => intro t k h; rw [fuT_eq] at h; omega
  | succ N ih =>
    intro t k h hb hk
    obtain ⟨th, ns, inn⟩ := t
    rw [fuT] at h hb hk
    have hl := fuL_len inn
    have key : ∀ (r s m : Nat) (k : Nat), s + r = inn.length → fuL (inn.drop s) + 2 ≤ k → m < 1024 → trustquorumref02_Uses.l1 k (m : Int) inn (inn.length : Int) (s : Int) = some ((useL (inn.drop s) m : Nat) : Int) := by
      intro r
      induction r with
      | zero =>
        intro s m k h1 hk hm
        obtain ⟨k, rfl⟩ : ∃ q, k = q + 1 := ⟨k - 1, by omega⟩
        rw [trustquorumref02_Uses.l1, if_neg (by omega), List.drop_of_length_le (by omega), useL]
      | succ r ihr =>
        intro s m k h1 hk hm
        obtain ⟨k, rfl⟩ : ∃ q, k = q + 1 := ⟨k - 1, by omega⟩
        have hs : s < inn.length := by omega
        have hd := fuL_drop inn s hs
        have hle := fuL_le inn s
        rw [trustquorumref02_Uses.l1, if_pos (by omega), if_pos (by omega), if_pos (by omega), rdS_at inn s hs, ih inn[s] k (by omega) (by omega) (by omega)]
        simp only [Option.bind_some]
        rw [nx s (by omega), List.drop_eq_getElem_cons hs, useL, or_eq m _ hm (useT_lt _)]
        exact ihr (s + 1) _ k (by omega) (by omega) (Nat.or_lt_two_pow (n := 10) hm (useT_lt _))
    have nodes : ∀ (r s m : Nat) (k : Nat), s + r = ns.length → r + fuL inn + 3 ≤ k → m < 1024 → trustquorumref02_Uses.l0 k (m : Int) ns (ns.length : Int) (s : Int) th ns inn = some ((useL inn (useN (ns.drop s) m) : Nat) : Int) := by
      intro r
      induction r with
      | zero =>
        intro s m k h1 hk hm
        obtain ⟨k, rfl⟩ : ∃ q, k = q + 1 := ⟨k - 1, by omega⟩
        rw [trustquorumref02_Uses.l0, if_neg (by omega), List.drop_of_length_le (by omega), useN]
        exact key inn.length 0 m k (by omega) (by rw [List.drop_zero]; omega) hm
      | succ r ihr =>
        intro s m k h1 hk hm
        obtain ⟨k, rfl⟩ : ∃ q, k = q + 1 := ⟨k - 1, by omega⟩
        have hs : s < ns.length := by omega
        rw [trustquorumref02_Uses.l0, if_pos (by omega), if_pos (by omega), if_pos (by omega), rd_at ns s hs, nx s (by omega), List.drop_eq_getElem_cons hs, useN]
        by_cases h0 : ns[s] ≥ 0
        · rw [if_pos h0]
          by_cases h9 : ns[s] < 10
          · rw [if_pos h9, if_pos h0, if_pos ⟨h0, h9⟩]
            obtain ⟨i, hi⟩ := Int.eq_ofNat_of_zero_le h0
            have h10 : i < 10 := by omega
            rw [hi, shl_eq i h10, or_eq m _ hm (pow_lt i h10), Int.toNat_natCast]
            exact ihr (s + 1) _ k (by omega) (by omega) (Nat.or_lt_two_pow (n := 10) hm (pow_lt i h10))
          · rw [if_neg h9, if_neg (show ¬ (0 ≤ ns[s] ∧ ns[s] < 10) by omega)]
            exact ihr (s + 1) m k (by omega) (by omega) hm
        · rw [if_neg h0, if_neg (show ¬ (0 ≤ ns[s] ∧ ns[s] < 10) by omega)]
          exact ihr (s + 1) m k (by omega) (by omega) hm
    obtain ⟨k, rfl⟩ : ∃ q, k = q + 1 := ⟨k - 1, by omega⟩
    show trustquorumref02_Uses.f (k + 1) th ns inn = _
    rw [trustquorumref02_Uses.f, useT]
    exact nodes ns.length 0 0 k (by omega) (by omega) (by omega)

theorem andNot_eq (a b : Nat) (ha : a < 1024) (hb : b < 1024) : Go.bits .andNot .i64 (a : Int) (b : Int) = ((a &&& (1023 - b) : Nat) : Int) := by
  have wr10 : ∀ n : Int, 0 ≤ n → n < 2 ^ 10 → IntKind.i64.wrap n = n := by intro n h0 h1; rw [IntKind.wrap_i64]; omega
  have e64 : IntKind.i64.bits = 64 := by decide
  have ha' : a % 2 ^ 64 = a := Nat.mod_eq_of_lt (by omega)
  have hb' : b % 2 ^ 64 = b := Nat.mod_eq_of_lt (by omega)
  have key : a &&& (2 ^ 64 - 1 - b) = a &&& (1023 - b) := by
    apply Nat.eq_of_testBit_eq
    intro i
    rw [Nat.testBit_and, Nat.testBit_and]
    by_cases hi : i < 10
    · have h1 := Nat.testBit_two_pow_sub_succ (x := b) (n := 64) (by omega) i
      have h2 := Nat.testBit_two_pow_sub_succ (x := b) (n := 10) (by omega) i
      rw [show 2 ^ 64 - 1 - b = 2 ^ 64 - (b + 1) by omega, h1, show 1023 - b = 2 ^ 10 - (b + 1) by omega, h2, decide_eq_true (show i < 64 by omega), decide_eq_true hi]
    · have : a.testBit i = false := Nat.testBit_lt_two_pow (Nat.lt_of_lt_of_le ha (show 1024 ≤ 2 ^ i from Nat.pow_le_pow_right (n := 2) (by decide) (show 10 ≤ i by omega)))
      rw [this, Bool.false_and, Bool.false_and]
  simp only [Go.bits, BitVec.ofInt_natCast, BitVec.toNat_and, BitVec.toNat_not, BitVec.toNat_ofNat, e64, ha', hb']
  rw [key]
  exact wr10 _ (Int.natCast_nonneg _) (by have := Nat.and_lt_two_pow (n := 10) a (show 1023 - b < 2 ^ 10 by omega); omega)

theorem tbn (m i : Nat) (h : i < 10) : tb m (i : Int) = m.testBit i := by
  unfold tb
  rw [decide_eq_true (show 0 ≤ (i : Int) by omega), decide_eq_true (show (i : Int) < 10 by omega), Int.toNat_natCast]; rfl
def dcl (c : List S54) (i : Nat) : Bool := (rd_T54 c (i : Int)).f0
def tr (c : List S54) (i : Nat) : S48 := (rd_T54 c (i : Int)).f1
structure Cfg (c : List S54) : Prop where
  len : c.length ≤ 10
  fu : ∀ i, i < c.length → fuT (tr c i) ≤ 5800
theorem dcl_out (c : List S54) (i : Nat) (h : c.length ≤ i) : dcl c i = false := by
  unfold dcl rd_T54
  rw [Int.toNat_natCast, List.getD_eq_getElem?_getD, List.getElem?_eq_none h]; rfl
theorem dcl_in {c : List S54} {i : Nat} (h : dcl c i = true) : i < c.length := by
  by_cases hi : i < c.length
  · exact hi
  · rw [dcl_out c i (by omega)] at h; cases h
theorem decl_loop (c : List S54) (hc : c.length ≤ 10) (r : Nat) : ∀ (s m k : Nat), s + r = c.length → r + 1 ≤ k → m < 1024 → (∀ i, i < 10 → m.testBit i = (decide (i < s) && dcl c i)) →
    ∃ D : Nat, configuration_Declared.l0 k (m : Int) c (c.length : Int) (s : Int) = some (D : Int) ∧ D < 1024 ∧ ∀ i, i < 10 → D.testBit i = dcl c i := by
  induction r with
  | zero =>
    intro s m k h1 hk hm hb
    obtain ⟨k, rfl⟩ : ∃ q, k = q + 1 := ⟨k - 1, by omega⟩
    refine ⟨m, by rw [configuration_Declared.l0, if_neg (by omega)], hm, fun i hi => ?_⟩
    rw [hb i hi]
    by_cases h : i < s
    · rw [decide_eq_true h]; rfl
    · rw [decide_eq_false h, dcl_out c i (by omega)]; rfl
  | succ r ih =>
    intro s m k h1 hk hm hb
    obtain ⟨k, rfl⟩ : ∃ q, k = q + 1 := ⟨k - 1, by omega⟩
    rw [configuration_Declared.l0, if_pos (by omega), if_pos (by omega), if_pos (by omega), nx s (by omega)]
    cases hd : (rd_T54 c (s : Int)).f0
    · rw [if_neg (by decide)]
      refine ih (s + 1) m k (by omega) (by omega) hm (fun i hi => ?_)
      rw [hb i hi]
      by_cases he : i = s
      · subst he; unfold dcl; rw [hd, Bool.and_false, Bool.and_false]
      · rw [show decide (i < s) = decide (i < s + 1) by rw [decide_eq_decide]; omega]
    · rw [if_pos rfl, if_pos (by omega), shl_eq s (by omega), or_eq m (2 ^ s) hm (pow_lt s (by omega))]
      refine ih (s + 1) (m ||| 2 ^ s) k (by omega) (by omega) (Nat.or_lt_two_pow (n := 10) hm (pow_lt s (by omega))) (fun i hi => ?_)
      rw [Nat.testBit_or, hb i hi, Nat.testBit_two_pow]
      by_cases he : i = s
      · subst he; unfold dcl; rw [hd]; simp
      · rw [decide_eq_false (show ¬ s = i by omega), Bool.or_false, show decide (i < s) = decide (i < s + 1) by rw [decide_eq_decide]; omega]
theorem declared_eq (c : List S54) (hc : c.length ≤ 10) {k : Nat} (hk : 20 ≤ k) : ∃ D : Nat, configuration_Declared.f k c = some (D : Int) ∧ D < 1024 ∧ ∀ i, i < 10 → D.testBit i = dcl c i := by
  unfold configuration_Declared.f
  exact decl_loop c hc c.length 0 0 k (by omega) (by omega) (by omega) (fun i _ => by rw [Nat.zero_testBit]; simp)
theorem nodes_loop (m : Nat) (hm : m < 1024) (r : Nat) : ∀ (s k : Nat) (l : List Int), s + r = 10 → r + 1 ≤ k → l.length ≤ s → (∀ x ∈ l, ∃ i : Nat, x = (i : Int) ∧ i < 10 ∧ m.testBit i = true) → (∀ i : Nat, i < s → m.testBit i = true → (i : Int) ∈ l) →
    ∃ l', nodeset_Nodes.l0 k (m : Int) l (s : Int) = some l' ∧ l'.length ≤ 10 ∧ (∀ x ∈ l', ∃ i : Nat, x = (i : Int) ∧ i < 10 ∧ m.testBit i = true) ∧ (∀ i : Nat, i < 10 → m.testBit i = true → (i : Int) ∈ l') := by
  induction r with
  | zero =>
    intro s k l h1 hk hl h2 h3
    obtain ⟨k, rfl⟩ : ∃ q, k = q + 1 := ⟨k - 1, by omega⟩
    exact ⟨l, by rw [nodeset_Nodes.l0, if_neg (by omega)], by omega, h2, fun i hi => h3 i (by omega)⟩
  | succ r ih =>
    intro s k l h1 hk hl h2 h3
    obtain ⟨k, rfl⟩ : ∃ q, k = q + 1 := ⟨k - 1, by omega⟩
    rw [nodeset_Nodes.l0, if_pos (by omega), has_eq m hm, tbn m s (by omega), nx s (by omega)]
    simp only [Option.bind_some]
    cases hb : m.testBit s
    · rw [if_neg (by decide)]
      refine ih (s + 1) k l (by omega) (by omega) (by omega) h2 (fun i hi ht => ?_)
      by_cases he : i = s
      · rw [he, hb] at ht; cases ht
      · exact h3 i (by omega) ht
    · rw [if_pos rfl, if_pos (by omega)]
      refine ih (s + 1) k (l ++ [(s : Int)]) (by omega) (by omega) (by rw [List.length_append]; simp only [List.length_cons, List.length_nil]; omega) (fun x hx => ?_) (fun i hi ht => ?_)
      · rcases List.mem_append.1 hx with h | h
        · exact h2 x h
        · exact ⟨s, List.mem_singleton.1 h, by omega, hb⟩
      · by_cases he : i = s
        · rw [he]; exact List.mem_append.2 (.inr (List.mem_singleton.2 rfl))
        · exact List.mem_append.2 (.inl (h3 i (by omega) ht))
theorem nodes_eq (m : Nat) (hm : m < 1024) {k : Nat} (hk : 20 ≤ k) : ∃ l', nodeset_Nodes.f k (m : Int) = some l' ∧ l'.length ≤ 10 ∧ (∀ x ∈ l', ∃ i : Nat, x = (i : Int) ∧ i < 10 ∧ m.testBit i = true) ∧ (∀ i : Nat, i < 10 → m.testBit i = true → (i : Int) ∈ l') := by
  unfold nodeset_Nodes.f
  exact nodes_loop m hm 10 0 k [] (by omega) (by omega) (by simp) (fun x hx => by cases hx) (fun i hi => by omega)
theorem content_eq {c : List S54} (hc : Cfg c) {i : Nat} (hi : i < c.length) (m : Nat) (hm : m < 1024) {k : Nat} (hk : 5800 ≤ k) : closure_content.f k c (i : Int) (m : Int) = some (satT (tr c i) m) := by
  unfold closure_content.f
  have := hc.fu i hi
  rw [if_pos (by omega), if_pos (by omega)]
  have h := satisfied_eq (tr c i) m hm (k := k) (by omega) (by omega)
  unfold tr at h
  rw [h]; rfl
theorem unhappy_loop {c : List S54} (hc : Cfg c) (m : Nat) (hm : m < 1024) (l : List Int) (hl : l.length ≤ 10) (h2 : ∀ x ∈ l, ∃ i : Nat, x = (i : Int) ∧ i < c.length ∧ i < 10 ∧ m.testBit i = true) (r : Nat) :
    ∀ (s k : Nat), s + r = l.length → 5800 + r + 1 ≤ k → (∀ j, (h : j < l.length) → j < s → satT (tr c (l[j]'h).toNat) m = true) →
    (∃ i : Nat, closure_unhappy.l0 k (m : Int) l (l.length : Int) (s : Int) c = some ((i : Int), true) ∧ i < c.length ∧ i < 10 ∧ m.testBit i = true ∧ satT (tr c i) m = false) ∨ (closure_unhappy.l0 k (m : Int) l (l.length : Int) (s : Int) c = some (0, false) ∧ ∀ x ∈ l, satT (tr c x.toNat) m = true) := by
  induction r with
  | zero =>
    intro s k h1 hk hd
    obtain ⟨k, rfl⟩ : ∃ q, k = q + 1 := ⟨k - 1, by omega⟩
    refine .inr ⟨by rw [closure_unhappy.l0, if_neg (by omega)], fun x hx => ?_⟩
    obtain ⟨j, hj, rfl⟩ := List.getElem_of_mem hx
    exact hd j hj (by omega)
  | succ r ih =>
    intro s k h1 hk hd
    obtain ⟨k, rfl⟩ : ∃ q, k = q + 1 := ⟨k - 1, by omega⟩
    have hs : s < l.length := by omega
    obtain ⟨i, e, i1, i2, i3⟩ := h2 _ (List.getElem_mem hs)
    rw [closure_unhappy.l0, if_pos (by omega), if_pos (by omega), if_pos (by omega), rd_at l s hs, nx s (by omega), e, content_eq hc i1 m hm (by omega)]
    simp only [Option.bind_some]
    cases hq : satT (tr c i) m
    · rw [if_neg (by decide)]
      exact .inl ⟨i, rfl, i1, i2, i3, hq⟩
    · rw [if_pos rfl]
      refine ih (s + 1) k (by omega) (by omega) (fun j hj hjs => ?_)
      by_cases he : j = s
      · subst he; rw [e, Int.toNat_natCast]; exact hq
      · exact hd j hj (by omega)
theorem unhappy_eq {c : List S54} (hc : Cfg c) (m : Nat) (hm : m < 1024) (hin : ∀ i, i < 10 → m.testBit i = true → i < c.length) {k : Nat} (hk : 5900 ≤ k) :
    (∃ i : Nat, closure_unhappy.f k c (m : Int) = some ((i : Int), true) ∧ i < c.length ∧ i < 10 ∧ m.testBit i = true ∧ satT (tr c i) m = false) ∨ (closure_unhappy.f k c (m : Int) = some (0, false) ∧ ∀ i, i < 10 → m.testBit i = true → satT (tr c i) m = true) := by
  obtain ⟨l, h1, hl, h2, h3⟩ := nodes_eq m hm (k := k) (by omega)
  unfold closure_unhappy.f
  rw [h1]
  simp only [Option.bind_some]
  have h2' : ∀ x ∈ l, ∃ i : Nat, x = (i : Int) ∧ i < c.length ∧ i < 10 ∧ m.testBit i = true := fun x hx => by
    obtain ⟨i, a, b, d⟩ := h2 x hx
    exact ⟨i, a, hin i b d, b, d⟩
  rcases unhappy_loop hc m hm l hl h2' l.length 0 k (by omega) (by omega) (fun j _ hj => by omega) with h | ⟨h, h'⟩
  · exact .inl h
  · refine .inr ⟨h, fun i hi ht => ?_⟩
    have := h' _ (h3 i hi ht)
    rw [Int.toNat_natCast] at this
    exact this
structure IsG (c : List S54) (m g : Nat) : Prop where
  lt : g < 1024
  inn : ∀ i, i < 10 → g.testBit i = true → m.testBit i = true ∧ dcl c i = true ∧ satT (tr c i) g = true
  all : ∀ s, s < 1024 → (∀ i, i < 10 → s.testBit i = true → m.testBit i = true ∧ dcl c i = true ∧ satT (tr c i) s = true) → ∀ i, i < 10 → s.testBit i = true → g.testBit i = true
theorem tb_of {a b : Nat} (h : ∀ i, i < 10 → a.testBit i = true → b.testBit i = true) : ∀ k, tb a k = true → tb b k = true := by
  intro k hk
  obtain ⟨k0, k1⟩ := tb_range hk
  obtain ⟨i, rfl⟩ := Int.eq_ofNat_of_zero_le k0
  rw [tbn a i (by omega)] at hk
  rw [tbn b i (by omega)]
  exact h i (by omega) hk
theorem elim_loop {c : List S54} (hc : Cfg c) (m0 : Nat) (N : Nat) : ∀ (m k : Nat) (l : List Int), m ≤ N → m < 1024 → 6000 + m ≤ k → l.length + m ≤ 2000 →
    (∀ i, i < 10 → m.testBit i = true → m0.testBit i = true ∧ dcl c i = true) →
    (∀ s, s < 1024 → (∀ i, i < 10 → s.testBit i = true → m0.testBit i = true ∧ dcl c i = true ∧ satT (tr c i) s = true) → ∀ i, i < 10 → s.testBit i = true → m.testBit i = true) →
    ∃ g l', closure_eliminate.l0 k (m : Int) l c = some (((g : Nat) : Int), l') ∧ IsG c m0 g := by
  induction N with
  | zero =>
    intro m k l hN hm hk hl h1 h2
    obtain ⟨k, rfl⟩ : ∃ q, k = q + 1 := ⟨k - 1, by omega⟩
    obtain rfl : m = 0 := by omega
    rw [closure_eliminate.l0]
    rcases unhappy_eq hc 0 hm (fun i _ h => by rw [Nat.zero_testBit] at h; cases h) (k := k) (by omega) with ⟨i, _, _, _, h, _⟩ | ⟨h, h'⟩
    · rw [Nat.zero_testBit] at h; cases h
    · rw [h]
      exact ⟨0, l, rfl, by omega, (fun i _ h => by rw [Nat.zero_testBit] at h; cases h), h2⟩
  | succ N ih =>
    intro m k l hN hm hk hl h1 h2
    obtain ⟨k, rfl⟩ : ∃ q, k = q + 1 := ⟨k - 1, by omega⟩
    rw [closure_eliminate.l0]
    rcases unhappy_eq hc m hm (fun i hi h => dcl_in (h1 i hi h).2) (k := k) (by omega) with ⟨i, h, i1, i2, i3, i4⟩ | ⟨h, h'⟩
    · rw [h]
      simp only [Option.bind_some, if_true]
      have hp := pow_lt i i2
      rw [if_pos (by omega), if_pos (by omega), shl_eq i i2, andNot_eq m (2 ^ i) hm hp]
      have bit : ∀ j, j < 10 → (m &&& (1023 - 2 ^ i)).testBit j = (m.testBit j && !decide (i = j)) := fun j hj => by
        have := Nat.testBit_two_pow_sub_succ (x := 2 ^ i) (n := 10) (by omega) j
        rw [Nat.testBit_and, show 1023 - 2 ^ i = 2 ^ 10 - (2 ^ i + 1) by omega, this, decide_eq_true hj, Nat.testBit_two_pow, Bool.true_and]
      have hlt : m &&& (1023 - 2 ^ i) < m := by
        have hle : m &&& (1023 - 2 ^ i) ≤ m := Nat.and_le_left
        rcases Nat.lt_or_eq_of_le hle with h | h
        · exact h
        · have := bit i i2
          rw [h, i3, decide_eq_true rfl] at this
          cases this
      refine ih (m &&& (1023 - 2 ^ i)) k (l ++ [(i : Int)]) (by omega) (by omega) (by omega) (by rw [List.length_append]; simp only [List.length_cons, List.length_nil]; omega) (fun j hj hb => ?_) (fun s hs hsa j hj hb => ?_)
      · rw [bit j hj, Bool.and_eq_true] at hb
        exact h1 j hj hb.1
      · have hjm := h2 s hs hsa j hj hb
        rw [bit j hj, hjm, Bool.true_and]
        by_cases he : i = j
        · subst he
          have hsat := (hsa i hj hb).2.2
          have := satT_mono (tb_of (fun q hq hqb => h2 s hs hsa q hq hqb)) (tr c i) hsat
          rw [this] at i4; cases i4
        · rw [decide_eq_false he]; rfl
    · rw [h]
      exact ⟨m, l, rfl, hm, fun i hi hb => ⟨(h1 i hi hb).1, (h1 i hi hb).2, h' i hi hb⟩, h2⟩
theorem greatest_eq {c : List S54} (hc : Cfg c) (m : Nat) (hm : m < 1024) {k : Nat} (hk : 7100 ≤ k) : ∃ g : Nat, closure_Greatest.f k c (m : Int) = some (g : Int) ∧ IsG c m g := by
  obtain ⟨D, hD, hD1, hD2⟩ := declared_eq c hc.len (k := k) (by omega)
  have hlt : m &&& D < 1024 := Nat.and_lt_two_pow (n := 10) m hD1
  obtain ⟨g, l', hg, hG⟩ := elim_loop hc m (m &&& D) (m &&& D) k [] (Nat.le_refl _) hlt (by omega) (by simp only [List.length_nil]; omega)
    (fun i hi h => by rw [Nat.testBit_and, Bool.and_eq_true, hD2 i hi] at h; exact h)
    (fun s hs h i hi hb => by rw [Nat.testBit_and, hD2 i hi, (h i hi hb).1, (h i hi hb).2.1]; rfl)
  refine ⟨g, ?_, hG⟩
  unfold closure_Greatest.f closure_eliminate.f
  rw [nsValid_eq, decide_eq_true (show 0 ≤ (m : Int) ∧ (m : Int) < 1024 by omega)]
  simp only [Option.bind_some, if_true]
  rw [hD]
  simp only [Option.bind_some]
  rw [and_eq m D hm hD1, hg]; rfl
theorem IsG.mono {c : List S54} {m m' g g' : Nat} (h : IsG c m g) (h' : IsG c m' g') (hm : ∀ i, i < 10 → m.testBit i = true → m'.testBit i = true) : ∀ i, i < 10 → g.testBit i = true → g'.testBit i = true :=
  h'.all g h.lt (fun i hi hb => ⟨hm i hi (h.inn i hi hb).1, (h.inn i hi hb).2⟩)

theorem fu_eta (t : S48) : fuT ⟨t.f0, t.f1, t.f2⟩ = fuT t := by cases t; rfl
def Good (L : List Int) (o : Option (Int × List Int × (List (S48)) × Int)) : Prop := ∃ th ns inn p', o = some (th, ns, inn, p') ∧ fuT ⟨th, ns, inn⟩ ≤ 5800 ∧ St L p'
theorem pick5 {L : List Int} {p : Int} (h : St L p) : ∃ c p', trustquorummake_Tape_Pick.f L p ([0, 0, 0, 1, (-1)] : List Int) = some (c, p') ∧ St L p' := by
  obtain ⟨r, p', hr, h0, h1, hs⟩ := N_eq (n := 5) h (by omega) (by omega)
  have l5 : ((([0, 0, 0, 1, (-1)] : List Int).length : Nat) : Int) = 5 := rfl
  unfold trustquorummake_Tape_Pick.f
  rw [l5, hr]
  simp only [Option.bind_some]
  rw [if_pos h0, if_pos h1]
  exact ⟨_, _, rfl, hs⟩
theorem most_loop {L : List Int} (n : Nat) (hn : n ≤ 10) (r : Nat) : ∀ (s k : Nat) (p : Int) (l : List Int), s + r = n → r + 1 ≤ k → l.length ≤ s → St L p → Good L (trustquorummake_most.l0 k (n : Int) (s : Int) L p 0 l) := by
  induction r with
  | zero =>
    intro s k p l h1 hk hl hs
    obtain ⟨k, rfl⟩ : ∃ q, k = q + 1 := ⟨k - 1, by omega⟩
    obtain ⟨c, p', hc, hs'⟩ := pick5 hs
    rw [trustquorummake_most.l0, if_neg (by omega), hc]
    simp only [Option.bind_some]
    by_cases h0 : (l.length : Int) = 0
    · rw [if_pos h0]
      exact ⟨_, _, _, _, rfl, by rw [fuT, fuL]; simp, hs'⟩
    · rw [if_neg h0]
      exact ⟨_, _, _, _, rfl, by rw [fuT, fuL]; omega, hs'⟩
  | succ r ih =>
    intro s k p l h1 hk hl hs
    obtain ⟨k, rfl⟩ : ∃ q, k = q + 1 := ⟨k - 1, by omega⟩
    obtain ⟨x, p', hx, x0, x1, hs'⟩ := N_eq (n := 10) hs (by omega) (by omega)
    rw [trustquorummake_most.l0, if_pos (by omega), hx]
    simp only [Option.bind_some]
    rw [nx s (by omega)]
    by_cases h9 : x < 9
    · rw [if_pos h9, if_pos (by omega)]
      exact ih (s + 1) k p' _ (by omega) (by omega) (by rw [List.length_append]; simp only [List.length_cons, List.length_nil]; omega) hs'
    · rw [if_neg h9]
      exact ih (s + 1) k p' l (by omega) (by omega) (by omega) hs'
theorem most_eq {L : List Int} {p : Int} (n : Nat) (hn : n ≤ 10) (h : St L p) {k : Nat} (hk : 20 ≤ k) : Good L (trustquorummake_most.f k L p (n : Int)) := by
  unfold trustquorummake_most.f
  exact most_loop n hn n 0 k p [] (by omega) (by omega) (by simp) h
theorem group_fill {L : List Int} {p : Int} (n : Nat) (hn : n ≤ 10) (a2 : Int) (x7 : List (S48)) (x8 : Int) (K : Nat) (r : Nat) : ∀ (x10 : Int) (k : Nat) (acc : List Int), 0 ≤ x10 → x10 ≤ 100 → (n : Int) ≤ x10 + r → acc.length + r ≤ 30 → K + r ≤ k →
    (∀ (x10' : Int) (acc' : List Int) (k' : Nat), (n : Int) ≤ x10' → K ≤ k' → acc'.length ≤ 30 → (x10 < n ∨ 0 < acc.length → 0 < acc'.length) → Good L (trustquorummake_group.l1 k' (n : Int) a2 x7 x8 x10' L p 1 acc')) →
    Good L (trustquorummake_group.l1 k (n : Int) a2 x7 x8 x10 L p 1 acc) := by
  induction r with
  | zero =>
    intro x10 k acc h0 h0' h1 hl hk H
    exact H x10 acc k (by omega) (by omega) (by omega) (fun h => h.elim (fun h => by omega) id)
  | succ r ih =>
    intro x10 k acc h0 h0' h1 hl hk H
    by_cases hx : x10 < n
    · obtain ⟨k, rfl⟩ : ∃ q, k = q + 1 := ⟨k - 1, by omega⟩
      rw [trustquorummake_group.l1, if_pos hx, if_pos (by omega), w64 (x := x10 + 3) (by omega) (by omega)]
      refine ih (x10 + 3) k _ (by omega) (by omega) (by omega) (by rw [List.length_append]; simp only [List.length_cons, List.length_nil]; omega) (by omega) (fun x10' acc' k' g1 g2 g3 g4 => H x10' acc' k' g1 g2 g3 (fun _ => g4 (.inr (by rw [List.length_append]; simp))))
    · exact H x10 acc k (by omega) (by omega) (by omega) (fun h => h.elim (fun h => by omega) id)
theorem group_loop {L : List Int} (n : Nat) (hn0 : 1 ≤ n) (hn : n ≤ 10) (a2 : Int) (ha : 0 ≤ a2) (r : Nat) : ∀ (s k : Nat) (p : Int) (x7 : List (S48)), s + r = 3 → 40 * r + 20 ≤ k → x7.length ≤ s → (1 ≤ s → 1 ≤ x7.length) → (∀ x ∈ x7, fuT x ≤ 110) → St L p → Good L (trustquorummake_group.l0 k (n : Int) a2 x7 (s : Int) L p) := by
  induction r with
  | zero =>
    intro s k p x7 h1 hk hl hp hf hs
    obtain ⟨k, rfl⟩ : ∃ q, k = q + 1 := ⟨k - 1, by omega⟩
    have hl1 := hp (by omega)
    obtain ⟨x, p', hx, x0, x1, hs'⟩ := N_eq (n := 4) hs (by omega) (by omega)
    rw [trustquorummake_group.l0, if_neg (by omega), hx]
    simp only [Option.bind_some]
    by_cases h0 : x = 0
    · have t1 := Int.tmod_lt_of_pos a2 (show 0 < (x7.length : Int) by omega)
      have t0 := Int.tmod_nonneg (x7.length : Int) ha
      rw [if_pos h0, if_neg (by omega), if_pos t0, if_pos t1]
      obtain ⟨q, hq⟩ := Int.eq_ofNat_of_zero_le t0
      rw [hq] at t1 ⊢
      have hqi : q < x7.length := by omega
      rw [rdS_at x7 q hqi]
      have := hf _ (List.getElem_mem hqi)
      exact ⟨_, _, _, _, rfl, by rw [fu_eta]; omega, hs'⟩
    · have hm : 1 ≤ mx 1 (wrap64 ((x7.length : Int) - 1)) ∧ mx 1 (wrap64 ((x7.length : Int) - 1)) ≤ x7.length := by
        rw [w64 (by omega) (by omega)]; unfold mx; split <;> omega
      obtain ⟨y, p2, hy, _, _, hs2⟩ := Range_eq (a := mx 1 (wrap64 ((x7.length : Int) - 1))) (b := (x7.length : Int)) hs' (by omega) hm.2 (by omega)
      rw [if_neg h0, hy]
      have hfu : ∀ l : List (S48), (∀ x ∈ l, fuT x ≤ 110) → fuL l ≤ 113 * l.length := by
        intro l
        induction l with
        | nil => intro _; rw [fuL]; omega
        | cons x l ih =>
          intro h
          have h1 := h x List.mem_cons_self
          have h2 := ih (fun y hy => h y (List.mem_cons_of_mem _ hy))
          rw [fuL, List.length_cons]; omega
      have := hfu x7 hf
      exact ⟨_, _, _, _, rfl, by rw [fuT, List.length_nil]; omega, hs2⟩
  | succ r ih =>
    intro s k p x7 h1 hk hl hp hf hs
    obtain ⟨k, rfl⟩ : ∃ q, k = q + 1 := ⟨k - 1, by omega⟩
    rw [trustquorummake_group.l0, if_pos (by omega)]
    refine group_fill n hn a2 x7 (s : Int) (40 * r + 21) 12 (s : Int) k [] (by omega) (by omega) (by omega) (by simp) (by omega) (fun x10' acc' k' g1 g2 g3 g4 => ?_)
    obtain ⟨k', rfl⟩ : ∃ q, k' = q + 1 := ⟨k' - 1, by omega⟩
    rw [trustquorummake_group.l1, if_neg (by omega), nx s (by omega)]
    by_cases hz : (acc'.length : Int) > 0
    · obtain ⟨th, p', hth, _, _, hs'⟩ := Range_eq (a := 1) (b := (acc'.length : Int)) hs (by omega) (by omega) (by omega)
      rw [if_pos hz, hth]
      simp only [Option.bind_some]
      rw [if_pos (by omega)]
      refine ih (s + 1) k' p' _ (by omega) (by omega) (by rw [List.length_append]; simp only [List.length_cons, List.length_nil]; omega) (fun _ => by rw [List.length_append]; simp) (fun x hx => ?_) hs'
      rcases List.mem_append.1 hx with h | h
      · exact hf x h
      · rw [List.mem_singleton.1 h, fuT, fuL]; omega
    · rw [if_neg hz]
      refine ih (s + 1) k' p x7 (by omega) (by omega) (by omega) (fun _ => ?_) hf hs
      by_cases hs0 : s = 0
      · have := g4 (.inl (by omega)); omega
      · exact hp (by omega)
theorem group_eq {L : List Int} {p : Int} (n : Nat) (hn0 : 1 ≤ n) (hn : n ≤ 10) (a2 : Int) (ha : 0 ≤ a2) (h : St L p) {k : Nat} (hk : 200 ≤ k) : Good L (trustquorummake_group.f k L p (n : Int) a2) := by
  unfold trustquorummake_group.f
  exact group_loop n hn0 hn a2 ha 3 0 k p [] (by omega) (by omega) (by simp) (fun h => by omega) (fun x hx => by cases hx) h
theorem config_loop {L : List Int} (n : Nat) (hn0 : 1 ≤ n) (hn : n ≤ 10) (kind : Int) (r : Nat) : ∀ (s k : Nat) (p : Int) (c : List S54), s + r = n → 6000 + r + 1 ≤ k → c.length = s → (∀ x ∈ c, fuT x.f1 ≤ 5800) → St L p →
    ∃ c' p', trustquorummake_Config.l0 k (n : Int) kind (s : Int) L p c = some (c', p') ∧ c'.length = n ∧ (∀ x ∈ c', fuT x.f1 ≤ 5800) ∧ St L p' := by
  induction r with
  | zero =>
    intro s k p c h1 hk hl hf hs
    obtain ⟨k, rfl⟩ : ∃ q, k = q + 1 := ⟨k - 1, by omega⟩
    exact ⟨c, p, by rw [trustquorummake_Config.l0, if_neg (by omega)], by omega, hf, hs⟩
  | succ r ih =>
    intro s k p c h1 hk hl hf hs
    obtain ⟨k, rfl⟩ : ∃ q, k = q + 1 := ⟨k - 1, by omega⟩
    have step : ∀ (p : Int) (t : S48) (b : Bool), fuT t ≤ 5800 → St L p → ∃ c' p', trustquorummake_Config.l0 k (n : Int) kind ((s + 1 : Nat) : Int) L p (c ++ [(⟨b, t⟩ : S54)]) = some (c', p') ∧ c'.length = n ∧ (∀ x ∈ c', fuT x.f1 ≤ 5800) ∧ St L p' := by
      intro p t b ht hs
      refine ih (s + 1) k p _ (by omega) (by omega) (by rw [List.length_append]; simp only [List.length_cons, List.length_nil]; omega) (fun x hx => ?_) hs
      rcases List.mem_append.1 hx with h | h
      · exact hf x h
      · rw [List.mem_singleton.1 h]; exact ht
    have zz : fuT (⟨0, ([] : List Int), ([] : List (S48))⟩ : S48) ≤ 5800 := by rw [fuT, fuL]; simp
    have fin : ∀ (p : Int) (th : Int) (ns : List Int) (inn : List (S48)), fuT ⟨th, ns, inn⟩ ≤ 5800 → St L p → ∃ c' p', ((trustquorummake_Tape_N.f L p 12).bind fun bt247 => (if bt247.1 = 11 then (if c.length < 2199023255552 then (trustquorummake_Config.l0 k (n : Int) kind (wrap64 ((s : Int) + 1)) L bt247.2 (c ++ [(⟨false, (⟨0, ([] : List Int), ([] : List (S48))⟩ : S48)⟩ : S54)])) else (none)) else (if c.length < 2199023255552 then (trustquorummake_Config.l0 k (n : Int) kind (wrap64 ((s : Int) + 1)) L bt247.2 (c ++ [(⟨true, (⟨th, ns, inn⟩ : S48)⟩ : S54)])) else (none)))) = some (c', p') ∧ c'.length = n ∧ (∀ x ∈ c', fuT x.f1 ≤ 5800) ∧ St L p' := by
      intro p th ns inn ht hs
      obtain ⟨x, p', hx, _, _, hs'⟩ := N_eq (n := 12) hs (by omega) (by omega)
      rw [hx, nx s (by omega)]
      simp only [Option.bind_some]
      by_cases h : x = 11
      · rw [if_pos h, if_pos (by omega)]; exact step p' _ false zz hs'
      · rw [if_neg h, if_pos (by omega)]; exact step p' _ true ht hs'
    rw [trustquorummake_Config.l0, if_pos (by omega)]
    by_cases k0 : kind = 0
    · obtain ⟨th, ns, inn, p', h, hfu, _, _, _, hs'⟩ := Trust_eq hs (n := (n : Int)) (by omega) (by omega) 2 (by omega) (k := k) (by omega)
      rw [if_pos k0, show (2 : Int) = ((2 : Nat) : Int) from rfl, h]
      simp only [Option.bind_some]
      exact fin p' th ns inn (by omega) hs'
    · rw [if_neg k0]
      by_cases k1 : kind = 1
      · obtain ⟨th, ns, inn, p', h, hfu, hs'⟩ := most_eq n hn hs (k := k) (by omega)
        rw [if_pos k1, h]
        simp only [Option.bind_some]
        exact fin p' th ns inn hfu hs'
      · obtain ⟨th, ns, inn, p', h, hfu, hs'⟩ := group_eq n hn0 hn (s : Int) (by omega) hs (k := k) (by omega)
        rw [if_neg k1, h]
        simp only [Option.bind_some]
        exact fin p' th ns inn hfu hs'
theorem Config_eq {L : List Int} {p : Int} (b : Int) (b0 : 1 ≤ b) (b1 : b ≤ 10) (h : St L p) {k : Nat} (hk : 6100 ≤ k) : ∃ c p', trustquorummake_Config.f k L p b = some (c, p') ∧ 1 ≤ c.length ∧ (c.length : Int) ≤ b ∧ (∀ x ∈ c, fuT x.f1 ≤ 5800) ∧ St L p' := by
  obtain ⟨n, p1, h1, n0, n1, s1⟩ := Range_eq (a := 1) (b := b) h (by omega) (by omega) (by omega)
  obtain ⟨q, p2, h2, _, _, s2⟩ := N_eq (n := 3) s1 (by omega) (by omega)
  obtain ⟨n, rfl⟩ := Int.eq_ofNat_of_zero_le (show 0 ≤ n by omega)
  obtain ⟨c, p', hc, c1, c2, s3⟩ := config_loop n (by omega) (by omega) q n 0 k p2 [] (by omega) (by omega) (by simp) (fun x hx => by cases hx) s2
  refine ⟨c, p', ?_, by omega, by omega, c2, s3⟩
  unfold trustquorummake_Config.f
  rw [h1]; simp only [Option.bind_some]
  rw [h2]; simp only [Option.bind_some]
  exact hc

theorem pickA {L : List Int} {p : Int} (h : St L p) (l : List Int) (h1 : 1 ≤ l.length) (h2 : l.length ≤ 100) : ∃ c p', trustquorummake_Tape_Pick.f L p l = some (c, p') ∧ c ∈ l ∧ St L p' := by
  obtain ⟨r, p', hr, r0, r1, hs⟩ := N_eq (n := (l.length : Int)) h (by omega) (by omega)
  obtain ⟨r, rfl⟩ := Int.eq_ofNat_of_zero_le r0
  unfold trustquorummake_Tape_Pick.f
  rw [hr]
  simp only [Option.bind_some]
  rw [if_pos r0, if_pos r1, rd_at l r (by omega)]
  exact ⟨_, _, rfl, List.getElem_mem (by omega), hs⟩

def blk (c : List S54) (v b : Nat) : Bool := dcl c v && !satT (tr c v) ((1023 &&& (1023 - b)) ||| 2 ^ v)
theorem blocks_eq {c : List S54} (hc : Cfg c) (v b : Nat) (hv : v < 10) (hb : b < 1024) {k : Nat} (hk : 5900 ≤ k) : blocking_Blocks.f k c (v : Int) (b : Int) = some (blk c v b) := by
  obtain ⟨D, hD, hD1, hD2⟩ := declared_eq c hc.len (k := k) (by omega)
  have h1 : 1023 &&& (1023 - b) < 1024 := Nat.and_lt_two_pow (n := 10) 1023 (show 1023 - b < 2 ^ 10 by omega)
  unfold blocking_Blocks.f blk
  rw [nsValid_eq, decide_eq_true (show 0 ≤ (b : Int) ∧ (b : Int) < 1024 by omega)]
  simp only [Option.bind_some, if_true]
  rw [hD]
  simp only [Option.bind_some]
  rw [has_eq D hD1, tbn D v hv, hD2 v hv]
  simp only [Option.bind_some]
  cases hd : dcl c v
  · rw [if_neg (by decide)]; rfl
  · have hi := dcl_in hd
    have hf := hc.fu v hi
    have e := andNot_eq 1023 b (by omega) hb
    rw [show ((1023 : Nat) : Int) = 1023 from rfl] at e
    have hs := satisfied_eq (tr c v) ((1023 &&& (1023 - b)) ||| 2 ^ v) (Nat.or_lt_two_pow (n := 10) h1 (pow_lt v hv)) (k := k) (by omega) (by omega)
    unfold tr at hs
    rw [if_pos rfl, if_pos (by omega), if_pos (by omega), e, shl_eq v hv, or_eq _ _ h1 (pow_lt v hv), hs]
    rfl
theorem confirms_eq {c : List S54} (hc : Cfg c) (v b : Nat) (hv : v < 10) (hb : b < 1024) {k : Nat} (hk : 7100 ≤ k) : ∃ g, IsG c b g ∧ federated_Confirms.f k c (v : Int) (b : Int) = some (g.testBit v) := by
  obtain ⟨g, hg, hG⟩ := greatest_eq hc b hb hk
  refine ⟨g, hG, ?_⟩
  unfold federated_Confirms.f
  rw [hg]
  simp only [Option.bind_some]
  rw [has_eq g hG.lt, tbn g v hv]; rfl
theorem accepts_eq {c : List S54} (hc : Cfg c) (v a b : Nat) (hv : v < 10) (ha : a < 1024) (hb : b < 1024) {k : Nat} (hk : 7101 ≤ k) : ∃ g, IsG c (a ||| b) g ∧ federated_Accepts.f k c (v : Int) (a : Int) (b : Int) = some (blk c v b || g.testBit v) := by
  obtain ⟨k, rfl⟩ : ∃ q, k = q + 1 := ⟨k - 1, by omega⟩
  obtain ⟨g, hg, hG⟩ := greatest_eq hc (a ||| b) (Nat.or_lt_two_pow (n := 10) ha hb) (k := k) (by omega)
  refine ⟨g, hG, ?_⟩
  unfold federated_Accepts.f
  rw [nsValid_eq, nsValid_eq, decide_eq_true (show 0 ≤ (a : Int) ∧ (a : Int) < 1024 by omega), decide_eq_true (show 0 ≤ (b : Int) ∧ (b : Int) < 1024 by omega)]
  simp only [Option.bind_some, if_true, Bool.not_true]
  rw [federated_Accepts.j0, if_neg (by decide), blocks_eq hc v b hv hb (by omega)]
  simp only [Option.bind_some]
  cases hB : blk c v b
  · rw [if_neg (by decide), or_eq a b ha hb, hg]
    simp only [Option.bind_some]
    rw [has_eq g hG.lt, tbn g v hv]; rfl
  · rw [if_pos rfl]; rfl
def c4 : List S54 := [⟨true, ⟨3, [0, 1, 2, 3], []⟩⟩, ⟨true, ⟨3, [0, 1, 2, 3], []⟩⟩, ⟨true, ⟨3, [0, 1, 2, 3], []⟩⟩, ⟨true, ⟨3, [0, 1, 2, 3], []⟩⟩]
theorem four_eq {k : Nat} (hk : 10 ≤ k) : trustquorumlaw18_four.f k = some c4 :=
  at_rounds (g := fun k => trustquorumlaw18_four.f k) (fun k => trustquorumlaw18_four.mono k) hk (by kernel_rfl)
theorem c4_ok : Cfg c4 := ⟨by decide, by decide +kernel⟩
theorem awake_eq {k : Nat} (hk : 7200 ≤ k) : trustquorumlaw18_awake.f k = some true := by
  have F := four_eq (k := k) (by omega)
  obtain ⟨g1, G1, A1⟩ := accepts_eq c4_ok 0 7 0 (by omega) (by omega) (by omega) (k := k) (by omega)
  obtain ⟨g2, G2, A2⟩ := accepts_eq c4_ok 0 0 6 (by omega) (by omega) (by omega) (k := k) (by omega)
  obtain ⟨g3, G3, A3⟩ := accepts_eq c4_ok 0 3 0 (by omega) (by omega) (by omega) (k := k) (by omega)
  obtain ⟨g4, G4, A4⟩ := confirms_eq c4_ok 0 7 (by omega) (by omega) (k := k) (by omega)
  obtain ⟨g5, G5, A5⟩ := confirms_eq c4_ok 0 14 (by omega) (by omega) (k := k) (by omega)
  have s7 : ∀ i, i < 10 → Nat.testBit 7 i = true → Nat.testBit 7 i = true ∧ dcl c4 i = true ∧ satT (tr c4 i) 7 = true := by decide +kernel
  have b1 : g1.testBit 0 = true := G1.all 7 (by omega) s7 0 (by omega) (by decide)
  have b4 : g4.testBit 0 = true := G4.all 7 (by omega) s7 0 (by omega) (by decide)
  have b3 : g3.testBit 0 = false := by
    cases h : g3.testBit 0
    · rfl
    · have hs := (G3.inn 0 (by omega) h).2.2
      have := satT_mono (tb_of (fun i hi hb => (G3.inn i hi hb).1)) (tr c4 0) hs
      have e : satT (tr c4 0) (3 ||| 0) = false := by decide +kernel
      rw [e] at this; cases this
  have b5 : g5.testBit 0 = false := by
    cases h : g5.testBit 0
    · rfl
    · have := (G5.inn 0 (by omega) h).1
      cases this
  have k0 : blk c4 0 0 = false := by decide +kernel
  have k6 : blk c4 0 6 = true := by decide +kernel
  rw [b1, Bool.or_true] at A1
  rw [k6, Bool.true_or] at A2
  rw [b3, k0, Bool.or_false] at A3
  rw [b4] at A4
  rw [b5] at A5
  have A1 : federated_Accepts.f k c4 0 7 0 = some true := A1
  have A2 : federated_Accepts.f k c4 0 0 6 = some true := A2
  have A3 : federated_Accepts.f k c4 0 3 0 = some false := A3
  have A4 : federated_Confirms.f k c4 0 7 = some true := A4
  have A5 : federated_Confirms.f k c4 0 14 = some false := A5
  unfold trustquorumlaw18_awake.f
  rw [F]
  simp only [Option.bind_some]
  rw [A1]; simp only [Option.bind_some, if_true]
  rw [A2]; simp only [Option.bind_some, if_true]
  rw [A3]; simp only [Option.bind_some, Bool.false_eq_true, if_false]
  rw [A4]; simp only [Option.bind_some, if_true]
  rw [A5]; rfl

theorem rdecl_loop (c : List S54) (hc : c.length ≤ 10) (r : Nat) : ∀ (s m k : Nat), s + r = c.length → r + 1 ≤ k → m < 1024 → (∀ i, i < 10 → m.testBit i = (decide (i < s) && dcl c i)) →
    ∃ D : Nat, trustquorumref06_Declared.l0 k (m : Int) c (c.length : Int) (s : Int) = some (D : Int) ∧ D < 1024 ∧ ∀ i, i < 10 → D.testBit i = dcl c i := by
  induction r with
  | zero =>
    intro s m k h1 hk hm hb
    obtain ⟨k, rfl⟩ : ∃ q, k = q + 1 := ⟨k - 1, by omega⟩
    refine ⟨m, by rw [trustquorumref06_Declared.l0, if_neg (by omega)], hm, fun i hi => ?_⟩
    rw [hb i hi]
    by_cases h : i < s
    · rw [decide_eq_true h]; rfl
    · rw [decide_eq_false h, dcl_out c i (by omega)]; rfl
  | succ r ih =>
    intro s m k h1 hk hm hb
    obtain ⟨k, rfl⟩ : ∃ q, k = q + 1 := ⟨k - 1, by omega⟩
    rw [trustquorumref06_Declared.l0, if_pos (by omega), if_pos (by omega), if_pos (by omega), if_pos (by omega), nx s (by omega)]
    cases hd : (rd_T54 c (s : Int)).f0
    · rw [if_neg (by decide)]
      refine ih (s + 1) m k (by omega) (by omega) hm (fun i hi => ?_)
      rw [hb i hi]
      by_cases he : i = s
      · subst he; unfold dcl; rw [hd, Bool.and_false, Bool.and_false]
      · rw [show decide (i < s) = decide (i < s + 1) by rw [decide_eq_decide]; omega]
    · rw [if_pos rfl, shl_eq s (by omega), or_eq m (2 ^ s) hm (pow_lt s (by omega))]
      refine ih (s + 1) (m ||| 2 ^ s) k (by omega) (by omega) (Nat.or_lt_two_pow (n := 10) hm (pow_lt s (by omega))) (fun i hi => ?_)
      rw [Nat.testBit_or, hb i hi, Nat.testBit_two_pow]
      by_cases he : i = s
      · subst he; unfold dcl; rw [hd]; simp
      · rw [decide_eq_false (show ¬ s = i by omega), Bool.or_false, show decide (i < s) = decide (i < s + 1) by rw [decide_eq_decide]; omega]
theorem rdeclared_eq (c : List S54) (hc : c.length ≤ 10) {k : Nat} (hk : 20 ≤ k) : ∃ D : Nat, trustquorumref06_Declared.f k c = some (D : Int) ∧ D < 1024 ∧ ∀ i, i < 10 → D.testBit i = dcl c i := by
  unfold trustquorumref06_Declared.f
  exact rdecl_loop c hc c.length 0 0 k (by omega) (by omega) (by omega) (fun i _ => by rw [Nat.zero_testBit]; simp)
theorem rnodes_loop (m : Nat) (hm : m < 1024) (r : Nat) : ∀ (s k : Nat) (l : List Int), s + r = 10 → r + 1 ≤ k → l.length ≤ s → (∀ x ∈ l, ∃ i : Nat, x = (i : Int) ∧ i < 10 ∧ m.testBit i = true) → (∀ i : Nat, i < s → m.testBit i = true → (i : Int) ∈ l) →
    ∃ l', trustquorumref01_Nodes.l0 k (m : Int) l (s : Int) = some l' ∧ l'.length ≤ 10 ∧ (∀ x ∈ l', ∃ i : Nat, x = (i : Int) ∧ i < 10 ∧ m.testBit i = true) ∧ (∀ i : Nat, i < 10 → m.testBit i = true → (i : Int) ∈ l') := by
  induction r with
  | zero =>
    intro s k l h1 hk hl h2 h3
    obtain ⟨k, rfl⟩ : ∃ q, k = q + 1 := ⟨k - 1, by omega⟩
    exact ⟨l, by rw [trustquorumref01_Nodes.l0, if_neg (by omega)], by omega, h2, fun i hi => h3 i (by omega)⟩
  | succ r ih =>
    intro s k l h1 hk hl h2 h3
    obtain ⟨k, rfl⟩ : ∃ q, k = q + 1 := ⟨k - 1, by omega⟩
    rw [trustquorumref01_Nodes.l0, if_pos (by omega), has_ref m hm, tbn m s (by omega), nx s (by omega)]
    simp only [Option.bind_some]
    cases hb : m.testBit s
    · rw [if_neg (by decide)]
      refine ih (s + 1) k l (by omega) (by omega) (by omega) h2 (fun i hi ht => ?_)
      by_cases he : i = s
      · rw [he, hb] at ht; cases ht
      · exact h3 i (by omega) ht
    · rw [if_pos rfl, if_pos (by omega)]
      refine ih (s + 1) k (l ++ [(s : Int)]) (by omega) (by omega) (by rw [List.length_append]; simp only [List.length_cons, List.length_nil]; omega) (fun x hx => ?_) (fun i hi ht => ?_)
      · rcases List.mem_append.1 hx with h | h
        · exact h2 x h
        · exact ⟨s, List.mem_singleton.1 h, by omega, hb⟩
      · by_cases he : i = s
        · rw [he]; exact List.mem_append.2 (.inr (List.mem_singleton.2 rfl))
        · exact List.mem_append.2 (.inl (h3 i (by omega) ht))
theorem rnodes_eq (m : Nat) (hm : m < 1024) {k : Nat} (hk : 20 ≤ k) : ∃ l', trustquorumref01_Nodes.f k (m : Int) = some l' ∧ l'.length ≤ 10 ∧ (∀ x ∈ l', ∃ i : Nat, x = (i : Int) ∧ i < 10 ∧ m.testBit i = true) ∧ (∀ i : Nat, i < 10 → m.testBit i = true → (i : Int) ∈ l') := by
  unfold trustquorumref01_Nodes.f
  exact rnodes_loop m hm 10 0 k [] (by omega) (by omega) (by simp) (fun x hx => by cases hx) (fun i hi => by omega)
theorem sub_bit : ∀ m, m < 1024 → ∀ i, i < 10 → m.testBit i = true → m - 2 ^ i = m &&& (1023 - 2 ^ i) ∧ 2 ^ i ≤ m := by decide +kernel
theorem wsub {m i : Nat} (hm : m < 1024) (hi : i < 10) (h : m.testBit i = true) : wrap64 ((m : Int) - shl .i64 1 (i : Int)) = ((m &&& (1023 - 2 ^ i) : Nat) : Int) := by
  obtain ⟨h1, h2⟩ := sub_bit m hm i hi h
  rw [shl_eq i hi, ← h1]
  clear h1 h
  generalize 2 ^ i = q at h2
  rw [w64 (by omega) (by omega)]; omega
def Rem : Nat → List Int → Nat → Prop
  | m, [], g => m = g
  | m, x :: l, g => ∃ i : Nat, i < 10 ∧ x = (i : Int) ∧ m.testBit i = true ∧ Rem (m &&& (1023 - 2 ^ i)) l g
theorem rgreat_loop (l : List Int) (hl : l.length ≤ 3000) (g : Nat) (r : Nat) : ∀ (s k m : Nat), s + r = l.length → r + 1 ≤ k → m < 1024 → Rem m (l.drop s) g → trustquorumref09_Greatest.l0 k (m : Int) l (l.length : Int) (s : Int) = some (g : Int) := by
  induction r with
  | zero =>
    intro s k m h1 hk hm h
    obtain ⟨k, rfl⟩ : ∃ q, k = q + 1 := ⟨k - 1, by omega⟩
    rw [List.drop_of_length_le (by omega), Rem] at h
    rw [trustquorumref09_Greatest.l0, if_neg (by omega), h]
  | succ r ih =>
    intro s k m h1 hk hm h
    obtain ⟨k, rfl⟩ : ∃ q, k = q + 1 := ⟨k - 1, by omega⟩
    have hs : s < l.length := by omega
    rw [List.drop_eq_getElem_cons hs, Rem] at h
    obtain ⟨i, i1, i2, i3, i4⟩ := h
    rw [trustquorumref09_Greatest.l0, if_pos (by omega), if_pos (by omega), if_pos (by omega), rd_at l s hs, i2, if_pos (by omega), wsub hm i1 i3, nx s (by omega)]
    exact ih (s + 1) k _ (by omega) (by omega) (Nat.lt_of_le_of_lt Nat.and_le_left hm) i4
theorem relim_inner {c : List S54} (hc : Cfg c) (m : Nat) (hm : m < 1024) (acc : List Int) (ha : acc.length ≤ 2000) (l : List Int) (hl : l.length ≤ 10) (h2 : ∀ x ∈ l, ∃ i : Nat, x = (i : Int) ∧ i < c.length ∧ i < 10 ∧ m.testBit i = true) (K : Nat) (hK : 5900 ≤ K) (r : Nat) :
    ∀ (s k : Nat), s + r = l.length → K + r + 2 ≤ k → (∀ j, (h : j < l.length) → j < s → satT (tr c (l[j]'h).toNat) m = true) →
    (∃ i k' : Nat, K ≤ k' ∧ trustquorumref09_Elimination.l1 k (m : Int) acc false l (l.length : Int) (s : Int) c = trustquorumref09_Elimination.l0 k' (((m &&& (1023 - 2 ^ i) : Nat)) : Int) (acc ++ [(i : Int)]) true c ∧ i < c.length ∧ i < 10 ∧ m.testBit i = true ∧ satT (tr c i) m = false) ∨ (trustquorumref09_Elimination.l1 k (m : Int) acc false l (l.length : Int) (s : Int) c = some acc ∧ ∀ x ∈ l, satT (tr c x.toNat) m = true) := by
  induction r with
  | zero =>
    intro s k h1 hk hd
    obtain ⟨k, rfl⟩ : ∃ q, k = q + 2 := ⟨k - 2, by omega⟩
    refine .inr ⟨by rw [trustquorumref09_Elimination.l1, if_neg (by omega), trustquorumref09_Elimination.l0, if_neg (by decide)], fun x hx => ?_⟩
    obtain ⟨j, hj, rfl⟩ := List.getElem_of_mem hx
    exact hd j hj (by omega)
  | succ r ih =>
    intro s k h1 hk hd
    obtain ⟨k, rfl⟩ : ∃ q, k = q + 1 := ⟨k - 1, by omega⟩
    have hs : s < l.length := by omega
    obtain ⟨i, e, i1, i2, i3⟩ := h2 _ (List.getElem_mem hs)
    have hfu := hc.fu i i1
    have hsat := rsatisfied_eq (tr c i) m hm (k := k) (by omega) (by omega)
    unfold tr at hsat
    rw [trustquorumref09_Elimination.l1, if_pos (by omega), if_pos (by omega), if_pos (by omega), rd_at l s hs, nx s (by omega), e, if_pos (by omega), if_pos (by omega), hsat]
    simp only [Option.bind_some]
    cases hq : satT (tr c i) m
    · unfold tr at hq
      rw [hq, if_neg (by decide), if_pos (by omega), wsub hm i2 i3]
      exact .inl ⟨i, k, by omega, rfl, i1, i2, i3, hq⟩
    · have hq' := hq
      unfold tr at hq'
      rw [hq', if_pos rfl]
      refine ih (s + 1) k (by omega) (by omega) (fun j hj hjs => ?_)
      by_cases he : j = s
      · subst he; rw [e, Int.toNat_natCast]; exact hq
      · exact hd j hj (by omega)
theorem relim_loop {c : List S54} (hc : Cfg c) (m0 : Nat) (N : Nat) : ∀ (m k : Nat) (l : List Int), m ≤ N → m < 1024 → 6000 + 20 * N ≤ k → l.length + N ≤ 2000 →
    (∀ i, i < 10 → m.testBit i = true → m0.testBit i = true ∧ dcl c i = true) →
    (∀ s, s < 1024 → (∀ i, i < 10 → s.testBit i = true → m0.testBit i = true ∧ dcl c i = true ∧ satT (tr c i) s = true) → ∀ i, i < 10 → s.testBit i = true → m.testBit i = true) →
    ∃ (g : Nat) (l2 : List Int), trustquorumref09_Elimination.l0 k (m : Int) l true c = some (l ++ l2) ∧ l2.length ≤ N ∧ Rem m l2 g ∧ IsG c m0 g := by
  induction N with
  | zero =>
    intro m k l hN hm hk hl h1 h2
    obtain ⟨k, rfl⟩ : ∃ q, k = q + 1 := ⟨k - 1, by omega⟩
    obtain ⟨ns, n1, n2, n3, n4⟩ := rnodes_eq m hm (k := k) (by omega)
    obtain rfl : m = 0 := by omega
    rw [trustquorumref09_Elimination.l0, if_pos rfl, n1]
    simp only [Option.bind_some]
    rcases relim_inner hc 0 hm l (by omega) ns n2 (fun x hx => by obtain ⟨i, _, _, h⟩ := n3 x hx; rw [Nat.zero_testBit] at h; cases h) 5900 (Nat.le_refl _) ns.length 0 k (by omega) (by omega) (fun j _ hj => by omega) with ⟨i, _, _, _, _, _, h, _⟩ | ⟨h, h'⟩
    · rw [Nat.zero_testBit] at h; cases h
    · exact ⟨0, [], by rw [List.append_nil]; exact h, Nat.le_refl _, rfl, by omega, (fun i _ h => by rw [Nat.zero_testBit] at h; cases h), h2⟩
  | succ N ih =>
    intro m k l hN hm hk hl h1 h2
    obtain ⟨k, rfl⟩ : ∃ q, k = q + 1 := ⟨k - 1, by omega⟩
    obtain ⟨ns, n1, n2, n3, n4⟩ := rnodes_eq m hm (k := k) (by omega)
    rw [trustquorumref09_Elimination.l0, if_pos rfl, n1]
    simp only [Option.bind_some]
    rcases relim_inner hc m hm l (by omega) ns n2 (fun x hx => by obtain ⟨i, a, b, d⟩ := n3 x hx; exact ⟨i, a, dcl_in (h1 i b d).2, b, d⟩) (6000 + 20 * N) (by omega) ns.length 0 k (by omega) (by omega) (fun j _ hj => by omega) with ⟨i, k', hk', h, i1, i2, i3, i4⟩ | ⟨h, h'⟩
    · replace h : trustquorumref09_Elimination.l1 k (m : Int) l false ns (ns.length : Int) 0 c = _ := h
      rw [h]
      have hp := pow_lt i i2
      have bit : ∀ j, j < 10 → (m &&& (1023 - 2 ^ i)).testBit j = (m.testBit j && !decide (i = j)) := fun j hj => by
        have := Nat.testBit_two_pow_sub_succ (x := 2 ^ i) (n := 10) (by omega) j
        rw [Nat.testBit_and, show 1023 - 2 ^ i = 2 ^ 10 - (2 ^ i + 1) by omega, this, decide_eq_true hj, Nat.testBit_two_pow, Bool.true_and]
      have hlt : m &&& (1023 - 2 ^ i) < m := by
        obtain ⟨a, b⟩ := sub_bit m hm i i2 i3
        have : 0 < 2 ^ i := Nat.two_pow_pos i
        omega
      obtain ⟨g, l2, e, e1, e2, e3⟩ := ih (m &&& (1023 - 2 ^ i)) k' (l ++ [(i : Int)]) (by omega) (by omega) (by omega) (by rw [List.length_append]; simp only [List.length_cons, List.length_nil]; omega) (fun j hj hb => by
          rw [bit j hj, Bool.and_eq_true] at hb
          exact h1 j hj hb.1) (fun s hs hsa j hj hb => by
          have hjm := h2 s hs hsa j hj hb
          rw [bit j hj, hjm, Bool.true_and]
          by_cases he : i = j
          · subst he
            have hsat := (hsa i hj hb).2.2
            have := satT_mono (tb_of (fun q hq hqb => h2 s hs hsa q hq hqb)) (tr c i) hsat
            rw [this] at i4; cases i4
          · rw [decide_eq_false he]; rfl)
      exact ⟨g, (i : Int) :: l2, by rw [e, List.append_assoc]; rfl, by rw [List.length_cons]; omega, ⟨i, i2, rfl, i3, e2⟩, e3⟩
    · refine ⟨m, [], by rw [List.append_nil]; exact h, by simp, rfl, hm, fun i hi hb => ⟨(h1 i hi hb).1, (h1 i hi hb).2, ?_⟩, h2⟩
      have := h' _ (n4 i hi hb)
      rw [Int.toNat_natCast] at this
      exact this
theorem rgreatest_eq {c : List S54} (hc : Cfg c) (m : Nat) (hm : m < 1024) {k : Nat} (hk : 27000 ≤ k) : ∃ g : Nat, trustquorumref09_Greatest.f k c (m : Int) = some (g : Int) ∧ IsG c m g := by
  obtain ⟨D, hD, hD1, hD2⟩ := rdeclared_eq c hc.len (k := k) (by omega)
  have hlt : m &&& D < 1024 := Nat.and_lt_two_pow (n := 10) m hD1
  obtain ⟨g, l', hg, hl, hR, hG⟩ := relim_loop hc m (m &&& D) (m &&& D) k [] (Nat.le_refl _) hlt (by omega) (by simp only [List.length_nil]; omega)
    (fun i hi h => by rw [Nat.testBit_and, Bool.and_eq_true, hD2 i hi] at h; exact h)
    (fun s hs h i hi hb => by rw [Nat.testBit_and, hD2 i hi, (h i hi hb).1, (h i hi hb).2.1]; rfl)
  refine ⟨g, ?_, hG⟩
  unfold trustquorumref09_Greatest.f trustquorumref09_Elimination.f
  rw [rvalid_eq, decide_eq_true (show 0 ≤ (m : Int) ∧ (m : Int) < 1024 by omega)]
  simp only [Option.bind_some, if_true]
  rw [hD]
  simp only [Option.bind_some]
  rw [and_eq m D hm hD1, hg]
  simp only [Option.bind_some, List.nil_append]
  exact rgreat_loop l' (by omega) g l'.length 0 k _ (by omega) (by omega) hlt hR
def Closed (c : List S54) (s : Nat) : Prop := ∀ i, i < 10 → s.testBit i = true → dcl c i = true ∧ satT (tr c i) s = true
theorem rquo_loop {c : List S54} (hc : Cfg c) (m : Nat) (hm : m < 1024) (l : List Int) (hl : l.length ≤ 10) (h2 : ∀ x ∈ l, ∃ i : Nat, x = (i : Int) ∧ i < c.length ∧ i < 10 ∧ m.testBit i = true) (r : Nat) :
    ∀ (s k : Nat), s + r = l.length → 5900 + r ≤ k → ∃ b, trustquorumref09_Quorum.l0 k (m : Int) l (l.length : Int) (s : Int) c = some b ∧ ((∀ i, i < 10 → m.testBit i = true → satT (tr c i) m = true) → b = true) := by
  induction r with
  | zero =>
    intro s k h1 hk
    obtain ⟨k, rfl⟩ : ∃ q, k = q + 1 := ⟨k - 1, by omega⟩
    exact ⟨true, by rw [trustquorumref09_Quorum.l0, if_neg (by omega)], fun _ => rfl⟩
  | succ r ih =>
    intro s k h1 hk
    obtain ⟨k, rfl⟩ : ∃ q, k = q + 1 := ⟨k - 1, by omega⟩
    have hs : s < l.length := by omega
    obtain ⟨i, e, i1, i2, i3⟩ := h2 _ (List.getElem_mem hs)
    have hfu := hc.fu i i1
    have hsat := rsatisfied_eq (tr c i) m hm (k := k) (by omega) (by omega)
    unfold tr at hsat
    rw [trustquorumref09_Quorum.l0, if_pos (by omega), if_pos (by omega), if_pos (by omega), rd_at l s hs, nx s (by omega), e, if_pos (by omega), if_pos (by omega), hsat]
    simp only [Option.bind_some]
    cases hq : satT (rd_T54 c (i : Int)).f1 m
    · rw [if_neg (by decide)]
      exact ⟨false, rfl, fun h => by have := h i i2 i3; unfold tr at this; rw [hq] at this; cases this⟩
    · rw [if_pos rfl]
      exact ih (s + 1) k (by omega) (by omega)
theorem rquorum_eq {c : List S54} (hc : Cfg c) (m : Nat) (hm : m < 1024) {k : Nat} (hk : 6000 ≤ k) : ∃ b, trustquorumref09_Quorum.f k c (m : Int) = some b ∧ (b = true → m ≠ 0) ∧ (m ≠ 0 → Closed c m → b = true) := by
  obtain ⟨k, rfl⟩ : ∃ q, k = q + 1 := ⟨k - 1, by omega⟩
  obtain ⟨D, hD, hD1, hD2⟩ := rdeclared_eq c hc.len (k := k + 1) (by omega)
  unfold trustquorumref09_Quorum.f
  rw [rvalid_eq, decide_eq_true (show 0 ≤ (m : Int) ∧ (m : Int) < 1024 by omega)]
  simp only [Option.bind_some, if_true]
  by_cases h0 : m = 0
  · rw [if_pos (by omega), trustquorumref09_Quorum.j0, if_pos rfl]
    exact ⟨false, rfl, (fun h => by cases h), fun h => absurd h0 h⟩
  · rw [if_neg (by omega), hD]
    simp only [Option.bind_some]
    rw [and_eq m D hm hD1, trustquorumref09_Quorum.j0]
    cases hq : (((m &&& D : Nat) : Int) != (m : Int))
    · have hmD : m &&& D = m := by
        have := bne_eq_false_iff_eq.1 hq
        omega
      have hin : ∀ i, i < 10 → m.testBit i = true → dcl c i = true := fun i hi hb => by
        have : (m &&& D).testBit i = true := by rw [hmD]; exact hb
        rw [Nat.testBit_and, Bool.and_eq_true, hD2 i hi] at this
        exact this.2
      obtain ⟨ns, n1, n2, n3, n4⟩ := rnodes_eq m hm (k := k) (by omega)
      rw [if_neg (by decide), n1]
      simp only [Option.bind_some]
      obtain ⟨b, e, hb⟩ := rquo_loop hc m hm ns n2 (fun x hx => by obtain ⟨i, a, b, d⟩ := n3 x hx; exact ⟨i, a, dcl_in (hin i b d), b, d⟩) ns.length 0 k (by omega) (by omega)
      exact ⟨b, e, fun _ => h0, fun _ hC => hb (fun i hi ht => (hC i hi ht).2)⟩
    · rw [if_pos rfl]
      refine ⟨false, rfl, (fun h => by cases h), fun _ hC => ?_⟩
      have : m &&& D = m := by
        refine Nat.eq_of_testBit_eq fun i => ?_
        rw [Nat.testBit_and]
        by_cases hi : i < 10
        · cases hb : m.testBit i
          · rfl
          · rw [hD2 i hi, (hC i hi hb).1]; rfl
        · rw [Nat.testBit_lt_two_pow (Nat.lt_of_lt_of_le (show m < 2 ^ 10 by omega) (Nat.pow_le_pow_right (by omega) (by omega)))]; rfl
      rw [this, bne_self_eq_false] at hq
      cases hq

def low (n : Int) : Int := if n ≤ 0 then n else wrap64 (n - 1)
theorem low_le (n : Int) : (n ≤ 0 → low n = n) ∧ (0 < n → low n ≤ n - 1) := by
  unfold low
  refine ⟨fun h => by rw [if_pos h], fun h => ?_⟩
  rw [if_neg (by omega)]; unfold wrap64; omega
theorem low_eq (n : Int) : trustquorumref13_lower.f n = some (low n) := by
  unfold trustquorumref13_lower.f low
  split <;> rfl
def lesN : List Int → Nat → Int → Int × List Int
  | [], _, th => (th, [])
  | k :: l, s, th => if tb s k = true then lesN l s (low th) else ((lesN l s th).1, k :: (lesN l s th).2)
mutual
def lesT : S48 → Nat → S48
  | ⟨th, ns, inn⟩, s => ⟨(lesL inn s (lesN ns s th).1).1, (lesN ns s th).2, (lesL inn s (lesN ns s th).1).2⟩
def lesL : List S48 → Nat → Int → Int × List S48
  | [], _, th => (th, [])
  | t :: l, s, th => if (lesT t s).f0 ≤ 0 then lesL l s (low th) else ((lesL l s th).1, lesT t s :: (lesL l s th).2)
end
theorem lesN_le : ∀ (l : List Int) (s : Nat) (th : Int), th ≤ 0 → (lesN l s th).1 ≤ 0
  | [], _, _, h => by rw [lesN]; exact h
  | k :: l, s, th, h => by
    rw [lesN]
    split
    · exact lesN_le l s _ (by rw [(low_le th).1 h]; exact h)
    · exact lesN_le l s th h
theorem lesL_le : ∀ (l : List S48) (s : Nat) (th : Int), th ≤ 0 → (lesL l s th).1 ≤ 0
  | [], _, _, h => by rw [lesL]; exact h
  | t :: l, s, th, h => by
    rw [lesL]
    split
    · exact lesL_le l s _ (by rw [(low_le th).1 h]; exact h)
    · exact lesL_le l s th h
theorem lesN_sat {s A B : Nat} (hAB : ∀ k, tb A k = true → tb s k = false → tb B k = true) : ∀ (l : List Int) (th : Int), 0 < (lesN l s th).1 → (lesN l s th).1 - cntN (lesN l s th).2 B ≤ th - cntN l A
  | [], th, _ => by rw [lesN, cntN, cntN]; exact Int.le_refl _
  | k :: l, th, h => by
    rw [lesN] at h ⊢
    by_cases hk : tb s k = true
    · rw [if_pos hk] at h ⊢
      have h1 := lesN_sat hAB l (low th) h
      have h2 := low_le th
      have h3 : 0 < th := by
        rcases Int.lt_or_le 0 th with h | h4
        · exact h
        · have := lesN_le l s (low th) (by rw [h2.1 h4]; exact h4); omega
      have h4 := h2.2 h3
      rw [cntN]
      split <;> omega
    · rw [if_neg hk] at h ⊢
      have h1 := lesN_sat hAB l th h
      rw [cntN, cntN]
      by_cases ha : tb A k = true
      · rw [if_pos ha, if_pos (hAB k ha (Bool.eq_false_iff.2 hk))]
        show (lesN l s th).1 - _ ≤ _
        omega
      · rw [if_neg ha]
        show (lesN l s th).1 - _ ≤ _
        split <;> omega
mutual
theorem lesT_sat {s A B : Nat} (hAB : ∀ k, tb A k = true → tb s k = false → tb B k = true) : ∀ t : S48, satT t A = true → 0 < (lesT t s).f0 → satT (lesT t s) B = true
  | ⟨th, ns, inn⟩, hs, h0 => by
    rw [satT, decide_eq_true_eq] at hs
    rw [lesT] at h0 ⊢
    have h0 : 0 < (lesL inn s (lesN ns s th).1).1 := h0
    have h1 := lesL_sat hAB inn (lesN ns s th).1 h0
    have h2 : 0 < (lesN ns s th).1 := by
      rcases Int.lt_or_le 0 (lesN ns s th).1 with h | h
      · exact h
      · have := lesL_le inn s _ h; omega
    have h3 := lesN_sat hAB ns th h2
    rw [satT, decide_eq_true_eq]
    omega
theorem lesL_sat {s A B : Nat} (hAB : ∀ k, tb A k = true → tb s k = false → tb B k = true) : ∀ (l : List S48) (th : Int), 0 < (lesL l s th).1 → (lesL l s th).1 - satL (lesL l s th).2 B ≤ th - satL l A
  | [], th, _ => by rw [lesL, satL, satL]; exact Int.le_refl _
  | t :: l, th, h => by
    rw [lesL] at h ⊢
    by_cases hk : (lesT t s).f0 ≤ 0
    · rw [if_pos hk] at h ⊢
      have h1 := lesL_sat hAB l (low th) h
      have h2 := low_le th
      have h3 : 0 < th := by
        rcases Int.lt_or_le 0 th with h | h4
        · exact h
        · have := lesL_le l s (low th) (by rw [h2.1 h4]; exact h4); omega
      have h4 := h2.2 h3
      rw [satL]
      split <;> omega
    · rw [if_neg hk] at h ⊢
      have h1 := lesL_sat hAB l th h
      rw [satL, satL]
      by_cases ha : satT t A = true
      · rw [if_pos ha, if_pos (lesT_sat hAB t ha (by omega))]
        show (lesL l s th).1 - _ ≤ _
        omega
      · rw [if_neg ha]
        show (lesL l s th).1 - _ ≤ _
        split <;> omega
end
theorem lesN_len : ∀ (l : List Int) (s : Nat) (th : Int), (lesN l s th).2.length ≤ l.length
  | [], _, _ => by rw [lesN]; exact Nat.le_refl _
  | k :: l, s, th => by
    rw [lesN]
    split
    · have := lesN_len l s (low th); rw [List.length_cons]; omega
    · have := lesN_len l s th
      show ((k :: (lesN l s th).2).length) ≤ _
      rw [List.length_cons, List.length_cons]; omega
mutual
theorem lesT_fu : ∀ (t : S48) (s : Nat), fuT (lesT t s) ≤ fuT t
  | ⟨th, ns, inn⟩, s => by
    have h1 := lesN_len ns s th
    have h2 := lesL_fu inn s (lesN ns s th).1
    rw [lesT, fuT, fuT]; omega
theorem lesL_fu : ∀ (l : List S48) (s : Nat) (th : Int), fuL (lesL l s th).2 ≤ fuL l
  | [], _, _ => by rw [lesL]; exact Nat.le_refl _
  | t :: l, s, th => by
    rw [lesL]
    split
    · have := lesL_fu l s (low th); rw [fuL]; omega
    · have h1 := lesL_fu l s th
      have h2 := lesT_fu t s
      show fuL (lesT t s :: (lesL l s th).2) ≤ _
      rw [fuL, fuL]; omega
end
theorem s_eta (t : S48) : (⟨t.f0, t.f1, t.f2⟩ : S48) = t := by cases t; rfl
theorem less_eq (m : Nat) (hm : m < 1024) (N : Nat) : ∀ (t : S48) (k : Nat), fuT t ≤ N → fuT t ≤ 1000000 → fuT t ≤ k → trustquorumref13_less.f k t.f0 t.f1 t.f2 (m : Int) = some ((lesT t m).f0, (lesT t m).f1, (lesT t m).f2) := by
  induction N with
  | zero => intro t k h; rw [fuT_eq] at h; omega
  | succ N ih =>
    intro t k h hb hk
    obtain ⟨th, ns, inn⟩ := t
    rw [fuT] at h hb hk
    have hl := fuL_len inn
    have key : ∀ (r s : Nat) (t0 : Int) (acc : List Int) (ac2 : List S48) (k : Nat), s + r = inn.length → fuL (inn.drop s) + 2 ≤ k → ac2.length + r ≤ 2000000 → trustquorumref13_less.l1 k (m : Int) inn (inn.length : Int) (s : Int) t0 acc ac2 = some ((lesL (inn.drop s) m t0).1, acc, ac2 ++ (lesL (inn.drop s) m t0).2) := by
      intro r
      induction r with
      | zero =>
        intro s t0 acc ac2 k h1 hk _
        obtain ⟨k, rfl⟩ : ∃ q, k = q + 1 := ⟨k - 1, by omega⟩
        rw [trustquorumref13_less.l1, if_neg (by omega), List.drop_of_length_le (by omega), lesL, List.append_nil]
      | succ r ihr =>
        intro s t0 acc ac2 k h1 hk ha
        obtain ⟨k, rfl⟩ : ∃ q, k = q + 1 := ⟨k - 1, by omega⟩
        have hs : s < inn.length := by omega
        have hd := fuL_drop inn s hs
        have hle := fuL_le inn s
        rw [trustquorumref13_less.l1, if_pos (by omega), if_pos (by omega), if_pos (by omega), rdS_at inn s hs, ih inn[s] k (by omega) (by omega) (by omega)]
        simp only [Option.bind_some]
        rw [nx s (by omega), List.drop_eq_getElem_cons hs, lesL]
        by_cases hq : (lesT inn[s] m).f0 ≤ 0
        · rw [if_pos hq, if_pos hq, low_eq]
          simp only [Option.bind_some]
          exact ihr (s + 1) (low t0) acc ac2 k (by omega) (by omega) (by omega)
        · rw [if_neg hq, if_neg hq, if_pos (by omega), ihr (s + 1) t0 acc _ k (by omega) (by omega) (by rw [List.length_append]; simp only [List.length_cons, List.length_nil]; omega), List.append_assoc, s_eta]
          rfl
    have nodes : ∀ (r s : Nat) (t0 : Int) (acc : List Int) (k : Nat), s + r = ns.length → r + fuL inn + 3 ≤ k → acc.length + r ≤ 2000000 → trustquorumref13_less.l0 k (m : Int) ns (ns.length : Int) (s : Int) th ns inn t0 acc = some ((lesL inn m (lesN (ns.drop s) m t0).1).1, acc ++ (lesN (ns.drop s) m t0).2, (lesL inn m (lesN (ns.drop s) m t0).1).2) := by
      intro r
      induction r with
      | zero =>
        intro s t0 acc k h1 hk ha
        obtain ⟨k, rfl⟩ : ∃ q, k = q + 1 := ⟨k - 1, by omega⟩
        have h0 := key inn.length 0 t0 acc [] k (by omega) (by rw [List.drop_zero]; omega) (by simp only [List.length_nil]; omega)
        rw [List.drop_zero, List.nil_append] at h0
        rw [trustquorumref13_less.l0, if_neg (by omega), List.drop_of_length_le (by omega), lesN, List.append_nil]
        exact h0
      | succ r ihr =>
        intro s t0 acc k h1 hk ha
        obtain ⟨k, rfl⟩ : ∃ q, k = q + 1 := ⟨k - 1, by omega⟩
        have hs : s < ns.length := by omega
        rw [trustquorumref13_less.l0, if_pos (by omega), if_pos (by omega), if_pos (by omega), rd_at ns s hs, has_ref m hm]
        simp only [Option.bind_some]
        rw [nx s (by omega), List.drop_eq_getElem_cons hs, lesN]
        cases hq : tb m ns[s]
        · have hF : ¬ (false = true) := by decide
          rw [if_neg hF, if_neg hF, if_pos (by omega), ihr (s + 1) t0 _ k (by omega) (by omega) (by rw [List.length_append]; simp only [List.length_cons, List.length_nil]; omega), List.append_assoc]
          rfl
        · rw [if_pos rfl, if_pos rfl, low_eq]
          simp only [Option.bind_some]
          exact ihr (s + 1) (low t0) acc k (by omega) (by omega) (by omega)
    obtain ⟨k, rfl⟩ : ∃ q, k = q + 1 := ⟨k - 1, by omega⟩
    show trustquorumref13_less.f (k + 1) th ns inn (m : Int) = _
    have h0 := nodes ns.length 0 th [] k (by omega) (by omega) (by simp only [List.length_nil]; omega)
    rw [List.drop_zero, List.nil_append] at h0
    rw [trustquorumref13_less.f, lesT]
    exact h0
def delT (t : S48) (v : Int) (s : Nat) : S48 := if (lesT t s).f0 ≤ 0 then ⟨1, [v], []⟩ else ⟨(lesT t s).f0, (lesT t s).f1, (lesT t s).f2⟩
theorem delT_eq (t : S48) (v : Int) (m : Nat) (hm : m < 1024) {k : Nat} (hb : fuT t ≤ 1000000) (hk : fuT t ≤ k) : trustquorumref13_Trust.f k t.f0 t.f1 t.f2 v (m : Int) = some ((delT t v m).f0, (delT t v m).f1, (delT t v m).f2) := by
  unfold trustquorumref13_Trust.f delT
  rw [rvalid_eq, decide_eq_true (show 0 ≤ (m : Int) ∧ (m : Int) < 1024 by omega), less_eq m hm _ t k (Nat.le_refl _) hb hk]
  simp only [Option.bind_some, if_true]
  split <;> rfl
theorem delT_fu (t : S48) (v : Int) (m : Nat) (h : fuT t ≤ 5800) : fuT (delT t v m) ≤ 5800 := by
  unfold delT
  split
  · rw [fuT, fuL]; simp
  · rw [fu_eta]; exact Nat.le_trans (lesT_fu t m) h
theorem delT_sat {s A B : Nat} (hAB : ∀ k, tb A k = true → tb s k = false → tb B k = true) (t : S48) (v : Int) (hv : tb B v = true) (h : satT t A = true) : satT (delT t v s) B = true := by
  unfold delT
  split
  · rw [satT, cntN, cntN, satL, if_pos hv]; rfl
  · rename_i h0
    have := lesT_sat hAB t h (by omega)
    rw [s_eta]; exact this

theorem subsets_eq (n : Nat) (n0 : 1 ≤ n) (n1 : n ≤ 6) {k : Nat} (hk : 700 ≤ k) : ∃ l : List Int, trustquorumref01_Subsets.f k ((2 ^ n - 1 : Nat) : Int) = some l ∧ l.length ≤ 100 ∧ (∀ x ∈ l, ∃ m : Nat, x = (m : Int) ∧ m ≤ 2 ^ n - 1) ∧ (∀ m : Nat, m ≤ 2 ^ n - 1 → (m : Int) ∈ l) := by
  have key : ∀ n, n < 7 → 1 ≤ n → ∃ l : List Nat, trustquorumref01_Subsets.f 700 ((2 ^ n - 1 : Nat) : Int) = some (l.map Int.ofNat) ∧ l.length ≤ 100 ∧ (∀ x ∈ l, x ≤ 2 ^ n - 1) ∧ (∀ m, m < 2 ^ n → m ∈ l) := by
    intro n hn h1
    refine ⟨(((trustquorumref01_Subsets.f 700 ((2 ^ n - 1 : Nat) : Int)).getD []).map Int.toNat), ?_⟩
    revert h1
    revert n
    decide +kernel
  obtain ⟨l, e, h1, h2, h3⟩ := key n (by omega) n0
  refine ⟨l.map Int.ofNat, at_rounds (g := fun k => trustquorumref01_Subsets.f k ((2 ^ n - 1 : Nat) : Int)) (fun k => trustquorumref01_Subsets.mono _ k) hk e, by rw [List.length_map]; exact h1, fun x hx => ?_, fun m hm => ?_⟩
  · obtain ⟨m, hm, rfl⟩ := List.mem_map.1 hx
    exact ⟨m, rfl, h2 m hm⟩
  · exact List.mem_map.2 ⟨m, h3 m (by have : 0 < 2 ^ n := Nat.two_pow_pos n; omega), rfl⟩
theorem members_eq (c : List S54) (n1 : c.length ≤ 6) : trustquorumref12_members.f c = some ((2 ^ c.length - 1 : Nat) : Int) := by
  unfold trustquorumref12_members.f
  have h := pow_lt c.length (by omega)
  have h0 : 0 < 2 ^ c.length := Nat.two_pow_pos _
  rw [shl_eq c.length (by omega), w64 (by omega) (by omega)]
  congr 1; omega
theorem apart_loop {c : List S54} (hc : Cfg c) (n0 : 1 ≤ c.length) (n1 : c.length ≤ 6) (l : List Int) (hl : l.length ≤ 100) (hlm : ∀ x ∈ l, ∃ m : Nat, x = (m : Int) ∧ m ≤ 2 ^ c.length - 1) (r : Nat) : ∀ (s k : Nat), s + r = l.length → 27100 + r ≤ k →
    ∃ a b, trustquorumref12_apart.l0 k l (l.length : Int) (s : Int) c = some (a, b) ∧ (a = 0 → ∀ (i : Nat) (hi : i < l.length), s ≤ i → ∀ q : Nat, l[i]'hi = (q : Int) → q ≠ 0 → Closed c q → ∀ g, IsG c (2 ^ c.length - 1 - q) g → g = 0) := by
  have hp := pow_lt c.length (by omega)
  have hp0 : 0 < 2 ^ c.length := Nat.two_pow_pos _
  induction r with
  | zero =>
    intro s k h1 hk
    obtain ⟨k, rfl⟩ : ∃ q, k = q + 1 := ⟨k - 1, by omega⟩
    exact ⟨0, 0, by rw [trustquorumref12_apart.l0, if_neg (by omega)], fun _ i hi hs => by omega⟩
  | succ r ih =>
    intro s k h1 hk
    obtain ⟨k, rfl⟩ : ∃ q, k = q + 1 := ⟨k - 1, by omega⟩
    have hs : s < l.length := by omega
    obtain ⟨m, e, hm⟩ := hlm _ (List.getElem_mem hs)
    obtain ⟨b, hb, hb1, hb2⟩ := rquorum_eq hc m (by omega) (k := k) (by omega)
    obtain ⟨a', b', hn, hnx⟩ := ih (s + 1) k (by omega) (by omega)
    rw [trustquorumref12_apart.l0, if_pos (by omega), if_pos (by omega), if_pos (by omega), rd_at l s hs, nx s (by omega), e, hb]
    simp only [Option.bind_some]
    cases b
    · rw [if_neg (by decide)]
      refine ⟨a', b', hn, fun h0 i hi his q hq q0 hC g hG => ?_⟩
      by_cases hii : i = s
      · subst hii
        rw [e] at hq
        obtain rfl : m = q := by omega
        have := hb2 q0 hC
        cases this
      · exact hnx h0 i hi (by omega) q hq q0 hC g hG
    · obtain ⟨g1, hg1, hG1⟩ := rgreatest_eq hc (2 ^ c.length - 1 - m) (by omega) (k := k) (by omega)
      rw [if_pos rfl, members_eq c n1]
      simp only [Option.bind_some]
      rw [w64 (by omega) (by omega), show ((2 ^ c.length - 1 : Nat) : Int) - (m : Int) = ((2 ^ c.length - 1 - m : Nat) : Int) by omega, hg1]
      simp only [Option.bind_some]
      by_cases hz : g1 = 0
      · rw [if_pos (by omega)]
        refine ⟨a', b', hn, fun h0 i hi his q hq q0 hC g hG => ?_⟩
        by_cases hii : i = s
        · subst hii
          rw [e] at hq
          obtain rfl : m = q := by omega
          refine Nat.eq_of_testBit_eq fun j => ?_
          rw [Nat.zero_testBit]
          by_cases hj : j < 10
          · cases ht : g.testBit j
            · rfl
            · have := hG1.all g hG.lt hG.inn j hj ht
              rw [hz, Nat.zero_testBit] at this; cases this
          · exact Nat.testBit_lt_two_pow (Nat.lt_of_lt_of_le (show g < 2 ^ 10 from hG.lt) (Nat.pow_le_pow_right (by omega) (by omega)))
        · exact hnx h0 i hi (by omega) q hq q0 hC g hG
      · rw [if_neg (by omega)]
        exact ⟨(m : Int), (g1 : Int), rfl, fun h0 => absurd (hb1 rfl) (by omega)⟩
theorem ints0 (l : List Int) {k : Nat} (hk : 1 ≤ k) : trustquorumref01_Same.f k l [] = some (l.length == 0) := by
  obtain ⟨k, rfl⟩ : ∃ q, k = q + 1 := ⟨k - 1, by omega⟩
  unfold trustquorumref01_Same.f
  cases l with
  | nil => rw [if_pos rfl, trustquorumref01_Same.l0, if_neg (by simp)]; rfl
  | cons x l => rw [if_neg (by simp only [List.length_cons, List.length_nil]; omega)]; rfl
theorem same0 (t : S48) {k : Nat} (hk : 5 ≤ k) : ∃ b, trustquorumref02_Same.f k t.f0 t.f1 t.f2 0 [] [] = some b := by
  obtain ⟨k, rfl⟩ : ∃ q, k = q + 3 := ⟨k - 3, by omega⟩
  show ∃ b, trustquorumref02_Same.f ((k + 2) + 1) _ _ _ _ _ _ = _
  rw [trustquorumref02_Same.f]
  have hf : ∀ x, trustquorumref02_Same.j0 (k + 2) true t.f0 t.f1 t.f2 0 x [] = some false := fun x => by
    show trustquorumref02_Same.j0 ((k + 1) + 1) _ _ _ _ _ _ _ = _
    rw [trustquorumref02_Same.j0, if_pos rfl]
  split
  · rw [ints0 _ (by omega)]
    simp only [Option.bind_some]
    split
    · cases h : ((t.f2.length : Int) != (([] : List S48).length : Int))
      · have h2 : (t.f2.length : Int) = 0 := bne_eq_false_iff_eq.1 h
        show ∃ b, trustquorumref02_Same.j0 ((k + 1) + 1) _ _ _ _ _ _ _ = _
        rw [trustquorumref02_Same.j0, if_neg (by decide), h2, trustquorumref02_Same.l0, if_neg (by omega)]
        exact ⟨_, rfl⟩
      · exact ⟨_, hf _⟩
    · exact ⟨_, hf _⟩
  · exact ⟨_, hf _⟩
theorem rcvalid_loop {c : List S54} (hc : Cfg c) (r : Nat) : ∀ (s k : Nat), s + r = c.length → 6000 + r ≤ k → ∃ e, trustquorumref06_Valid.l0 k c (c.length : Int) (s : Int) c = some e := by
  induction r with
  | zero =>
    intro s k h1 hk
    obtain ⟨k, rfl⟩ : ∃ q, k = q + 1 := ⟨k - 1, by omega⟩
    exact ⟨0, by rw [trustquorumref06_Valid.l0, if_neg (by omega)]⟩
  | succ r ih =>
    intro s k h1 hk
    obtain ⟨k, rfl⟩ : ∃ q, k = q + 1 := ⟨k - 1, by omega⟩
    obtain ⟨e, he⟩ := ih (s + 1) k (by omega) (by omega)
    have hf := hc.fu s (by omega)
    unfold tr at hf
    have h0 := hc.len
    rw [trustquorumref06_Valid.l0, if_pos (by omega), if_pos (by omega), if_pos (by omega), nx s (by omega)]
    split
    · rw [refValid_eq (rd_T54 c (s : Int)).f1 (by omega) (by omega), usesref_eq _ (rd_T54 c (s : Int)).f1 k (Nat.le_refl _) (by omega) (by omega)]
      simp only [Option.bind_some]
      split
      · split
        · exact ⟨_, rfl⟩
        · exact ⟨e, he⟩
      · exact ⟨_, rfl⟩
    · obtain ⟨b, hb⟩ := same0 (rd_T54 c (s : Int)).f1 (k := k) (by omega)
      rw [hb]
      simp only [Option.bind_some]
      split
      · exact ⟨e, he⟩
      · exact ⟨_, rfl⟩
theorem holds_eq {c : List S54} (hc : Cfg c) (n0 : 1 ≤ c.length) (n1 : c.length ≤ 6) {k : Nat} (hk : 28000 ≤ k) : ∃ yes e, trustquorumref12_Holds.f k c = some (yes, e) ∧ (yes = true → ∀ q : Nat, q ≤ 2 ^ c.length - 1 → q ≠ 0 → Closed c q → ∀ g, IsG c (2 ^ c.length - 1 - q) g → g = 0) := by
  have hl := hc.len
  obtain ⟨e, he⟩ := rcvalid_loop hc c.length 0 k (by omega) (by omega)
  obtain ⟨l, l1, l2, l3, l4⟩ := subsets_eq c.length n0 n1 (k := k) (by omega)
  obtain ⟨a, b, ha, hab⟩ := apart_loop hc n0 n1 l l2 l3 l.length 0 k (by omega) (by omega)
  have he' : trustquorumref06_Valid.f k c = some e := by
    unfold trustquorumref06_Valid.f
    rw [if_neg (by omega)]; exact he
  unfold trustquorumref12_Holds.f
  rw [he']
  simp only [Option.bind_some]
  split
  · unfold trustquorumref12_apart.f
    rw [members_eq c n1]
    simp only [Option.bind_some]
    rw [l1]
    simp only [Option.bind_some]
    have ha : trustquorumref12_apart.l0 k l (l.length : Int) 0 c = some (a, b) := ha
    rw [ha]
    refine ⟨a == 0, 0, rfl, fun h q hq q0 hC g hG => ?_⟩
    obtain ⟨i, hi, hiq⟩ := List.getElem_of_mem (l4 q hq)
    exact hab (beq_iff_eq.1 h) i hi (by omega) q hiq q0 hC g hG
  · exact ⟨false, e, rfl, fun h => by cases h⟩
theorem rdC_at (l : List S54) (s : Nat) (h : s < l.length) : rd_T54 l (s : Int) = l[s]'h := by unfold rd_T54; simp [List.getD, h]
theorem rdC_last (l : List S54) (x : S54) : rd_T54 (l ++ [x]) (l.length : Int) = x := by unfold rd_T54; simp [List.getD]
theorem rdC_pre (l : List S54) (x : S54) (i : Nat) (h : i < l.length) : rd_T54 (l ++ [x]) (i : Int) = rd_T54 l (i : Int) := by
  unfold rd_T54
  rw [Int.toNat_natCast, List.getD_eq_getElem?_getD, List.getD_eq_getElem?_getD, List.getElem?_append_left h]
def delM (c : List S54) (m i : Nat) : S54 := if m.testBit i = true then ⟨false, ⟨0, [], []⟩⟩ else if dcl c i = true then ⟨dcl c i, ⟨(delT (tr c i) (i : Int) m).f0, (delT (tr c i) (i : Int) m).f1, (delT (tr c i) (i : Int) m).f2⟩⟩ else ⟨dcl c i, ⟨(tr c i).f0, (tr c i).f1, (tr c i).f2⟩⟩
theorem del_loop {c : List S54} (hc : Cfg c) (m : Nat) (hm : m < 1024) (r : Nat) : ∀ (s k : Nat) (o : List S54), s + r = c.length → 5900 + r ≤ k → o.length = s → (∀ i, i < s → rd_T54 o (i : Int) = delM c m i) →
    ∃ d, trustquorumref13_Delete.l0 k (m : Int) c (c.length : Int) (s : Int) o = some d ∧ d.length = c.length ∧ ∀ i, i < c.length → rd_T54 d (i : Int) = delM c m i := by
  induction r with
  | zero =>
    intro s k o h1 hk ho hd
    obtain ⟨k, rfl⟩ : ∃ q, k = q + 1 := ⟨k - 1, by omega⟩
    exact ⟨o, by rw [trustquorumref13_Delete.l0, if_neg (by omega)], by omega, fun i hi => hd i (by omega)⟩
  | succ r ih =>
    intro s k o h1 hk ho hd
    obtain ⟨k, rfl⟩ : ∃ q, k = q + 1 := ⟨k - 1, by omega⟩
    have hl := hc.len
    have hf := hc.fu s (by omega)
    have put : ∀ x : S54, x = delM c m s → ∃ d, trustquorumref13_Delete.l0 k (m : Int) c (c.length : Int) ((s + 1 : Nat) : Int) (o ++ [x]) = some d ∧ d.length = c.length ∧ ∀ i, i < c.length → rd_T54 d (i : Int) = delM c m i := by
      intro x hx
      refine ih (s + 1) k (o ++ [x]) (by omega) (by omega) (by rw [List.length_append]; simp only [List.length_cons, List.length_nil]; omega) (fun i hi => ?_)
      by_cases he : i = s
      · rw [he, ← ho, rdC_last, hx, ho]
      · rw [rdC_pre o x i (by omega)]; exact hd i (by omega)
    rw [trustquorumref13_Delete.l0, if_pos (by omega), if_pos (by omega), if_pos (by omega), has_ref m hm, tbn m s (by omega), nx s (by omega)]
    simp only [Option.bind_some]
    cases hb : m.testBit s
    · rw [if_neg (by decide)]
      have hdc : (rd_T54 c (s : Int)).f0 = dcl c s := rfl
      have htr : (rd_T54 c (s : Int)).f1 = tr c s := rfl
      rw [hdc, htr]
      cases hq : dcl c s
      · rw [if_neg (by decide), if_pos (by omega)]
        exact put _ (by unfold delM; rw [hb, hq, if_neg (by decide), if_neg (by decide)])
      · rw [if_pos rfl, delT_eq (tr c s) (s : Int) m hm (by omega) (by omega)]
        simp only [Option.bind_some]
        rw [if_pos (by omega)]
        exact put _ (by unfold delM; rw [hb, hq, if_neg (by decide), if_pos rfl])
    · rw [if_pos rfl, if_pos (by omega)]
      exact put _ (by unfold delM; rw [hb, if_pos rfl])
theorem delete_eq {c : List S54} (hc : Cfg c) (m : Nat) (hm : m < 1024) {k : Nat} (hk : 6000 ≤ k) : ∃ d, trustquorumref13_Delete.f k c (m : Int) = some d ∧ d.length = c.length ∧ Cfg d ∧ (∀ i, i < c.length → m.testBit i = false → dcl d i = dcl c i ∧ (dcl c i = true → tr d i = delT (tr c i) (i : Int) m)) := by
  have hl := hc.len
  obtain ⟨d, h, h1, h2⟩ := del_loop hc m hm c.length 0 k [] (by omega) (by omega) rfl (fun i hi => by omega)
  have eta : ∀ t : S48, (⟨t.f0, t.f1, t.f2⟩ : S48) = t := fun t => by cases t; rfl
  refine ⟨d, ?_, h1, ⟨by omega, fun i hi => ?_⟩, fun i hi hb => ?_⟩
  · unfold trustquorumref13_Delete.f
    rw [rvalid_eq, decide_eq_true (show 0 ≤ (m : Int) ∧ (m : Int) < 1024 by omega)]
    simp only [Option.bind_some, if_true]
    exact h
  · have hf := hc.fu i (by omega)
    unfold tr
    rw [h2 i (by omega)]
    unfold delM
    split
    · rw [fuT, fuL]; simp
    · split
      · rw [fu_eta]; exact delT_fu _ _ _ hf
      · rw [fu_eta]; exact hf
  · have e := h2 i hi
    unfold delM at e
    rw [hb, if_neg (by decide)] at e
    constructor
    · unfold dcl
      rw [e]
      split <;> rfl
    · intro hd
      rw [hd, if_pos rfl, eta] at e
      unfold tr
      rw [e]; rfl
theorem shown_loop {L : List Int} {c : List S54} (hc : Cfg c) (n0 : 1 ≤ c.length) (m : Nat) (hm : m < 1024) (r : Nat) : ∀ (s k : Nat) (p : Int) (o : List S54), St L p → s + r = c.length → 6100 + r ≤ k → o.length = s → (∀ x ∈ o, fuT x.f1 ≤ 5800) → (∀ i, i < s → m.testBit i = false → rd_T54 o (i : Int) = rd_T54 c (i : Int)) →
    ∃ d p', trustquorumlaw18_shown.l0 k (m : Int) c (c.length : Int) (s : Int) L p c o = some (d, p') ∧ St L p' ∧ d.length = c.length ∧ (∀ x ∈ d, fuT x.f1 ≤ 5800) ∧ ∀ i, i < c.length → m.testBit i = false → rd_T54 d (i : Int) = rd_T54 c (i : Int) := by
  have hl := hc.len
  have eta : ∀ t : S48, (⟨t.f0, t.f1, t.f2⟩ : S48) = t := fun t => by cases t; rfl
  have eta2 : ∀ x : S54, (⟨x.f0, ⟨x.f1.f0, x.f1.f1, x.f1.f2⟩⟩ : S54) = x := fun x => by rw [eta]
  induction r with
  | zero =>
    intro s k p o hs h1 hk ho hf hd
    obtain ⟨k, rfl⟩ : ∃ q, k = q + 1 := ⟨k - 1, by omega⟩
    exact ⟨o, p, by rw [trustquorumlaw18_shown.l0, if_neg (by omega)], hs, by omega, hf, fun i hi => hd i (by omega)⟩
  | succ r ih =>
    intro s k p o hs h1 hk ho hf hd
    obtain ⟨k, rfl⟩ : ∃ q, k = q + 1 := ⟨k - 1, by omega⟩
    have put : ∀ (x : S54) (p : Int), St L p → fuT x.f1 ≤ 5800 → (m.testBit s = false → x = rd_T54 c (s : Int)) → ∃ d p', trustquorumlaw18_shown.l0 k (m : Int) c (c.length : Int) ((s + 1 : Nat) : Int) L p c (o ++ [x]) = some (d, p') ∧ St L p' ∧ d.length = c.length ∧ (∀ x ∈ d, fuT x.f1 ≤ 5800) ∧ ∀ i, i < c.length → m.testBit i = false → rd_T54 d (i : Int) = rd_T54 c (i : Int) := by
      intro x p hs hx he
      refine ih (s + 1) k p (o ++ [x]) hs (by omega) (by omega) (by rw [List.length_append]; simp only [List.length_cons, List.length_nil]; omega) (fun y hy => ?_) (fun i hi hb => ?_)
      · rcases List.mem_append.1 hy with h | h
        · exact hf y h
        · rw [List.mem_singleton.1 h]; exact hx
      · by_cases hi2 : i = s
        · rw [hi2, ← ho, rdC_last, ho]; exact he (by rw [← hi2]; exact hb)
        · rw [rdC_pre o x i (by omega)]; exact hd i (by omega) hb
    rw [trustquorumlaw18_shown.l0, if_pos (by omega), if_pos (by omega), if_pos (by omega), has_ref m hm, tbn m s (by omega), nx s (by omega)]
    simp only [Option.bind_some]
    cases hb : m.testBit s
    · rw [if_neg (by decide), if_pos (by omega), eta2]
      exact put _ p hs (hc.fu s (by omega)) (fun _ => rfl)
    · obtain ⟨th, ns, inn, p1, h, hfu, _, _, _, s1⟩ := Trust_eq hs (n := (c.length : Int)) (by omega) (by omega) 1 (by omega) (k := k) (by omega)
      obtain ⟨x, p2, hx, _, _, s2⟩ := N_eq (n := 2) s1 (by omega) (by omega)
      rw [if_pos rfl, show (1 : Int) = ((1 : Nat) : Int) from rfl, h]
      simp only [Option.bind_some]
      rw [hx]
      simp only [Option.bind_some]
      by_cases h0 : x = 0
      · rw [if_pos h0, if_pos (by omega)]
        exact put _ p2 s2 (by rw [fuT, fuL]; simp) (fun h => by rw [hb] at h; cases h)
      · rw [if_neg h0, if_pos (by omega)]
        exact put _ p2 s2 hfu (fun h => by rw [hb] at h; cases h)
theorem shown_eq {L : List Int} {c : List S54} (hc : Cfg c) (n0 : 1 ≤ c.length) (m : Nat) (hm : m < 1024) {p : Int} (hs : St L p) {k : Nat} (hk : 6200 ≤ k) : ∃ d p', trustquorumlaw18_shown.f k L p c (m : Int) = some (d, p') ∧ St L p' ∧ d.length = c.length ∧ Cfg d ∧ ∀ i, i < c.length → m.testBit i = false → rd_T54 d (i : Int) = rd_T54 c (i : Int) := by
  have hl := hc.len
  obtain ⟨d, p', h, h1, h2, h3, h4⟩ := shown_loop hc n0 m hm c.length 0 k p [] hs (by omega) (by omega) rfl (fun x hx => by cases hx) (fun i hi => by omega)
  refine ⟨d, p', h, h1, h2, ⟨by omega, fun i hi => ?_⟩, h4⟩
  unfold tr
  rw [rdC_at d i hi]
  exact h3 _ (List.getElem_mem hi)
theorem set_loop {L : List Int} {c : List S54} (hc : Cfg c) (n0 : 1 ≤ c.length) (r : Nat) : ∀ (m k : Nat) (p : Int), St L p → m < 1024 → r ≤ 100 → 30 + r ≤ k → ∃ m' : Nat, ∃ p', trustquorummake_Set.l0 k (c.length : Int) (m : Int) (r : Int) L p c = some ((m' : Int), p') ∧ m' < 1024 ∧ St L p' := by
  have hl := hc.len
  induction r with
  | zero =>
    intro m k p hs hm _ hk
    obtain ⟨k, rfl⟩ : ∃ q, k = q + 1 := ⟨k - 1, by omega⟩
    obtain ⟨D, hD, hD1, _⟩ := rdeclared_eq c hc.len (k := k) (by omega)
    obtain ⟨b, p1, hb, b0, b1, s1⟩ := N_eq (n := 2) hs (by omega) (by omega)
    have h0 : 0 < 2 ^ c.length := Nat.two_pow_pos _
    have hp : 2 ^ c.length ≤ 2 ^ 10 := Nat.pow_le_pow_right (by omega) hl
    have hn : c.length < 10 ∨ c.length = 10 := by omega
    have hsh : shl .i64 1 (c.length : Int) = ((2 ^ c.length : Nat) : Int) := by
      rcases hn with h | h
      · exact shl_eq _ h
      · rw [h]; decide +kernel
    have ha : ∀ b : Nat, b < 2 → ((2 ^ c.length - 1) &&& (1023 - D)) * b < 1024 := fun b hb => by
      have : (2 ^ c.length - 1) &&& (1023 - D) < 1024 := Nat.lt_of_le_of_lt Nat.and_le_left (by omega)
      have : b = 0 ∨ b = 1 := by omega
      rcases this with rfl | rfl <;> omega
    obtain ⟨b, rfl⟩ := Int.eq_ofNat_of_zero_le b0
    have hab := ha b (by omega)
    rw [trustquorummake_Set.l0, if_neg (by omega), if_pos (by omega), hD]
    simp only [Option.bind_some]
    rw [hb]
    simp only [Option.bind_some]
    rw [hsh, w64 (x := ((2 ^ c.length : Nat) : Int) - 1) (by omega) (by omega), show ((2 ^ c.length : Nat) : Int) - 1 = ((2 ^ c.length - 1 : Nat) : Int) by omega, andNot_eq (2 ^ c.length - 1) D (by omega) hD1]
    rw [show (((2 ^ c.length - 1) &&& (1023 - D) : Nat) : Int) * (b : Int) = ((((2 ^ c.length - 1) &&& (1023 - D)) * b : Nat) : Int) by rw [Int.natCast_mul], w64 (by omega) (by omega), or_eq m _ hm hab]
    exact ⟨_, p1, rfl, Nat.or_lt_two_pow (n := 10) hm hab, s1⟩
  | succ r ih =>
    intro m k p hs hm hr hk
    obtain ⟨k, rfl⟩ : ∃ q, k = q + 1 := ⟨k - 1, by omega⟩
    obtain ⟨x, p1, hx, x0, x1, s1⟩ := N_eq (n := (c.length : Int)) hs (by omega) (by omega)
    obtain ⟨i, rfl⟩ := Int.eq_ofNat_of_zero_le x0
    have hp := pow_lt i (by omega)
    rw [trustquorummake_Set.l0, if_pos (by omega), hx]
    simp only [Option.bind_some]
    rw [if_pos x0, shl_eq i (by omega), or_eq m (2 ^ i) hm hp, w64 (by omega) (by omega), show ((r + 1 : Nat) : Int) - 1 = (r : Int) by omega]
    exact ih (m ||| 2 ^ i) k p1 s1 (Nat.or_lt_two_pow (n := 10) hm hp) (by omega) (by omega)
theorem set_eq {L : List Int} {c : List S54} (hc : Cfg c) (n0 : 1 ≤ c.length) {p : Int} (hs : St L p) {k : Nat} (hk : 100 ≤ k) : ∃ m : Nat, ∃ p', trustquorummake_Set.f k L p c = some ((m : Int), p') ∧ m < 1024 ∧ St L p' := by
  obtain ⟨x, p1, hx, hm, s1⟩ := pickA hs [0, 1, 1, 2, 3] (by simp) (by simp)
  have h0 : 0 ≤ x ∧ x ≤ 3 := by simp only [List.mem_cons, List.not_mem_nil, or_false] at hm; omega
  obtain ⟨r, rfl⟩ := Int.eq_ofNat_of_zero_le h0.1
  unfold trustquorummake_Set.f
  rw [hx]
  simp only [Option.bind_some]
  exact set_loop hc n0 r 0 k p1 s1 (by omega) (by omega) (by omega)
theorem rest_closed {c d x : List S54} {m g a : Nat} (hm : m < 1024) (hl : c.length ≤ 10) (hd : ∀ i, i < c.length → m.testBit i = false → dcl d i = dcl c i ∧ (dcl c i = true → tr d i = delT (tr c i) (i : Int) m)) (hx : ∀ i, i < c.length → m.testBit i = false → rd_T54 x (i : Int) = rd_T54 c (i : Int)) (hxl : x.length = c.length) (hG : IsG x a g) :
    Closed d (g &&& (1023 - m)) ∧ (∀ i, i < 10 → (g &&& (1023 - m)).testBit i = (g.testBit i && !m.testBit i)) := by
  have bit : ∀ j, j < 10 → (g &&& (1023 - m)).testBit j = (g.testBit j && !m.testBit j) := fun j hj => by
    have := Nat.testBit_two_pow_sub_succ (x := m) (n := 10) hm j
    rw [Nat.testBit_and, show 1023 - m = 2 ^ 10 - (m + 1) by omega, this, decide_eq_true hj, Bool.true_and]
  refine ⟨fun i hi hb => ?_, bit⟩
  have hb0 := hb
  rw [bit i hi, Bool.and_eq_true, Bool.not_eq_true'] at hb
  obtain ⟨h1, h2⟩ := hb
  obtain ⟨_, h3, h4⟩ := hG.inn i hi h1
  have hil : i < c.length := by have := dcl_in h3; omega
  obtain ⟨e1, e2⟩ := hd i hil h2
  have ex := hx i hil h2
  have d1 : dcl c i = true := by unfold dcl at h3 ⊢; rw [← ex]; exact h3
  have t1 : satT (tr c i) g = true := by unfold tr at h4 ⊢; rw [← ex]; exact h4
  refine ⟨by rw [e1]; exact d1, ?_⟩
  rw [e2 d1]
  refine delT_sat (s := m) (A := g) (fun k hk hs => ?_) (tr c i) (i : Int) (by rw [tbn _ i hi]; exact hb0) t1
  obtain ⟨k0, k1⟩ := tb_range hk
  obtain ⟨j, rfl⟩ := Int.eq_ofNat_of_zero_le k0
  rw [tbn g j (by omega)] at hk
  rw [tbn m j (by omega)] at hs
  rw [tbn _ j (by omega), bit j (by omega), hk, hs]; rfl
theorem safe_law {c d x y : List S54} {m ga gb a b v w : Nat} (hm : m < 1024) (hl : c.length ≤ 6) (hdl : d.length = c.length) (hd : ∀ i, i < c.length → m.testBit i = false → dcl d i = dcl c i ∧ (dcl c i = true → tr d i = delT (tr c i) (i : Int) m))
    (hx : ∀ i, i < c.length → m.testBit i = false → rd_T54 x (i : Int) = rd_T54 c (i : Int)) (hxl : x.length = c.length) (hy : ∀ i, i < c.length → m.testBit i = false → rd_T54 y (i : Int) = rd_T54 c (i : Int)) (hyl : y.length = c.length)
    (hyes : ∀ q : Nat, q ≤ 2 ^ d.length - 1 → q ≠ 0 → Closed d q → ∀ g, IsG d (2 ^ d.length - 1 - q) g → g = 0) (hex : ∀ q : Nat, q ≤ 2 ^ d.length - 1 → ∃ g, IsG d (2 ^ d.length - 1 - q) g)
    (hGa : IsG x a ga) (hGb : IsG y b gb) (hv : v < 10) (hw : w < 10) (v1 : ga.testBit v = true) (w1 : gb.testBit w = true) (v2 : m.testBit v = false) (w2 : m.testBit w = false) (hab : (a &&& b) &&& (1023 - m) = 0) : False := by
  obtain ⟨ca, ba⟩ := rest_closed hm (by omega) hd hx hxl hGa
  obtain ⟨cb, bb⟩ := rest_closed hm (by omega) hd hy hyl hGb
  have hlow : ∀ (q : Nat), Closed d q → q < 1024 → ∀ i, q.testBit i = true → i < d.length := fun q hq hq2 i hi => by
    by_cases h10 : i < 10
    · exact dcl_in (hq i h10 hi).1
    · rw [Nat.testBit_lt_two_pow (Nat.lt_of_lt_of_le (show q < 2 ^ 10 from hq2) (Nat.pow_le_pow_right (by omega) (by omega)))] at hi; cases hi
  have la : ga &&& (1023 - m) < 1024 := Nat.lt_of_le_of_lt Nat.and_le_left hGa.lt
  have lb : gb &&& (1023 - m) < 1024 := Nat.lt_of_le_of_lt Nat.and_le_left hGb.lt
  generalize ga &&& (1023 - m) = qa at ca ba la
  generalize gb &&& (1023 - m) = qb at cb bb lb
  have pa : qa < 2 ^ d.length := by
    refine Nat.lt_pow_two_of_testBit _ fun i hi => ?_
    cases h : qa.testBit i
    · rfl
    · have := hlow qa ca la i h; omega
  have va : qa.testBit v = true := by rw [ba v hv, v1, v2]; rfl
  have vb : qb.testBit w = true := by rw [bb w hw, w1, w2]; rfl
  have qa0 : qa ≠ 0 := fun h => by rw [h, Nat.zero_testBit] at va; cases va
  obtain ⟨g, hG⟩ := hex qa (by omega)
  have hg0 := hyes qa (by omega) qa0 ca g hG
  have disj : ∀ i, i < 10 → qb.testBit i = true → qa.testBit i = false := fun i hi h => by
    rw [bb i hi, Bool.and_eq_true, Bool.not_eq_true'] at h
    cases h2 : qa.testBit i
    · rfl
    · rw [ba i hi, Bool.and_eq_true] at h2
      have a1 := (hGa.inn i hi h2.1).1
      have b1 := (hGb.inn i hi h.1).1
      have : ((a &&& b) &&& (1023 - m)).testBit i = true := by
        have e := Nat.testBit_two_pow_sub_succ (x := m) (n := 10) hm i
        rw [Nat.testBit_and, Nat.testBit_and, show 1023 - m = 2 ^ 10 - (m + 1) by omega, e, a1, b1, decide_eq_true hi, h.2]; rfl
      rw [hab, Nat.zero_testBit] at this; cases this
  have := hG.all qb lb (fun i hi h => ⟨by
    have e := Nat.testBit_two_pow_sub_succ (x := qa) (n := d.length) pa i
    rw [show 2 ^ d.length - 1 - qa = 2 ^ d.length - (qa + 1) by omega, e, decide_eq_true (hlow qb cb lb i h), disj i hi h]; rfl, cb i hi h⟩) w hw vb
  rw [hg0, Nat.zero_testBit] at this
  cases this
theorem safe_loop {L : List Int} {c d x y : List S54} {m : Nat} {yes : Bool} (hm : m < 1024) (hl : c.length ≤ 6) (hdl : d.length = c.length) (hdc : Cfg d) (hd : ∀ i, i < c.length → m.testBit i = false → dcl d i = dcl c i ∧ (dcl c i = true → tr d i = delT (tr c i) (i : Int) m))
    (hxc : Cfg x) (hyc : Cfg y) (hx : ∀ i, i < c.length → m.testBit i = false → rd_T54 x (i : Int) = rd_T54 c (i : Int)) (hxl : x.length = c.length) (hy : ∀ i, i < c.length → m.testBit i = false → rd_T54 y (i : Int) = rd_T54 c (i : Int)) (hyl : y.length = c.length)
    (hyes : yes = true → ∀ q : Nat, q ≤ 2 ^ d.length - 1 → q ≠ 0 → Closed d q → ∀ g, IsG d (2 ^ d.length - 1 - q) g → g = 0) (r : Nat) : ∀ (s k : Nat) (p : Int), St L p → s + r = 12 → 7300 + 2 * r ≤ k → trustquorumlaw18_FederatedSafe.l0 k (m : Int) yes (s : Int) L p x y = some true := by
  have hpow := pow_lt d.length (by omega)
  induction r with
  | zero =>
    intro s k p hs h1 hk
    obtain ⟨k, rfl⟩ : ∃ q, k = q + 1 := ⟨k - 1, by omega⟩
    rw [trustquorumlaw18_FederatedSafe.l0, if_neg (by omega), awake_eq (by omega)]; rfl
  | succ r ih =>
    intro s k p hs h1 hk
    obtain ⟨k, rfl⟩ : ∃ q, k = q + 2 := ⟨k - 2, by omega⟩
    obtain ⟨v, p1, e1, v0, v1, s1⟩ := N_eq (n := 6) hs (by omega) (by omega)
    obtain ⟨w, p2, e2, w0, w1, s2⟩ := N_eq (n := 6) s1 (by omega) (by omega)
    obtain ⟨a, p3, e3, a0, a1, s3⟩ := N_eq (n := 64) s2 (by omega) (by omega)
    obtain ⟨b, p4, e4, b0, b1, s4⟩ := N_eq (n := 64) s3 (by omega) (by omega)
    obtain ⟨v, rfl⟩ := Int.eq_ofNat_of_zero_le v0
    obtain ⟨w, rfl⟩ := Int.eq_ofNat_of_zero_le w0
    obtain ⟨a, rfl⟩ := Int.eq_ofNat_of_zero_le a0
    obtain ⟨b, rfl⟩ := Int.eq_ofNat_of_zero_le b0
    have nxt := ih (s + 1) k p4 s4 (by omega) (by omega)
    rw [← nx s (by omega)] at nxt
    have skip : trustquorumlaw18_FederatedSafe.j1 (k + 1) (m : Int) yes (s : Int) (v : Int) (w : Int) (a : Int) (b : Int) true L p4 x y = some true := by
      rw [trustquorumlaw18_FederatedSafe.j1, if_pos rfl]; exact nxt
    show trustquorumlaw18_FederatedSafe.l0 ((k + 1) + 1) _ _ _ _ _ _ _ = _
    rw [trustquorumlaw18_FederatedSafe.l0, if_pos (by omega), e1]
    simp only [Option.bind_some]
    rw [e2]
    simp only [Option.bind_some]
    rw [e3]
    simp only [Option.bind_some]
    rw [e4]
    simp only [Option.bind_some]
    rw [has_ref m hm, tbn m v (by omega)]
    simp only [Option.bind_some]
    cases hv : m.testBit v
    · rw [if_neg (by decide), has_ref m hm, tbn m w (by omega)]
      simp only [Option.bind_some]
      cases hw : m.testBit w
      · rw [trustquorumlaw18_FederatedSafe.j1, if_neg (by decide)]
        cases yes
        · rw [if_neg (by decide)]; exact nxt
        · obtain ⟨ga, hGa, ea⟩ := confirms_eq hxc v a (by omega) (by omega) (k := k) (by omega)
          obtain ⟨gb, hGb, eb⟩ := confirms_eq hyc w b (by omega) (by omega) (k := k) (by omega)
          rw [if_pos rfl, ea]
          simp only [Option.bind_some]
          cases ha : ga.testBit v
          · rw [if_neg (by decide)]; exact nxt
          · rw [if_pos rfl, eb]
            simp only [Option.bind_some]
            cases hb : gb.testBit w
            · rw [if_neg (by decide)]; exact nxt
            · have hab : a &&& b < 1024 := Nat.lt_of_le_of_lt Nat.and_le_left (by omega)
              rw [if_pos rfl, and_eq a b (by omega) (by omega), andNot_eq (a &&& b) m hab hm]
              by_cases hz : (a &&& b) &&& (1023 - m) = 0
              · refine absurd ?_ (fun h : False => h)
                exact safe_law hm hl hdl hd hx hxl hy hyl (hyes rfl) (fun q hq => by
                  obtain ⟨g, _, hG⟩ := rgreatest_eq hdc (2 ^ d.length - 1 - q) (by omega) (k := 27000) (Nat.le_refl _)
                  exact ⟨g, hG⟩) hGa hGb (by omega) (by omega) ha hb hv hw hz
              · rw [if_neg (by omega)]; exact nxt
      · exact skip
    · rw [if_pos rfl]; exact skip
theorem FederatedSafe : trustquorumlaw18_FederatedSafe.Pure := by
  intro l0 _ _ _
  obtain ⟨L, hL, s0⟩ := New_eq l0
  obtain ⟨K, hK⟩ : ∃ K : Nat, 30000 ≤ K := ⟨30000, Nat.le_refl _⟩
  obtain ⟨c, p, h1, n0, n1, hcf, s1⟩ := Config_eq 6 (by omega) (by omega) s0 (k := K) (by omega)
  have hc : Cfg c := ⟨by omega, fun i hi => by unfold tr; rw [rdC_at c i hi]; exact hcf _ (List.getElem_mem hi)⟩
  obtain ⟨m, p2, h2, hm, s2⟩ := set_eq hc n0 s1 (k := K) (by omega)
  obtain ⟨d, h3, hdl, hdc, hd⟩ := delete_eq hc m hm (k := K) (by omega)
  obtain ⟨yes, e, h4, hyes⟩ := holds_eq hdc (by omega) (by omega) (k := K) (by omega)
  obtain ⟨x, p3, h5, s3, hxl, hxc, hx⟩ := shown_eq hc n0 m hm s2 (k := K) (by omega)
  obtain ⟨y, p4, h6, s4, hyl, hyc, hy⟩ := shown_eq hc n0 m hm s3 (k := K) (by omega)
  refine ⟨K, ?_⟩
  unfold trustquorumlaw18_FederatedSafe.f
  rw [hL]; simp only [Option.bind_some]
  rw [h1]; simp only [Option.bind_some]
  rw [h2]; simp only [Option.bind_some]
  rw [h3]; simp only [Option.bind_some]
  rw [h4]; simp only [Option.bind_some]
  rw [h5]; simp only [Option.bind_some]
  rw [h6]; simp only [Option.bind_some]
  exact safe_loop hm (by omega) hdl hdc hd hxc hyc hx hxl hy hyl hyes 12 0 K p4 s4 (by omega) (by omega)

end Go.Proofs.Ytmeamdklonmahaa.Pure
