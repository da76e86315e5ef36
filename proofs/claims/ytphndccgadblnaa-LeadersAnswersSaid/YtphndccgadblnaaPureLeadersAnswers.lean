/- For every list of numbers, whatever small trust and small configuration, and whatever numbers, package leaders answers as its reference does: the statement over numbers and lists that the row asks. No condition. -/
import Derived.Test.YtphndccgadblnaaQLeadersAnswersx14
import Derived.OpenShut
set_option linter.unusedSimpArgs false
set_option linter.unusedVariables false
namespace Go.Proofs.Ytphndccgadblnaa.Pure
open Go.RowKit Go.Proofs.Ytphndccgadblnaa.QLeadersAnswers Go.Proofs.YtphndccgadblnaaW.PrintWords Go.Proofs.YtphndccgadblnaaW.PrintLast Go.Proofs.YtphndccgadblnaaW.PrintMore

theorem w64 {x : Int} (h : -9223372036854775808 ≤ x) (h' : x ≤ 9223372036854775807) : wrap64 x = x := by unfold wrap64; omega
structure St (L : List Int) (p : Int) : Prop where
  len : L.length ≤ 400
  lo : 0 ≤ p
  hi : p ≤ 400
theorem New_eq (l : List Int) : ∃ L, trustquorummake_New.f l = some (L, 0) ∧ St L 0 := by
  unfold trustquorummake_New.f
  have h0 : 0 ≤ mn (l.length : Int) 400 := by unfold mn; split <;> omega
  have h1 : mn (l.length : Int) 400 ≤ l.length := by unfold mn; split <;> omega
  have h2 : mn (l.length : Int) 400 ≤ 400 := by unfold mn; split <;> omega
  rw [if_pos h0, if_pos h1]
  refine ⟨_, rfl, ⟨?_, by omega, by omega⟩⟩
  rw [List.length_take]; omega
theorem N_eq {L : List Int} {p n : Int} (h : St L p) (hn : 1 ≤ n) (hn2 : n ≤ 1000000) : ∃ r p', trustquorummake_Tape_N.f L p n = some (r, p') ∧ 0 ≤ r ∧ r < n ∧ St L p' := by
  unfold trustquorummake_Tape_N.f
  by_cases h1 : p ≥ (L.length : Int)
  · exact ⟨0, p, by rw [if_pos h1], by omega, by omega, h⟩
  · have hp : p < L.length := by omega
    have h3 := h.len
    have h4 := h.lo
    have e1 : wrap64 (p + 1) = p + 1 := w64 (by omega) (by omega)
    have b1 := Int.tmod_lt_of_pos (rd L p) (show 0 < n by omega)
    have b2 := Int.lt_tmod_of_pos (rd L p) (show 0 < n by omega)
    rw [if_neg h1, if_pos h.lo, if_pos hp, if_neg (by omega), e1]
    by_cases h5 : Int.tmod (rd L p) n < 0
    · rw [if_pos h5, w64 (by omega) (by omega)]
      exact ⟨_, _, rfl, by omega, by omega, ⟨h.len, by omega, by omega⟩⟩
    · rw [if_neg h5]
      exact ⟨_, _, rfl, by omega, by omega, ⟨h.len, by omega, by omega⟩⟩
theorem Range_eq {L : List Int} {p a b : Int} (h : St L p) (ha : -1000 ≤ a) (hab : a ≤ b) (hb : b ≤ 100000) : ∃ r p', trustquorummake_Tape_Range.f L p a b = some (r, p') ∧ a ≤ r ∧ r ≤ b ∧ St L p' := by
  have e1 : wrap64 (b - a) = b - a := w64 (by omega) (by omega)
  have e2 : wrap64 (b - a + 1) = b - a + 1 := w64 (by omega) (by omega)
  obtain ⟨r, p', hr, h0, h1, hs⟩ := N_eq (n := b - a + 1) h (by omega) (by omega)
  refine ⟨a + r, p', ?_, by omega, by omega, hs⟩
  unfold trustquorummake_Tape_Range.f
  rw [e1, e2, hr]
  simp only [Option.bind_some]
  rw [w64 (x := a + r) (by omega) (by omega)]
theorem rd_at (l : List Int) (s : Nat) (h : s < l.length) : rd l (s : Int) = l[s]'h := by unfold rd; simp [List.getD, h]
theorem rdS_at (l : List S27) (s : Nat) (h : s < l.length) : rd_T27 l (s : Int) = l[s]'h := by unfold rd_T27; simp [List.getD, h]
theorem nx (s : Nat) (h : s ≤ 10000000) : wrap64 ((s : Int) + 1) = ((s + 1 : Nat) : Int) := by rw [w64 (by omega) (by omega)]; omega
def tb (m : Nat) (k : Int) : Bool := decide (0 ≤ k) && decide (k < 10) && m.testBit k.toNat
theorem shl_eq : ∀ i, i < 10 → shl .i64 1 ((i : Nat) : Int) = ((2 ^ i : Nat) : Int) := by decide +kernel
theorem wr10 (n : Int) (h0 : 0 ≤ n) (h1 : n < 2 ^ 10) : IntKind.i64.wrap n = n := by rw [IntKind.wrap_i64]; omega
theorem and_eq (a b : Nat) (ha : a < 1024) (hb : b < 1024) : Go.bits .and .i64 (a : Int) (b : Int) = ((a &&& b : Nat) : Int) := (bits_nat .i64 10 (by decide) wr10 a b ha hb).1
theorem or_eq (a b : Nat) (ha : a < 1024) (hb : b < 1024) : Go.bits .or .i64 (a : Int) (b : Int) = ((a ||| b : Nat) : Int) := (bits_nat .i64 10 (by decide) wr10 a b ha hb).2
theorem pow_lt (i : Nat) (h : i < 10) : 2 ^ i < 1024 := by
  have : 2 ^ i < 2 ^ 10 := Nat.pow_lt_pow_right (by decide) h
  omega
theorem shr_eq (m i : Nat) (hi : i < 10) : shr .i64 (m : Int) (i : Int) = ((m / 2 ^ i : Nat) : Int) := by
  unfold shr
  have e : min ((i : Int)).toNat IntKind.i64.bits = i := by
    have : IntKind.i64.bits = 64 := by decide
    rw [this]; omega
  rw [e]; simp
theorem has_ref (m : Nat) (hm : m < 1024) (k : Int) : trustquorumref01_Has.f (m : Int) k = some (tb m k) := by
  unfold trustquorumref01_Has.f trustquorumref01_Valid.f tb
  rw [if_pos (by omega), decide_eq_true (show (m : Int) ≤ 1023 by omega)]
  simp only [Option.bind_some, if_true]
  by_cases h0 : k ≥ 0
  · rw [if_pos h0]
    by_cases h1 : k < 10
    · obtain ⟨i, rfl⟩ := Int.eq_ofNat_of_zero_le h0
      have hd : m / 2 ^ i < 1024 := Nat.lt_of_le_of_lt (Nat.div_le_self _ _) hm
      have a1 := and_eq (m / 2 ^ i) 1 hd (by omega)
      rw [if_pos h1, if_pos h0, shr_eq m i (by omega)]
      rw [show ((1 : Nat) : Int) = 1 from rfl] at a1
      rw [a1, decide_eq_true (show 0 ≤ (i : Int) by omega), decide_eq_true h1, Int.toNat_natCast, Nat.and_one_is_mod, Nat.testBit_eq_decide_div_mod_eq]
      congr 1
      simp only [Bool.true_and]
      by_cases h : m / 2 ^ i % 2 = 1
      · rw [h]; rfl
      · rw [decide_eq_false h, beq_eq_false_iff_ne]; omega
    · rw [if_neg h1, decide_eq_false h1]; simp
  · rw [if_neg h0, decide_eq_false (show ¬ 0 ≤ k by omega)]; simp

theorem shl10 : shl .i64 1 10 = 1024 := by decide +kernel
theorem nsValid_eq (a : Int) : nodeset_Valid.f a = some (decide (0 ≤ a ∧ a < 1024)) := by
  unfold nodeset_Valid.f nodeset_below.f
  rw [shl10]
  by_cases h : a ≥ 0
  · rw [if_pos h, if_pos (by omega)]
    simp only [Option.bind_some]
    congr 1; rw [decide_eq_decide]; omega
  · rw [if_neg h]
    simp only [Option.bind_some]
    congr 1; rw [eq_comm, decide_eq_false_iff_not]; omega
theorem and_pow (m i : Nat) : (((m &&& 2 ^ i : Nat) : Int) != 0) = m.testBit i := by
  cases h : m.testBit i
  · have e : m &&& 2 ^ i = 0 := by
      apply Nat.eq_of_testBit_eq
      intro j
      rw [Nat.testBit_and, Nat.testBit_two_pow, Nat.zero_testBit]
      by_cases hj : i = j
      · subst hj; rw [h]; rfl
      · rw [decide_eq_false hj, Bool.and_false]
    rw [e]; rfl
  · rw [bne_iff_ne]
    intro e
    have e2 : m &&& 2 ^ i = 0 := by omega
    have h2 := congrArg (fun x : Nat => x.testBit i) e2
    simp only [Nat.testBit_and, Nat.testBit_two_pow, Nat.zero_testBit, h, decide_true, Bool.and_true] at h2
    cases h2
theorem has_eq (m : Nat) (hm : m < 1024) (k : Int) : nodeset_Has.f (m : Int) k = some (tb m k) := by
  unfold nodeset_Has.f tb
  rw [nsValid_eq, decide_eq_true (show 0 ≤ (m : Int) ∧ (m : Int) < 1024 by omega)]
  simp only [Option.bind_some, if_true]
  by_cases h0 : k ≥ 0
  · rw [if_pos h0]
    by_cases h1 : k < 10
    · obtain ⟨i, rfl⟩ := Int.eq_ofNat_of_zero_le h0
      rw [if_pos h1, if_pos h0, shl_eq i (by omega), and_eq m (2 ^ i) hm (pow_lt i (by omega)), decide_eq_true (show 0 ≤ (i : Int) by omega), decide_eq_true h1, Int.toNat_natCast, and_pow]
      rfl
    · rw [if_neg h1, decide_eq_false h1]; simp
  · rw [if_neg h0, decide_eq_false (show ¬ 0 ≤ k by omega)]; simp

mutual
def fuT : S27 → Nat
  | ⟨_, ns, inn⟩ => 10 + 3 * ns.length + fuL inn
def fuL : List S27 → Nat
  | [] => 0
  | t :: l => 3 + fuT t + fuL l
end
theorem fuT_eq (t : S27) : fuT t = 10 + 3 * t.f1.length + fuL t.f2 := by cases t; rw [fuT]
theorem fuL_drop (l : List S27) (s : Nat) (h : s < l.length) : fuL (l.drop s) = 3 + fuT (l[s]'h) + fuL (l.drop (s + 1)) := by rw [List.drop_eq_getElem_cons h, fuL]
theorem fuL_len : ∀ l : List S27, l.length ≤ fuL l
  | [] => Nat.le_refl _
  | t :: l => by have := fuL_len l; rw [fuL, List.length_cons]; omega
theorem fuL_le (l : List S27) (s : Nat) : fuL (l.drop s) ≤ fuL l := by
  induction l generalizing s with
  | nil => rw [List.drop_nil]; exact Nat.le_refl _
  | cons t l ih =>
    cases s with
    | zero => exact Nat.le_refl _
    | succ s => rw [List.drop_succ_cons, fuL]; have := ih s; omega
mutual
def depT : S27 → Int
  | ⟨_, _, inn⟩ => depL inn 0 + 1
def depL : List S27 → Int → Int
  | [], c => c
  | t :: l, c => depL l (mx c (depT t))
end
mutual
def sizT : S27 → Int
  | ⟨_, ns, inn⟩ => sizL inn ((ns.length : Int) + (inn.length : Int))
def sizL : List S27 → Int → Int
  | [], c => c
  | t :: l, c => sizL l (c + sizT t)
end
def ofR : List Int → Nat → Int × Int
  | [], m => ((m : Int), 0)
  | k :: l, m => if k < 0 ∨ 10 ≤ k then (0, 5) else if tb m k = true then (0, 6) else ofR l (m ||| 2 ^ k.toNat)
def outR (ns : List Int) : Bool := ns.any fun k => decide (k < 0 ∨ 10 ≤ k)
mutual
def chkT : S27 → Int
  | ⟨th, ns, inn⟩ => if th < 1 ∨ th > (ns.length : Int) + (inn.length : Int) then 4 else if outR ns = true then 5 else if (ofR ns 0).2 = 0 then chkL inn else (ofR ns 0).2
def chkL : List S27 → Int
  | [] => 0
  | t :: l => if chkT t = 0 then chkL l else chkT t
end
def valT (t : S27) : Int := if depT t > 4 then 3 else if sizT t > 200 then 3 else chkT t
theorem dep_bd (N : Nat) : ∀ t : S27, fuT t ≤ N → 0 ≤ depT t ∧ depT t ≤ fuT t := by
  induction N with
  | zero => intro t h; rw [fuT_eq] at h; omega
  | succ N ih =>
    intro t h
    have key : ∀ (l : List S27) (c : Int), fuL l ≤ N → 0 ≤ c → 0 ≤ depL l c ∧ depL l c ≤ c + fuL l := by
      intro l
      induction l with
      | nil => intro c _ hc; rw [depL, fuL]; omega
      | cons x l ihl =>
        intro c hf hc
        rw [fuL] at hf
        obtain ⟨a, b⟩ := ih x (by omega)
        have hm : 0 ≤ mx c (depT x) ∧ mx c (depT x) ≤ c + fuT x := by unfold mx; split <;> omega
        obtain ⟨a', b'⟩ := ihl (mx c (depT x)) (by omega) hm.1
        rw [depL, fuL]; omega
    obtain ⟨th, ns, inn⟩ := t
    rw [fuT] at h ⊢
    have := key inn 0 (by omega) (by omega)
    rw [depT]; omega
theorem siz_bd (N : Nat) : ∀ t : S27, fuT t ≤ N → 0 ≤ sizT t ∧ sizT t ≤ 2 * fuT t := by
  induction N with
  | zero => intro t h; rw [fuT_eq] at h; omega
  | succ N ih =>
    intro t h
    have key : ∀ (l : List S27) (c : Int), fuL l ≤ N → 0 ≤ c → 0 ≤ sizL l c ∧ sizL l c ≤ c + 2 * fuL l - l.length := by
      intro l
      induction l with
      | nil => intro c _ hc; rw [sizL, fuL]; simp only [List.length_nil]; omega
      | cons x l ihl =>
        intro c hf hc
        rw [fuL] at hf
        obtain ⟨a, b⟩ := ih x (by omega)
        obtain ⟨a', b'⟩ := ihl (c + sizT x) (by omega) (by omega)
        rw [sizL, fuL, List.length_cons]; omega
    obtain ⟨th, ns, inn⟩ := t
    rw [fuT] at h ⊢
    have := key inn (ns.length + inn.length) (by omega) (by omega)
    rw [sizT]; omega

theorem trustquorumref02_Size_eq (N : Nat) : ∀ (t : S27) (k : Nat), fuT t ≤ N → fuT t ≤ 1000000 → fuT t ≤ k → trustquorumref02_Size.f k t.f0 t.f1 t.f2 = some (sizT t) := by
  induction N with
  | zero => intro t k h; rw [fuT_eq] at h; omega
  | succ N ih =>
    intro t k h hb hk
    obtain ⟨th, ns, inn⟩ := t
    rw [fuT] at h hb hk
    have hl := fuL_len inn
    have key : ∀ (r s : Nat) (c : Int) (k : Nat), s + r = inn.length → fuL (inn.drop s) + 2 ≤ k → 0 ≤ c → c + 2 * fuL (inn.drop s) ≤ 10000000 → trustquorumref02_Size.l0 k c inn (inn.length : Int) (s : Int) = some (sizL (inn.drop s) c) := by
      intro r
      induction r with
      | zero =>
        intro s c k h1 hk _ _
        obtain ⟨k, rfl⟩ : ∃ m, k = m + 1 := ⟨k - 1, by omega⟩
        rw [trustquorumref02_Size.l0, if_neg (by omega), List.drop_of_length_le (by omega), sizL]
      | succ r ihr =>
        intro s c k h1 hk hc0 hc1
        obtain ⟨k, rfl⟩ : ∃ m, k = m + 1 := ⟨k - 1, by omega⟩
        have hs : s < inn.length := by omega
        have hd := fuL_drop inn s hs
        have hle := fuL_le inn s
        have hb2 := siz_bd _ inn[s] (Nat.le_refl _)
        rw [trustquorumref02_Size.l0, if_pos (by omega), if_pos (by omega), if_pos (by omega), rdS_at inn s hs, ih inn[s] k (by omega) (by omega) (by omega)]
        simp only [Option.bind_some]
        rw [w64 (x := c + sizT inn[s]) (by omega) (by omega), nx s (by omega), ihr (s + 1) (c + sizT inn[s]) k (by omega) (by omega) (by omega) (by omega), List.drop_eq_getElem_cons hs, sizL]
    obtain ⟨k, rfl⟩ : ∃ m, k = m + 1 := ⟨k - 1, by omega⟩
    show trustquorumref02_Size.f (k + 1) th ns inn = _
    rw [trustquorumref02_Size.f, w64 (by omega) (by omega), sizT]
    exact key inn.length 0 _ k (by omega) (by rw [List.drop_zero]; omega) (by omega) (by rw [List.drop_zero]; omega)

theorem trustquorumref02_Depth_eq (N : Nat) : ∀ (t : S27) (k : Nat), fuT t ≤ N → fuT t ≤ 1000000 → fuT t ≤ k → trustquorumref02_Depth.f k t.f0 t.f1 t.f2 = some (depT t) := by
  induction N with
  | zero => intro t k h; rw [fuT_eq] at h; omega
  | succ N ih =>
    intro t k h hb hk
    obtain ⟨th, ns, inn⟩ := t
    rw [fuT] at h hb hk
    have hl := fuL_len inn
    have key : ∀ (r s : Nat) (c : Int) (k : Nat), s + r = inn.length → fuL (inn.drop s) + 2 ≤ k → 0 ≤ c → c + fuL (inn.drop s) ≤ 10000000 → trustquorumref02_Depth.l0 k c inn (inn.length : Int) (s : Int) = some (depL (inn.drop s) c + 1) := by
      intro r
      induction r with
      | zero =>
        intro s c k h1 hk hc0 hc1
        obtain ⟨k, rfl⟩ : ∃ m, k = m + 1 := ⟨k - 1, by omega⟩
        rw [trustquorumref02_Depth.l0, if_neg (by omega), List.drop_of_length_le (by omega), depL, w64 (by omega) (by omega)]
      | succ r ihr =>
        intro s c k h1 hk hc0 hc1
        obtain ⟨k, rfl⟩ : ∃ m, k = m + 1 := ⟨k - 1, by omega⟩
        have hs : s < inn.length := by omega
        have hd := fuL_drop inn s hs
        have hle := fuL_le inn s
        have hb2 := dep_bd _ inn[s] (Nat.le_refl _)
        have hm : 0 ≤ mx c (depT inn[s]) ∧ mx c (depT inn[s]) ≤ c + fuT inn[s] := by unfold mx; split <;> omega
        rw [trustquorumref02_Depth.l0, if_pos (by omega), if_pos (by omega), if_pos (by omega), rdS_at inn s hs, ih inn[s] k (by omega) (by omega) (by omega)]
        simp only [Option.bind_some]
        rw [nx s (by omega), ihr (s + 1) (mx c (depT inn[s])) k (by omega) (by omega) (by omega) (by omega), List.drop_eq_getElem_cons hs, depL]
    obtain ⟨k, rfl⟩ : ∃ m, k = m + 1 := ⟨k - 1, by omega⟩
    show trustquorumref02_Depth.f (k + 1) th ns inn = _
    rw [trustquorumref02_Depth.f, depT]
    exact key inn.length 0 0 k (by omega) (by rw [List.drop_zero]; omega) (by omega) (by rw [List.drop_zero]; omega)

theorem trustquorumref01_Of_loop (l : List Int) (hl : l.length ≤ 1000000) (r : Nat) : ∀ (s m k : Nat), s + r = l.length → m < 1024 → 2 * r + 2 ≤ k → trustquorumref01_Of.l0 k (m : Int) l (l.length : Int) (s : Int) = some (ofR (l.drop s) m) := by
  induction r with
  | zero =>
    intro s m k h1 hm hk
    obtain ⟨k, rfl⟩ : ∃ q, k = q + 1 := ⟨k - 1, by omega⟩
    rw [trustquorumref01_Of.l0, if_neg (by omega), List.drop_of_length_le (by omega), ofR]
  | succ r ih =>
    intro s m k h1 hm hk
    obtain ⟨k, rfl⟩ : ∃ q, k = q + 2 := ⟨k - 2, by omega⟩
    have hs : s < l.length := by omega
    show trustquorumref01_Of.l0 ((k + 1) + 1) _ _ _ _ = _
    rw [trustquorumref01_Of.l0, if_pos (by omega), if_pos (by omega), if_pos (by omega), rd_at l s hs, List.drop_eq_getElem_cons hs, ofR]
    generalize l[s] = x
    by_cases h0 : x < 0
    · rw [if_pos h0, trustquorumref01_Of.j1, if_pos rfl, if_pos (.inl h0)]
    · rw [if_neg h0, trustquorumref01_Of.j1]
      by_cases h2 : x ≥ 10
      · rw [if_pos (decide_eq_true h2), if_pos (.inr h2)]
      · rw [if_neg (by rw [decide_eq_true_eq]; exact h2), if_neg (show ¬ (x < 0 ∨ 10 ≤ x) by omega), has_ref m hm x]
        simp only [Option.bind_some]
        cases ht : tb m x
        · simp only [Bool.false_eq_true, if_false]
          obtain ⟨i, rfl⟩ := Int.eq_ofNat_of_zero_le (show 0 ≤ x by omega)
          have hp := pow_lt i (by omega)
          rw [if_pos (show 0 ≤ (i : Int) by omega), shl_eq i (by omega), or_eq m (2 ^ i) hm hp, nx s (by omega), Int.toNat_natCast]
          exact ih (s + 1) (m ||| 2 ^ i) k (by omega) (Nat.or_lt_two_pow (n := 10) hm hp) (by omega)
        · simp only [if_true]
theorem trustquorumref01_Of_eq (l : List Int) (hl : l.length ≤ 1000000) {k : Nat} (hk : 2 * l.length + 2 ≤ k) : trustquorumref01_Of.f k l = some (ofR l 0) := by
  unfold trustquorumref01_Of.f
  exact trustquorumref01_Of_loop l hl l.length 0 0 k (by omega) (by omega) hk

theorem check_eq (N : Nat) : ∀ (t : S27) (k : Nat), fuT t ≤ N → fuT t ≤ 1000000 → fuT t ≤ k → trustquorumref02_check.f k t.f0 t.f1 t.f2 = some (chkT t) := by
  induction N with
  | zero => intro t k h; rw [fuT_eq] at h; omega
  | succ N ih =>
    intro t k h hb hk
    obtain ⟨th, ns, inn⟩ := t
    rw [fuT] at h hb hk
    have hl := fuL_len inn
    have key : ∀ (r s : Nat) (k : Nat), s + r = inn.length → fuL (inn.drop s) + 2 ≤ k → trustquorumref02_check.l1 k inn (inn.length : Int) (s : Int) = some (chkL (inn.drop s)) := by
      intro r
      induction r with
      | zero =>
        intro s k h1 hk
        obtain ⟨k, rfl⟩ : ∃ m, k = m + 1 := ⟨k - 1, by omega⟩
        rw [trustquorumref02_check.l1, if_neg (by omega), List.drop_of_length_le (by omega), chkL]
      | succ r ihr =>
        intro s k h1 hk
        obtain ⟨k, rfl⟩ : ∃ m, k = m + 1 := ⟨k - 1, by omega⟩
        have hs : s < inn.length := by omega
        have hd := fuL_drop inn s hs
        have hle := fuL_le inn s
        rw [trustquorumref02_check.l1, if_pos (by omega), if_pos (by omega), if_pos (by omega), rdS_at inn s hs, ih inn[s] k (by omega) (by omega) (by omega)]
        simp only [Option.bind_some]
        rw [nx s (by omega), List.drop_eq_getElem_cons hs, chkL]
        by_cases hc : chkT inn[s] = 0
        · rw [if_pos hc, if_pos hc]; exact ihr (s + 1) k (by omega) (by omega)
        · rw [if_neg hc, if_neg hc]
    have nodes : ∀ (r s : Nat) (k : Nat), s + r = ns.length → r + 2 * ns.length + fuL inn + 5 ≤ k → trustquorumref02_check.l0 k ns (ns.length : Int) (s : Int) th ns inn = some (if outR (ns.drop s) = true then 5 else if (ofR ns 0).2 = 0 then chkL inn else (ofR ns 0).2) := by
      intro r
      induction r with
      | zero =>
        intro s k h1 hk
        obtain ⟨k, rfl⟩ : ∃ m, k = m + 1 := ⟨k - 1, by omega⟩
        rw [trustquorumref02_check.l0, if_neg (by omega), List.drop_of_length_le (by omega), trustquorumref01_Of_eq ns (by omega) (by omega)]
        simp only [Option.bind_some]
        rw [if_neg (show ¬ (outR [] = true) by decide)]
        by_cases he : (ofR ns 0).2 = 0
        · rw [if_pos he, if_pos he]; exact key inn.length 0 k (by omega) (by rw [List.drop_zero]; omega)
        · rw [if_neg he, if_neg he]
      | succ r ihr =>
        intro s k h1 hk
        obtain ⟨k, rfl⟩ : ∃ m, k = m + 1 := ⟨k - 1, by omega⟩
        have hs : s < ns.length := by omega
        have ho : outR (ns.drop s) = (decide (ns[s] < 0 ∨ 10 ≤ ns[s]) || outR (ns.drop (s + 1))) := by rw [List.drop_eq_getElem_cons hs]; unfold outR; rw [List.any_cons]
        rw [trustquorumref02_check.l0, if_pos (by omega), if_pos (by omega), if_pos (by omega), rd_at ns s hs, nx s (by omega), ho]
        by_cases h0 : ns[s] < 0
        · rw [if_pos h0, decide_eq_true (.inl h0), Bool.true_or, if_pos rfl]
        · rw [if_neg h0]
          by_cases h2 : ns[s] ≥ 10
          · rw [if_pos h2, decide_eq_true (.inr h2), Bool.true_or, if_pos rfl]
          · rw [if_neg h2, decide_eq_false (by omega), Bool.false_or]
            exact ihr (s + 1) k (by omega) (by omega)
    obtain ⟨k, rfl⟩ : ∃ m, k = m + 2 := ⟨k - 2, by omega⟩
    show trustquorumref02_check.f ((k + 1) + 1) th ns inn = _
    rw [trustquorumref02_check.f, w64 (by omega) (by omega), chkT]
    by_cases h0 : th < 1
    · rw [if_pos h0, trustquorumref02_check.j0, if_pos rfl, if_pos (.inl h0)]
    · rw [if_neg h0, trustquorumref02_check.j0]
      by_cases h1 : th > (ns.length : Int) + (inn.length : Int)
      · rw [if_pos (decide_eq_true h1), if_pos (.inr h1)]
      · rw [if_neg (by rw [decide_eq_true_eq]; exact h1), if_neg (by omega)]
        exact nodes ns.length 0 k (by omega) (by omega)
theorem refValid_eq (t : S27) {k : Nat} (hb : fuT t ≤ 1000000) (hk : fuT t ≤ k) : trustquorumref02_Valid.f k t.f0 t.f1 t.f2 = some (valT t) := by
  unfold trustquorumref02_Valid.f valT
  rw [trustquorumref02_Depth_eq _ t k (Nat.le_refl _) hb hk, trustquorumref02_Size_eq _ t k (Nat.le_refl _) hb hk, check_eq _ t k (Nat.le_refl _) hb hk]
  simp only [Option.bind_some]
  split
  · rfl
  · split <;> rfl

theorem order_swap {L : List Int} (r : Nat) : ∀ (l : List Int) (p : Int) (k : Nat), St L p → r < l.length → l.length ≤ 100 → r + 2 ≤ k → ∃ l' p', trustquorummake_Tape_Order.l1 k l (r : Int) L p = some (l', p') ∧ l'.length = l.length ∧ St L p' := by
  induction r with
  | zero =>
    intro l p k hs hr hl hk
    obtain ⟨k, rfl⟩ : ∃ m, k = m + 1 := ⟨k - 1, by omega⟩
    exact ⟨l, p, by rw [trustquorummake_Tape_Order.l1, if_neg (by omega)], rfl, hs⟩
  | succ r ih =>
    intro l p k hs hr hl hk
    obtain ⟨k, rfl⟩ : ∃ m, k = m + 1 := ⟨k - 1, by omega⟩
    obtain ⟨q, p', hq, q0, q1, hs'⟩ := N_eq (n := ((r + 1 : Nat) : Int) + 1) hs (by omega) (by omega)
    obtain ⟨l', p'', h1, h2, h3⟩ := ih ((l.set ((r + 1 : Nat) : Int).toNat (rd l q)).set q.toNat (rd l ((r + 1 : Nat) : Int))) p' k hs' (by simp; omega) (by simp; omega) (by omega)
    refine ⟨l', p'', ?_, by rw [h2]; simp, h3⟩
    rw [trustquorummake_Tape_Order.l1, if_pos (by omega), w64 (x := ((r + 1 : Nat) : Int) + 1) (by omega) (by omega), hq]
    simp only [Option.bind_some]
    rw [if_pos q0, if_pos (by omega), if_pos (by omega), if_pos (by omega), w64 (x := ((r + 1 : Nat) : Int) - 1) (by omega) (by omega), show ((r + 1 : Nat) : Int) - 1 = (r : Int) by omega]
    exact h1
theorem order_fill {L : List Int} {n : Nat} (hn : 1 ≤ n) (hn2 : n ≤ 100) (r : Nat) : ∀ (l : List Int) (p : Int) (k : Nat), St L p → l.length + r = n → r + n + 5 ≤ k → ∃ l' p', trustquorummake_Tape_Order.l0 k (n : Int) l (l.length : Int) L p = some (l', p') ∧ l'.length = n ∧ St L p' := by
  induction r with
  | zero =>
    intro l p k hs hl hk
    obtain ⟨k, rfl⟩ : ∃ m, k = m + 1 := ⟨k - 1, by omega⟩
    obtain ⟨l', p', h1, h2, h3⟩ := order_swap (n - 1) l p k hs (by omega) (by omega) (by omega)
    refine ⟨l', p', ?_, by omega, h3⟩
    rw [trustquorummake_Tape_Order.l0, if_neg (by omega), w64 (x := (n : Int) - 1) (by omega) (by omega), show (n : Int) - 1 = ((n - 1 : Nat) : Int) by omega]
    exact h1
  | succ r ih =>
    intro l p k hs hl hk
    obtain ⟨k, rfl⟩ : ∃ m, k = m + 1 := ⟨k - 1, by omega⟩
    obtain ⟨l', p', h1, h2, h3⟩ := ih (l ++ [(l.length : Int)]) p k hs (by rw [List.length_append]; simp only [List.length_cons, List.length_nil]; omega) (by omega)
    refine ⟨l', p', ?_, h2, h3⟩
    rw [trustquorummake_Tape_Order.l0, if_pos (by omega), if_pos (by omega), nx l.length (by omega)]
    rw [List.length_append] at h1
    exact h1
theorem order_eq {L : List Int} {p : Int} {n : Nat} (h : St L p) (hn : 1 ≤ n) (hn2 : n ≤ 100) {k : Nat} (hk : 2 * n + 10 ≤ k) : ∃ l p', trustquorummake_Tape_Order.f k L p (n : Int) = some (l, p') ∧ l.length = n ∧ St L p' := by
  unfold trustquorummake_Tape_Order.f
  exact order_fill hn hn2 n [] p k h (by simp) (by omega)
theorem pick6 {L : List Int} {p : Int} (h : St L p) : ∃ c p', trustquorummake_Tape_Pick.f L p ([0, 0, 1, 1, 2, 3] : List Int) = some (c, p') ∧ 0 ≤ c ∧ c ≤ 3 ∧ St L p' := by
  obtain ⟨r, p', hr, h0, h1, hs⟩ := N_eq (n := 6) h (by omega) (by omega)
  have l6 : ((([0, 0, 1, 1, 2, 3] : List Int).length : Nat) : Int) = 6 := rfl
  unfold trustquorummake_Tape_Pick.f
  rw [l6, hr]
  simp only [Option.bind_some]
  rw [if_pos h0, if_pos h1]
  refine ⟨_, _, rfl, ?_, ?_, hs⟩
  all_goals
    have : r = 0 ∨ r = 1 ∨ r = 2 ∨ r = 3 ∨ r = 4 ∨ r = 5 := by omega
    rcases this with rfl | rfl | rfl | rfl | rfl | rfl <;> decide
def fd : Nat → Nat
  | 0 => 40
  | d + 1 => 40 + 3 * (3 + fd d)
theorem fd_ge (d : Nat) : 40 ≤ fd d := by cases d <;> simp only [fd] <;> omega
theorem copy_nodes {L : List Int} (n deep : Int) (ns : List Int) (hns : ns.length ≤ 5) (Q : Option (Int × List Int × List S27 × Int)) (p : Int) (K : Nat)
    (hQ : ∀ k, K ≤ k → trustquorummake_trust.l0 k n deep ns (ns.length : Int) (ns.length : Int) L p 0 ns = Q) (r : Nat) :
    ∀ (s k : Nat), s + r = ns.length → K + r ≤ k → trustquorummake_trust.l0 k n deep ns (ns.length : Int) (s : Int) L p 0 (ns.take s) = Q := by
  induction r with
  | zero =>
    intro s k h1 hk
    rw [show s = ns.length by omega, List.take_length]
    exact hQ k (by omega)
  | succ r ih =>
    intro s k h1 hk
    obtain ⟨k, rfl⟩ : ∃ m, k = m + 1 := ⟨k - 1, by omega⟩
    have hs : s < ns.length := by omega
    rw [trustquorummake_trust.l0, if_pos (by omega), if_pos (by omega), if_pos (by omega), if_pos (by rw [List.length_take]; omega), rd_at ns s hs, nx s (by omega), show ns.take s ++ [ns[s]] = ns.take (s + 1) by rw [List.take_succ_eq_append_getElem hs]]
    exact ih (s + 1) k (by omega) (by omega)
theorem trust_eq {L : List Int} {n : Nat} (hn : 1 ≤ n) (hn2 : n ≤ 10) (d : Nat) : (d : Int) ≤ 1000 → ∀ (p : Int) (k : Nat), St L p → fd d + 40 ≤ k → ∃ th ns inn p', trustquorummake_trust.f k L p (n : Int) (d : Int) = some (th, ns, inn, p') ∧ fuT ⟨th, ns, inn⟩ ≤ fd d ∧ St L p' := by
  induction d with
  | zero =>
    intro _ p k hs hk
    rw [fd] at hk
    obtain ⟨k, rfl⟩ : ∃ m, k = m + 1 := ⟨k - 1, by omega⟩
    obtain ⟨l, p1, h1, hl, s1⟩ := order_eq (n := n) hs hn (by omega) (k := k) (by omega)
    have hm : 1 ≤ mn (n : Int) 5 ∧ mn (n : Int) 5 ≤ 5 ∧ mn (n : Int) 5 ≤ n := by unfold mn; split <;> omega
    obtain ⟨r, p2, h2, r0, r1, s2⟩ := Range_eq (a := 1) (b := mn (n : Int) 5) s1 (by omega) (by omega) (by omega)
    obtain ⟨q, rfl⟩ := Int.eq_ofNat_of_zero_le (show 0 ≤ r by omega)
    have hlen : (l.take q).length = q := by rw [List.length_take]; omega
    obtain ⟨th, p3, h3, t0, t1, s3⟩ := Range_eq (a := 1) (b := ((l.take q).length : Int)) s2 (by omega) (by omega) (by omega)
    refine ⟨th, l.take q, [], p3, ?_, by rw [fuT, fuL, fd]; omega, s3⟩
    rw [trustquorummake_trust.f, h1]
    simp only [Option.bind_some]
    rw [h2]
    simp only [Option.bind_some]
    rw [if_pos (by omega), if_pos (by omega), Int.toNat_natCast]
    refine copy_nodes (n : Int) ((0 : Nat) : Int) (l.take q) (by omega) _ p2 1 (fun k hk => ?_) (l.take q).length 0 k (by omega) (by omega)
    obtain ⟨k, rfl⟩ : ∃ m, k = m + 1 := ⟨k - 1, by omega⟩
    rw [trustquorummake_trust.l0, if_neg (by omega), if_neg (by omega), w64 (x := ((l.take q).length : Int)) (by omega) (by omega), h3]
    rfl
  | succ d ih =>
    intro hdd0 p k hs hk
    have hdd : (d : Int) ≤ 1000 := by omega
    have ih := ih hdd
    have hfd := fd_ge d
    rw [fd] at hk
    obtain ⟨k, rfl⟩ : ∃ m, k = m + 1 := ⟨k - 1, by omega⟩
    obtain ⟨l, p1, h1, hl, s1⟩ := order_eq (n := n) hs hn (by omega) (k := k) (by omega)
    have hm : 1 ≤ mn (n : Int) 5 ∧ mn (n : Int) 5 ≤ 5 ∧ mn (n : Int) 5 ≤ n := by unfold mn; split <;> omega
    obtain ⟨r, p2, h2, r0, r1, s2⟩ := Range_eq (a := 1) (b := mn (n : Int) 5) s1 (by omega) (by omega) (by omega)
    obtain ⟨q, rfl⟩ := Int.eq_ofNat_of_zero_le (show 0 ≤ r by omega)
    have hlen : (l.take q).length = q := by rw [List.length_take]; omega
    have inner : ∀ (c : Nat) (inn : List S27) (p : Int) (k : Nat), St L p → inn.length + c ≤ 3 → fuL inn ≤ inn.length * (3 + fd d) → fd d + 40 + c + 3 ≤ k → 1 < ((d + 1 : Nat) : Int) → ∃ th ns inn' p', trustquorummake_trust.l1 k (n : Int) ((d + 1 : Nat) : Int) (c : Int) L p 0 (l.take q) inn = some (th, ns, inn', p') ∧ fuT ⟨th, ns, inn'⟩ ≤ fd (d + 1) ∧ St L p' := by
      intro c
      induction c with
      | zero =>
        intro inn p k hs hc hf hk hd
        obtain ⟨k, rfl⟩ : ∃ m, k = m + 1 := ⟨k - 1, by omega⟩
        have hmul : inn.length * (3 + fd d) ≤ 3 * (3 + fd d) := Nat.mul_le_mul_right _ (by omega)
        rw [trustquorummake_trust.l1, if_neg (by omega)]
        by_cases hi : (inn.length : Int) > 0
        · obtain ⟨z, pz, hz, z0, z1, sz⟩ := N_eq (n := 3) hs (by omega) (by omega)
          rw [if_pos hi, hz]
          simp only [Option.bind_some]
          by_cases hz0 : z = 0
          · obtain ⟨th, p3, h3, t0, t1, s3⟩ := Range_eq (a := 1) (b := (inn.length : Int)) sz (by omega) (by omega) (by omega)
            rw [if_pos hz0, w64 (x := (inn.length : Int)) (by omega) (by omega), h3]
            exact ⟨th, [], inn, p3, rfl, by rw [fuT, fd, List.length_nil]; omega, s3⟩
          · obtain ⟨th, p3, h3, t0, t1, s3⟩ := Range_eq (a := 1) (b := ((l.take q).length : Int) + (inn.length : Int)) sz (by omega) (by omega) (by omega)
            rw [if_neg hz0, w64 (x := ((l.take q).length : Int) + (inn.length : Int)) (by omega) (by omega), h3]
            exact ⟨th, _, inn, p3, rfl, by rw [fuT, fd]; omega, s3⟩
        · obtain ⟨th, p3, h3, t0, t1, s3⟩ := Range_eq (a := 1) (b := ((l.take q).length : Int) + (inn.length : Int)) hs (by omega) (by omega) (by omega)
          rw [if_neg hi, w64 (x := ((l.take q).length : Int) + (inn.length : Int)) (by omega) (by omega), h3]
          exact ⟨th, _, inn, p3, rfl, by rw [fuT, fd]; omega, s3⟩
      | succ c ihc =>
        intro inn p k hs hc hf hk hd
        obtain ⟨k, rfl⟩ : ∃ m, k = m + 1 := ⟨k - 1, by omega⟩
        obtain ⟨th, ns, inn', p', ht, hft, st⟩ := ih p k hs (by omega)
        have happ : ∀ (l : List S27) (t : S27), fuL (l ++ [t]) = fuL l + (3 + fuT t) := by
          intro l t
          induction l with
          | nil => rw [List.nil_append, fuL]; simp only [fuL]; omega
          | cons a l ih => rw [List.cons_append, fuL, fuL, ih]; omega
        obtain ⟨th2, ns2, inn2, p2', h2', hf2, st2⟩ := ihc (inn ++ [(⟨th, ns, inn'⟩ : S27)]) p' k st (by rw [List.length_append]; simp only [List.length_cons, List.length_nil]; omega) (by rw [happ, List.length_append]; simp only [List.length_cons, List.length_nil, Nat.zero_add, Nat.add_mul, Nat.one_mul]; omega) (by omega) hd
        refine ⟨th2, ns2, inn2, p2', ?_, hf2, st2⟩
        have hd2 : (d : Int) ≤ 1000 := hdd
        rw [trustquorummake_trust.l1, if_pos (by omega), w64 (x := ((d + 1 : Nat) : Int) - 1) (by omega) (by omega), show ((d + 1 : Nat) : Int) - 1 = (d : Int) by omega, ht]
        simp only [Option.bind_some]
        rw [if_pos (by omega), w64 (x := ((c + 1 : Nat) : Int) - 1) (by omega) (by omega), show ((c + 1 : Nat) : Int) - 1 = (c : Int) by omega]
        exact h2'
    by_cases hd : 1 < ((d + 1 : Nat) : Int)
    · obtain ⟨c, p3, h3, c0, c1, s3⟩ := pick6 s2
      obtain ⟨c, rfl⟩ := Int.eq_ofNat_of_zero_le c0
      obtain ⟨th, ns, inn, p4, h4, hf4, s4⟩ := inner c [] p3 (k - 6) s3 (by simp only [List.length_nil]; omega) (by rw [fuL]; omega) (by omega) hd
      refine ⟨th, ns, inn, p4, ?_, hf4, s4⟩
      rw [trustquorummake_trust.f, h1]
      simp only [Option.bind_some]
      rw [h2]
      simp only [Option.bind_some]
      rw [if_pos (by omega), if_pos (by omega), Int.toNat_natCast]
      refine copy_nodes (n : Int) ((d + 1 : Nat) : Int) (l.take q) (by omega) _ p2 (k - 5) (fun k' hk' => ?_) (l.take q).length 0 k (by omega) (by omega)
      obtain ⟨k', rfl⟩ : ∃ m, k' = m + 1 := ⟨k' - 1, by omega⟩
      rw [trustquorummake_trust.l0, if_neg (by omega), if_pos hd, h3]
      simp only [Option.bind_some]
      exact at_rounds (g := fun k => trustquorummake_trust.l1 k (n : Int) ((d + 1 : Nat) : Int) (c : Int) L p3 0 (l.take q) []) (fun k => (trustquorummake_trust.mono_l k).2.2 _ _ _ _ _ _ _ _) (show k - 6 ≤ k' by omega) h4
    · obtain ⟨th, p3, h3, t0, t1, s3⟩ := Range_eq (a := 1) (b := ((l.take q).length : Int)) s2 (by omega) (by omega) (by omega)
      refine ⟨th, l.take q, [], p3, ?_, by rw [fuT, fuL, fd]; omega, s3⟩
      rw [trustquorummake_trust.f, h1]
      simp only [Option.bind_some]
      rw [h2]
      simp only [Option.bind_some]
      rw [if_pos (by omega), if_pos (by omega), Int.toNat_natCast]
      refine copy_nodes (n : Int) ((d + 1 : Nat) : Int) (l.take q) (by omega) _ p2 1 (fun k hk => ?_) (l.take q).length 0 k (by omega) (by omega)
      obtain ⟨k, rfl⟩ : ∃ m, k = m + 1 := ⟨k - 1, by omega⟩
      rw [trustquorummake_trust.l0, if_neg (by omega), if_neg hd, w64 (x := ((l.take q).length : Int)) (by omega) (by omega), h3]
      rfl
theorem one_ok : ∀ r, r < 10 → chkT (⟨1, [((r : Nat) : Int)], []⟩ : S27) = 0 := by decide +kernel
theorem Trust_eq {L : List Int} {p n : Int} (h : St L p) (hn : 1 ≤ n) (hn2 : n ≤ 10) (d : Nat) (hd : d ≤ 4) {k : Nat} (hk : 6000 ≤ k) : ∃ th ns inn p', trustquorummake_Trust.f k L p n (d : Int) = some (th, ns, inn, p') ∧ fuT ⟨th, ns, inn⟩ ≤ 5800 ∧ chkT ⟨th, ns, inn⟩ = 0 ∧ depT ⟨th, ns, inn⟩ ≤ 4 ∧ sizT ⟨th, ns, inn⟩ ≤ 200 ∧ St L p' := by
  obtain ⟨n, rfl⟩ := Int.eq_ofNat_of_zero_le (show 0 ≤ n by omega)
  have hfd : fd d ≤ 5800 := by
    have : d = 0 ∨ d = 1 ∨ d = 2 ∨ d = 3 ∨ d = 4 := by omega
    rcases this with rfl | rfl | rfl | rfl | rfl <;> decide
  obtain ⟨th, ns, inn, p', h1, hf, hs⟩ := trust_eq (n := n) (by omega) (by omega) d (by omega) p k h (by omega)
  unfold trustquorummake_Trust.f
  rw [h1]
  simp only [Option.bind_some]
  have hv := refValid_eq ⟨th, ns, inn⟩ (k := k) (by omega) (by omega)
  rw [show trustquorumref02_Valid.f k th ns inn = some (valT ⟨th, ns, inn⟩) from hv]
  simp only [Option.bind_some]
  by_cases h0 : valT ⟨th, ns, inn⟩ = 0
  · rw [if_pos h0]
    unfold valT at h0
    by_cases a1 : depT ⟨th, ns, inn⟩ > 4
    · rw [if_pos a1] at h0; cases h0
    · rw [if_neg a1] at h0
      by_cases a2 : sizT ⟨th, ns, inn⟩ > 200
      · rw [if_pos a2] at h0; cases h0
      · rw [if_neg a2] at h0
        exact ⟨th, ns, inn, p', rfl, by omega, h0, by omega, by omega, hs⟩
  · rw [if_neg h0]
    obtain ⟨r, p2, h2, r0, r1, s2⟩ := N_eq (n := (n : Int)) hs (by omega) (by omega)
    rw [h2]
    obtain ⟨q, rfl⟩ := Int.eq_ofNat_of_zero_le r0
    refine ⟨1, [(q : Int)], [], p2, rfl, by rw [fuT, fuL]; simp, one_ok q (by omega), ?_, ?_, s2⟩
    · rw [depT, depL]; omega
    · rw [sizT, sizL]; simp

theorem threshold_Size_eq (N : Nat) : ∀ (t : S27) (k : Nat), fuT t ≤ N → fuT t ≤ 1000000 → fuT t ≤ k → threshold_Size.f k t.f0 t.f1 t.f2 = some (sizT t) := by
  induction N with
  | zero => intro t k h; rw [fuT_eq] at h; omega
  | succ N ih =>
    intro t k h hb hk
    obtain ⟨th, ns, inn⟩ := t
    rw [fuT] at h hb hk
    have hl := fuL_len inn
    have key : ∀ (r s : Nat) (c : Int) (k : Nat), s + r = inn.length → fuL (inn.drop s) + 2 ≤ k → 0 ≤ c → c + 2 * fuL (inn.drop s) ≤ 10000000 → threshold_Size.l0 k c inn (inn.length : Int) (s : Int) = some (sizL (inn.drop s) c) := by
      intro r
      induction r with
      | zero =>
        intro s c k h1 hk _ _
        obtain ⟨k, rfl⟩ : ∃ m, k = m + 1 := ⟨k - 1, by omega⟩
        rw [threshold_Size.l0, if_neg (by omega), List.drop_of_length_le (by omega), sizL]
      | succ r ihr =>
        intro s c k h1 hk hc0 hc1
        obtain ⟨k, rfl⟩ : ∃ m, k = m + 1 := ⟨k - 1, by omega⟩
        have hs : s < inn.length := by omega
        have hd := fuL_drop inn s hs
        have hle := fuL_le inn s
        have hb2 := siz_bd _ inn[s] (Nat.le_refl _)
        rw [threshold_Size.l0, if_pos (by omega), if_pos (by omega), if_pos (by omega), rdS_at inn s hs, ih inn[s] k (by omega) (by omega) (by omega)]
        simp only [Option.bind_some]
        rw [w64 (x := c + sizT inn[s]) (by omega) (by omega), nx s (by omega), ihr (s + 1) (c + sizT inn[s]) k (by omega) (by omega) (by omega) (by omega), List.drop_eq_getElem_cons hs, sizL]
    obtain ⟨k, rfl⟩ : ∃ m, k = m + 1 := ⟨k - 1, by omega⟩
    show threshold_Size.f (k + 1) th ns inn = _
    rw [threshold_Size.f, w64 (by omega) (by omega), sizT]
    exact key inn.length 0 _ k (by omega) (by rw [List.drop_zero]; omega) (by omega) (by rw [List.drop_zero]; omega)

theorem threshold_Depth_eq (N : Nat) : ∀ (t : S27) (k : Nat), fuT t ≤ N → fuT t ≤ 1000000 → fuT t ≤ k → threshold_Depth.f k t.f0 t.f1 t.f2 = some (depT t) := by
  induction N with
  | zero => intro t k h; rw [fuT_eq] at h; omega
  | succ N ih =>
    intro t k h hb hk
    obtain ⟨th, ns, inn⟩ := t
    rw [fuT] at h hb hk
    have hl := fuL_len inn
    have key : ∀ (r s : Nat) (c : Int) (k : Nat), s + r = inn.length → fuL (inn.drop s) + 2 ≤ k → 0 ≤ c → c + fuL (inn.drop s) ≤ 10000000 → threshold_Depth.l0 k c inn (inn.length : Int) (s : Int) = some (depL (inn.drop s) c + 1) := by
      intro r
      induction r with
      | zero =>
        intro s c k h1 hk hc0 hc1
        obtain ⟨k, rfl⟩ : ∃ m, k = m + 1 := ⟨k - 1, by omega⟩
        rw [threshold_Depth.l0, if_neg (by omega), List.drop_of_length_le (by omega), depL, w64 (by omega) (by omega)]
      | succ r ihr =>
        intro s c k h1 hk hc0 hc1
        obtain ⟨k, rfl⟩ : ∃ m, k = m + 1 := ⟨k - 1, by omega⟩
        have hs : s < inn.length := by omega
        have hd := fuL_drop inn s hs
        have hle := fuL_le inn s
        have hb2 := dep_bd _ inn[s] (Nat.le_refl _)
        have hm : 0 ≤ mx c (depT inn[s]) ∧ mx c (depT inn[s]) ≤ c + fuT inn[s] := by unfold mx; split <;> omega
        rw [threshold_Depth.l0, if_pos (by omega), if_pos (by omega), if_pos (by omega), rdS_at inn s hs, ih inn[s] k (by omega) (by omega) (by omega)]
        simp only [Option.bind_some]
        rw [nx s (by omega), ihr (s + 1) (mx c (depT inn[s])) k (by omega) (by omega) (by omega) (by omega), List.drop_eq_getElem_cons hs, depL]
    obtain ⟨k, rfl⟩ : ∃ m, k = m + 1 := ⟨k - 1, by omega⟩
    show threshold_Depth.f (k + 1) th ns inn = _
    rw [threshold_Depth.f, depT]
    exact key inn.length 0 0 k (by omega) (by rw [List.drop_zero]; omega) (by omega) (by rw [List.drop_zero]; omega)

theorem nodeset_Of_loop (l : List Int) (hl : l.length ≤ 1000000) (r : Nat) : ∀ (s m k : Nat), s + r = l.length → m < 1024 → 2 * r + 2 ≤ k → nodeset_Of.l0 k (m : Int) l (l.length : Int) (s : Int) = some (ofR (l.drop s) m) := by
  induction r with
  | zero =>
    intro s m k h1 hm hk
    obtain ⟨k, rfl⟩ : ∃ q, k = q + 1 := ⟨k - 1, by omega⟩
    rw [nodeset_Of.l0, if_neg (by omega), List.drop_of_length_le (by omega), ofR]
  | succ r ih =>
    intro s m k h1 hm hk
    obtain ⟨k, rfl⟩ : ∃ q, k = q + 2 := ⟨k - 2, by omega⟩
    have hs : s < l.length := by omega
    show nodeset_Of.l0 ((k + 1) + 1) _ _ _ _ = _
    rw [nodeset_Of.l0, if_pos (by omega), if_pos (by omega), if_pos (by omega), rd_at l s hs, List.drop_eq_getElem_cons hs, ofR]
    generalize l[s] = x
    by_cases h0 : x < 0
    · rw [if_pos h0, nodeset_Of.j1, if_pos rfl, if_pos (.inl h0)]
    · rw [if_neg h0, nodeset_Of.j1]
      by_cases h2 : x ≥ 10
      · rw [if_pos (decide_eq_true h2), if_pos (.inr h2)]
      · rw [if_neg (by rw [decide_eq_true_eq]; exact h2), if_neg (show ¬ (x < 0 ∨ 10 ≤ x) by omega), has_eq m hm x]
        simp only [Option.bind_some]
        cases ht : tb m x
        · simp only [Bool.false_eq_true, if_false]
          obtain ⟨i, rfl⟩ := Int.eq_ofNat_of_zero_le (show 0 ≤ x by omega)
          have hp := pow_lt i (by omega)
          rw [if_pos (show 0 ≤ (i : Int) by omega), shl_eq i (by omega), or_eq m (2 ^ i) hm hp, nx s (by omega), Int.toNat_natCast]
          exact ih (s + 1) (m ||| 2 ^ i) k (by omega) (Nat.or_lt_two_pow (n := 10) hm hp) (by omega)
        · simp only [if_true]
theorem nodeset_Of_eq (l : List Int) (hl : l.length ≤ 1000000) {k : Nat} (hk : 2 * l.length + 2 ≤ k) : nodeset_Of.f k l = some (ofR l 0) := by
  unfold nodeset_Of.f
  exact nodeset_Of_loop l hl l.length 0 0 k (by omega) (by omega) hk

theorem node_eq (k : Int) : threshold_node.f k = some (decide (0 ≤ k ∧ k < 10)) := by
  unfold threshold_node.f
  by_cases h : k ≥ 0
  · rw [if_pos h]; congr 1; rw [decide_eq_decide]; omega
  · rw [if_neg h]; congr 1; rw [eq_comm, decide_eq_false_iff_not]; omega
theorem bad_eq (k : Int) : threshold_level_1.f k = some (decide (k < 0 ∨ 10 ≤ k)) := by
  unfold threshold_level_1.f
  rw [node_eq]
  simp only [Option.bind_some]
  congr 1
  by_cases h : 0 ≤ k ∧ k < 10
  · rw [decide_eq_true h, decide_eq_false (by omega)]; rfl
  · rw [decide_eq_false h, decide_eq_true (by omega)]; rfl
theorem indexf_loop (l : List Int) (hl : l.length ≤ 1000000) (r : Nat) : ∀ (s k : Nat), s + r = l.length → r + 1 ≤ k → ∃ x, slices_IndexFunc_int_int__on_56.l0 k l (l.length : Int) (s : Int) = some x ∧ decide (x ≥ 0) = outR (l.drop s) := by
  induction r with
  | zero =>
    intro s k h1 hk
    obtain ⟨k, rfl⟩ : ∃ q, k = q + 1 := ⟨k - 1, by omega⟩
    exact ⟨-1, by rw [slices_IndexFunc_int_int__on_56.l0, if_neg (by omega)], by rw [List.drop_of_length_le (by omega)]; decide⟩
  | succ r ih =>
    intro s k h1 hk
    obtain ⟨k, rfl⟩ : ∃ q, k = q + 1 := ⟨k - 1, by omega⟩
    have hs : s < l.length := by omega
    have ho : outR (l.drop s) = (decide (l[s] < 0 ∨ 10 ≤ l[s]) || outR (l.drop (s + 1))) := by rw [List.drop_eq_getElem_cons hs]; unfold outR; rw [List.any_cons]
    rw [slices_IndexFunc_int_int__on_56.l0, if_pos (by omega), if_pos (by omega), if_pos (by omega), rd_at l s hs, bad_eq, ho]
    simp only [Option.bind_some]
    by_cases hb : l[s] < 0 ∨ 10 ≤ l[s]
    · exact ⟨(s : Int), by rw [if_pos (decide_eq_true hb)], by rw [decide_eq_true hb, decide_eq_true (by omega), Bool.true_or]⟩
    · obtain ⟨x, hx, hd⟩ := ih (s + 1) k (by omega) (by omega)
      exact ⟨x, by rw [if_neg (by rw [decide_eq_true_eq]; exact hb), nx s (by omega)]; exact hx, by rw [hd, decide_eq_false hb, Bool.false_or]⟩
theorem containsf_eq (l : List Int) (hl : l.length ≤ 1000000) {k : Nat} (hk : l.length + 1 ≤ k) : slices_ContainsFunc_int_int__on_56.f k l = some (outR l) := by
  obtain ⟨x, hx, hd⟩ := indexf_loop l hl l.length 0 k (by omega) hk
  unfold slices_ContainsFunc_int_int__on_56.f slices_IndexFunc_int_int__on_56.f
  rw [show (0 : Int) = ((0 : Nat) : Int) from rfl, hx]
  simp only [Option.bind_some]
  rw [List.drop_zero] at hd
  rw [← hd]
  rfl
theorem level_eq (N : Nat) : ∀ (t : S27) (k : Nat), fuT t ≤ N → fuT t ≤ 1000000 → fuT t ≤ k → threshold_level.f k t.f0 t.f1 t.f2 = some (chkT t) := by
  induction N with
  | zero => intro t k h; rw [fuT_eq] at h; omega
  | succ N ih =>
    intro t k h hb hk
    obtain ⟨th, ns, inn⟩ := t
    rw [fuT] at h hb hk
    have hl := fuL_len inn
    have key : ∀ (r s : Nat) (k : Nat), s + r = inn.length → fuL (inn.drop s) + 2 ≤ k → threshold_level.l0 k inn (inn.length : Int) (s : Int) = some (chkL (inn.drop s)) := by
      intro r
      induction r with
      | zero =>
        intro s k h1 hk
        obtain ⟨k, rfl⟩ : ∃ m, k = m + 1 := ⟨k - 1, by omega⟩
        rw [threshold_level.l0, if_neg (by omega), List.drop_of_length_le (by omega), chkL]
      | succ r ihr =>
        intro s k h1 hk
        obtain ⟨k, rfl⟩ : ∃ m, k = m + 1 := ⟨k - 1, by omega⟩
        have hs : s < inn.length := by omega
        have hd := fuL_drop inn s hs
        have hle := fuL_le inn s
        rw [threshold_level.l0, if_pos (by omega), if_pos (by omega), if_pos (by omega), rdS_at inn s hs, ih inn[s] k (by omega) (by omega) (by omega)]
        simp only [Option.bind_some]
        rw [nx s (by omega), List.drop_eq_getElem_cons hs, chkL]
        by_cases hc : chkT inn[s] = 0
        · rw [if_pos hc, if_pos hc]; exact ihr (s + 1) k (by omega) (by omega)
        · rw [if_neg hc, if_neg hc]
    obtain ⟨k, rfl⟩ : ∃ m, k = m + 2 := ⟨k - 2, by omega⟩
    show threshold_level.f ((k + 1) + 1) th ns inn = _
    rw [threshold_level.f, w64 (by omega) (by omega), chkT]
    by_cases h0 : th < 1
    · rw [if_pos h0, threshold_level.j0, if_pos rfl, if_pos (.inl h0)]
    · rw [if_neg h0, threshold_level.j0]
      by_cases h1 : th > (ns.length : Int) + (inn.length : Int)
      · rw [if_pos (decide_eq_true h1), if_pos (.inr h1)]
      · rw [if_neg (by rw [decide_eq_true_eq]; exact h1), if_neg (show ¬ (th < 1 ∨ th > (ns.length : Int) + (inn.length : Int)) by omega), containsf_eq ns (by omega) (by omega), nodeset_Of_eq ns (by omega) (by omega)]
        simp only [Option.bind_some]
        cases ho : outR ns
        · rw [if_neg (show ¬ (false = true) by decide), if_neg (show ¬ (false = true) by decide)]
          by_cases he : (ofR ns 0).2 = 0
          · rw [if_pos he, if_pos he]; exact key inn.length 0 k (by omega) (by rw [List.drop_zero]; omega)
          · rw [if_neg he, if_neg he]
        · rw [if_pos rfl, if_pos rfl]
theorem valid_eq (t : S27) {k : Nat} (hb : fuT t ≤ 1000000) (hk : fuT t ≤ k) : threshold_Valid.f k t.f0 t.f1 t.f2 = some (valT t) := by
  unfold threshold_Valid.f valT
  rw [threshold_Depth_eq _ t k (Nat.le_refl _) hb hk, threshold_Size_eq _ t k (Nat.le_refl _) hb hk, level_eq _ t k (Nat.le_refl _) hb hk]
  simp only [Option.bind_some]
  split
  · rfl
  · split <;> rfl
theorem valT_ok {t : S27} (h1 : chkT t = 0) (h2 : depT t ≤ 4) (h3 : sizT t ≤ 200) : valT t = 0 := by unfold valT; rw [if_neg (by omega), if_neg (by omega), h1]

theorem chkT_ok {th : Int} {ns : List Int} {inn : List S27} (h : chkT ⟨th, ns, inn⟩ = 0) : 1 ≤ th ∧ th ≤ (ns.length : Int) + (inn.length : Int) ∧ outR ns = false ∧ (ofR ns 0).2 = 0 ∧ chkL inn = 0 := by
  rw [chkT] at h
  by_cases h0 : th < 1 ∨ th > (ns.length : Int) + (inn.length : Int)
  · rw [if_pos h0] at h; cases h
  · rw [if_neg h0] at h
    cases h1 : outR ns
    · rw [if_neg (by rw [h1]; decide)] at h
      by_cases h2 : (ofR ns 0).2 = 0
      · rw [if_pos h2] at h; exact ⟨by omega, by omega, rfl, h2, h⟩
      · rw [if_neg h2] at h; exact absurd h h2
    · rw [if_pos h1] at h; cases h
theorem chkL_cons {t : S27} {l : List S27} (h : chkL (t :: l) = 0) : chkT t = 0 ∧ chkL l = 0 := by
  rw [chkL] at h
  by_cases h0 : chkT t = 0
  · rw [if_pos h0] at h; exact ⟨h0, h⟩
  · rw [if_neg h0] at h; exact absurd h h0

mutual
def weiT : S27 → Int → Int × Int × Bool
  | ⟨th, ns, inn⟩, v => if ns.contains v = true then (th, (ns.length : Int) + (inn.length : Int), true) else weiL inn v th ((ns.length : Int) + (inn.length : Int))
def weiL : List S27 → Int → Int → Int → Int × Int × Bool
  | [], _, _, _ => (0, 0, false)
  | t :: l, v, a, b => if (weiT t v).2.2 = true then (a * (weiT t v).1, b * (weiT t v).2.1, true) else weiL l v a b
end
theorem depL_ge : ∀ (l : List S27) (c : Int), c ≤ depL l c ∧ ∀ x ∈ l, depT x ≤ depL l c
  | [], c => ⟨by rw [depL]; omega, fun x hx => by cases hx⟩
  | t :: l, c => by
    obtain ⟨h1, h2⟩ := depL_ge l (mx c (depT t))
    have hm : c ≤ mx c (depT t) ∧ depT t ≤ mx c (depT t) := by unfold mx; split <;> omega
    rw [depL]
    refine ⟨by omega, fun x hx => ?_⟩
    rcases List.mem_cons.1 hx with rfl | hx
    · omega
    · exact h2 x hx
theorem sizT_nn (t : S27) : 0 ≤ sizT t := (siz_bd (fuT t) t (Nat.le_refl _)).1
theorem sizL_ge : ∀ (l : List S27) (c : Int), c ≤ sizL l c ∧ (0 ≤ c → ∀ x ∈ l, sizT x ≤ sizL l c)
  | [], c => ⟨by rw [sizL]; omega, fun _ x hx => by cases hx⟩
  | t :: l, c => by
    have ht := sizT_nn t
    obtain ⟨h1, h2⟩ := sizL_ge l (c + sizT t)
    rw [sizL]
    refine ⟨by omega, fun hc x hx => ?_⟩
    rcases List.mem_cons.1 hx with rfl | hx
    · omega
    · exact h2 (by omega) x hx
theorem chkL_mem : ∀ {l : List S27}, chkL l = 0 → ∀ x ∈ l, chkT x = 0
  | [], _, x, hx => by cases hx
  | t :: l, h, x, hx => by
    obtain ⟨h1, h2⟩ := chkL_cons h
    rcases List.mem_cons.1 hx with rfl | hx
    · exact h1
    · exact chkL_mem h2 x hx
structure Ok (t : S27) (d : Nat) : Prop where
  dep : depT t ≤ d
  siz : sizT t ≤ 200
  chk : chkT t = 0
theorem Ok.inner {th : Int} {ns : List Int} {inn : List S27} {d : Nat} (h : Ok ⟨th, ns, inn⟩ (d + 1)) : ∀ x ∈ inn, Ok x d := by
  intro x hx
  have h1 := h.dep
  have h2 := h.siz
  rw [depT] at h1
  rw [sizT] at h2
  have a := (depL_ge inn 0).2 x hx
  have b := (sizL_ge inn ((ns.length : Int) + (inn.length : Int))).2 (by omega) x hx
  exact ⟨by omega, by omega, chkL_mem (chkT_ok h.chk).2.2.2.2 x hx⟩
theorem Ok.zero {t : S27} (h : Ok t 0) : False := by
  have h1 := h.dep
  obtain ⟨th, ns, inn⟩ := t
  rw [depT] at h1
  have := (depL_ge inn 0).1
  omega
theorem Ok.top {th : Int} {ns : List Int} {inn : List S27} {d : Nat} (h : Ok ⟨th, ns, inn⟩ d) : 1 ≤ th ∧ th ≤ (ns.length : Int) + (inn.length : Int) ∧ (ns.length : Int) + (inn.length : Int) ≤ 200 := by
  have h2 := h.siz
  rw [sizT] at h2
  have b := (sizL_ge inn ((ns.length : Int) + (inn.length : Int))).1
  obtain ⟨a1, a2, _⟩ := chkT_ok h.chk
  exact ⟨a1, a2, by omega⟩
def bdW : Nat → Int
  | 0 => 1
  | d + 1 => 200 * bdW d
theorem bdW_pos (d : Nat) : 1 ≤ bdW d := by induction d with | zero => exact Int.le_refl _ | succ d ih => rw [bdW]; omega
theorem bdW_le (d : Nat) (h : d ≤ 4) : bdW d ≤ 1600000000 := by
  have : d = 0 ∨ d = 1 ∨ d = 2 ∨ d = 3 ∨ d = 4 := by omega
  rcases this with rfl | rfl | rfl | rfl | rfl <;> decide
structure Part (w : Int × Int × Bool) (d : Nat) : Prop where
  one : 1 ≤ w.1
  le : w.1 ≤ w.2.1
  bd : w.2.1 ≤ bdW d
theorem part_mul {a b : Int} {w : Int × Int × Bool} {d : Nat} (h : Part w d) (h1 : 1 ≤ a) (h2 : a ≤ b) (h3 : b ≤ 200) : 1 ≤ a * w.1 ∧ a * w.1 ≤ b * w.2.1 ∧ b * w.2.1 ≤ bdW (d + 1) := by
  have p1 := h.one
  have p2 := h.le
  have p3 := h.bd
  refine ⟨?_, Int.mul_le_mul h2 p2 (by omega) (by omega), ?_⟩
  · have := Int.mul_le_mul h1 p1 (by omega) (by omega)
    omega
  · rw [bdW]; exact Int.mul_le_mul h3 p3 (by omega) (by omega)
theorem wei_part (v : Int) (d : Nat) : ∀ t : S27, Ok t d → (weiT t v).2.2 = true → Part (weiT t v) d := by
  induction d with
  | zero => intro t h; exact h.zero.elim
  | succ d ih =>
    intro t h
    obtain ⟨th, ns, inn⟩ := t
    obtain ⟨t1, t2, t3⟩ := h.top
    have hin := h.inner
    have bp := bdW_pos d
    rw [weiT]
    cases hc : ns.contains v
    · rw [if_neg (by decide)]
      generalize (ns.length : Int) + (inn.length : Int) = b at t2 t3
      clear h hc
      induction inn with
      | nil => intro hw; rw [weiL] at hw; cases hw
      | cons x l ihl =>
        intro hw
        rw [weiL] at hw ⊢
        cases hx : (weiT x v).2.2
        · rw [hx, if_neg (by decide)] at hw
          rw [if_neg (by decide)]
          exact ihl (fun y hy => hin y (List.mem_cons_of_mem _ hy)) hw
        · rw [if_pos rfl]
          obtain ⟨q1, q2, q3⟩ := part_mul (ih x (hin x List.mem_cons_self) hx) t1 t2 t3
          exact ⟨q1, q2, q3⟩
    · rw [if_pos rfl]
      intro _
      exact ⟨t1, t2, by rw [bdW]; show (ns.length : Int) + (inn.length : Int) ≤ _; omega⟩
theorem index_loop (l : List Int) (v : Int) (hl : l.length ≤ 1000000) (r : Nat) : ∀ (s k : Nat), s + r = l.length → r + 1 ≤ k → ∃ x, slices_Index_int_int.l0 k l v (l.length : Int) (s : Int) = some x ∧ decide (x ≥ 0) = (l.drop s).contains v := by
  induction r with
  | zero =>
    intro s k h1 hk
    obtain ⟨k, rfl⟩ : ∃ q, k = q + 1 := ⟨k - 1, by omega⟩
    exact ⟨-1, by rw [slices_Index_int_int.l0, if_neg (by omega)], by rw [List.drop_of_length_le (by omega)]; rfl⟩
  | succ r ih =>
    intro s k h1 hk
    obtain ⟨k, rfl⟩ : ∃ q, k = q + 1 := ⟨k - 1, by omega⟩
    have hs : s < l.length := by omega
    have ho : (l.drop s).contains v = (v == l[s] || (l.drop (s + 1)).contains v) := by rw [List.drop_eq_getElem_cons hs, List.contains_cons]
    rw [slices_Index_int_int.l0, if_pos (by omega), if_pos (by omega), if_pos (by omega), rd_at l s hs, ho]
    by_cases hb : v = l[s]
    · exact ⟨(s : Int), by rw [if_pos hb], by rw [beq_iff_eq.2 hb, decide_eq_true (by omega), Bool.true_or]⟩
    · obtain ⟨x, hx, hd⟩ := ih (s + 1) k (by omega) (by omega)
      exact ⟨x, by rw [if_neg hb, nx s (by omega)]; exact hx, by rw [hd, beq_eq_false_iff_ne.2 hb, Bool.false_or]⟩
theorem contains_eq (l : List Int) (v : Int) (hl : l.length ≤ 1000000) {k : Nat} (hk : l.length + 1 ≤ k) : slices_Contains_int_int.f k l v = some (l.contains v) := by
  obtain ⟨x, hx, hd⟩ := index_loop l v hl l.length 0 k (by omega) hk
  unfold slices_Contains_int_int.f slices_Index_int_int.f
  rw [show (0 : Int) = ((0 : Nat) : Int) from rfl, hx]
  simp only [Option.bind_some]
  rw [List.drop_zero] at hd
  rw [← hd]
  rfl
theorem weight_eq (v : Int) (d : Nat) : d ≤ 4 → ∀ (t : S27) (k : Nat), Ok t d → fuT t ≤ 1000000 → fuT t ≤ k → leaders_weight.f k t.f0 t.f1 t.f2 v = some (weiT t v) := by
  induction d with
  | zero => intro _ t k h; exact h.zero.elim
  | succ d ih =>
    intro hd4 t k h hb hk
    have ih := ih (by omega)
    obtain ⟨th, ns, inn⟩ := t
    rw [fuT] at hb hk
    have hl := fuL_len inn
    obtain ⟨t1, t2, t3⟩ := h.top
    have hin := h.inner
    have hbd := bdW_le (d + 1) hd4
    have key : ∀ (r s : Nat) (k : Nat), s + r = inn.length → fuL (inn.drop s) + 2 ≤ k → leaders_weight.l0 k v inn (inn.length : Int) (s : Int) th ((ns.length : Int) + (inn.length : Int)) = some (weiL (inn.drop s) v th ((ns.length : Int) + (inn.length : Int))) := by
      intro r
      induction r with
      | zero =>
        intro s k h1 hk
        obtain ⟨k, rfl⟩ : ∃ m, k = m + 1 := ⟨k - 1, by omega⟩
        rw [leaders_weight.l0, if_neg (by omega), List.drop_of_length_le (by omega), weiL]
      | succ r ihr =>
        intro s k h1 hk
        obtain ⟨k, rfl⟩ : ∃ m, k = m + 1 := ⟨k - 1, by omega⟩
        have hs : s < inn.length := by omega
        have hd := fuL_drop inn s hs
        have hle := fuL_le inn s
        rw [leaders_weight.l0, if_pos (by omega), if_pos (by omega), if_pos (by omega), rdS_at inn s hs, ih inn[s] k (hin _ (List.getElem_mem hs)) (by omega) (by omega)]
        simp only [Option.bind_some]
        rw [nx s (by omega), List.drop_eq_getElem_cons hs, weiL]
        cases hx : (weiT inn[s] v).2.2
        · rw [if_neg (by decide), if_neg (by decide)]; exact ihr (s + 1) k (by omega) (by omega)
        · obtain ⟨q1, q2, q3⟩ := part_mul (wei_part v d _ (hin _ (List.getElem_mem hs)) hx) t1 t2 t3
          rw [if_pos rfl, if_pos rfl, w64 (x := th * (weiT inn[s] v).1) (by omega) (by omega), w64 (x := ((ns.length : Int) + (inn.length : Int)) * (weiT inn[s] v).2.1) (by omega) (by omega)]
    obtain ⟨k, rfl⟩ : ∃ m, k = m + 1 := ⟨k - 1, by omega⟩
    show leaders_weight.f (k + 1) th ns inn v = _
    rw [leaders_weight.f, contains_eq ns v (by omega) (by omega), weiT, w64 (x := (ns.length : Int) + (inn.length : Int)) (by omega) (by omega)]
    simp only [Option.bind_some]
    cases hc : ns.contains v
    · rw [if_neg (by decide), if_neg (by decide)]; exact key inn.length 0 k (by omega) (by rw [List.drop_zero]; omega)
    · rw [if_pos rfl, if_pos rfl]
theorem Ok.val {t : S27} {d : Nat} (hd : d ≤ 4) (h : Ok t d) : valT t = 0 := valT_ok h.chk (by have := h.dep; omega) h.siz
theorem Weight_eq (v : Int) {d : Nat} (hd : d ≤ 4) (t : S27) {k : Nat} (h : Ok t d) (hb : fuT t ≤ 1000000) (hk : fuT t ≤ k) : leaders_Weight.f k t.f0 t.f1 t.f2 v = some (weiT t v) := by
  unfold leaders_Weight.f
  rw [valid_eq t hb hk, h.val hd]
  simp only [Option.bind_some, if_true]
  rw [weight_eq v d hd t k h hb hk]; rfl
theorem awake_eq {k : Nat} (hk : 200 ≤ k) : trustquorumlaw21_awake.f k = some true := by
  have h : Ok (⟨2, [0, 1], [⟨1, [2, 3], []⟩]⟩ : S27) 4 := ⟨by decide +kernel, by decide +kernel, by decide +kernel⟩
  have hb : fuT (⟨2, [0, 1], [⟨1, [2, 3], []⟩]⟩ : S27) ≤ 100 := by decide +kernel
  have w (v : Int) := Weight_eq v (by omega) _ h (k := k) (by omega) (by omega)
  have w0 := w 0
  have w3 := w 3
  have w4 := w 4
  rw [show weiT (⟨2, [0, 1], [⟨1, [2, 3], []⟩]⟩ : S27) 0 = (2, 3, true) by decide +kernel] at w0
  rw [show weiT (⟨2, [0, 1], [⟨1, [2, 3], []⟩]⟩ : S27) 3 = (2, 6, true) by decide +kernel] at w3
  rw [show weiT (⟨2, [0, 1], [⟨1, [2, 3], []⟩]⟩ : S27) 4 = (0, 0, false) by decide +kernel] at w4
  unfold trustquorumlaw21_awake.f
  simp only [Option.bind_some]
  rw [w0, w3, w4]
  rfl

def hsh (a b c d : Int) : Int := (leaders_Hash.f a b c d).getD 0
theorem hash_eq (a b c d : Int) : leaders_Hash.f a b c d = some (hsh a b c d) := by unfold hsh leaders_Hash.f; rfl
theorem hash_bd (a b c d : Int) : 0 ≤ hsh a b c d ∧ hsh a b c d < 4294967296 := by
  unfold hsh leaders_Hash.f
  rw [Option.getD_some]
  exact ⟨Int.emod_nonneg _ (by decide), Int.emod_lt_of_pos _ (by decide)⟩
theorem u64 {x : Int} (h : 0 ≤ x) (h' : x < 18446744073709551616) : IntKind.u64.wrap x = x := by rw [IntKind.wrap_u64]; omega
def nbT (t : S27) (own slot round v : Int) : Bool := if v = own then true else if (weiT t v).2.2 = true then decide (hsh 1 slot round v * (weiT t v).2.1 < (weiT t v).1 * 4294967296) else false
theorem neighbour_eq {d : Nat} (hd : d ≤ 4) (t : S27) {k : Nat} (h : Ok t d) (hb : fuT t ≤ 1000000) (hk : fuT t ≤ k) (own slot round v : Int) : leaders_neighbour.f k t.f0 t.f1 t.f2 own slot round v = some (nbT t own slot round v) := by
  unfold leaders_neighbour.f nbT
  by_cases ho : v = own
  · rw [if_pos ho, if_pos ho]
  · rw [if_neg ho, if_neg ho, weight_eq v d hd t k h hb hk]
    simp only [Option.bind_some]
    cases hw : (weiT t v).2.2
    · rw [if_neg (by decide), if_neg (by decide)]
    · have p := wei_part v d t h hw
      have p1 := p.one
      have p2 := p.le
      have p3 := p.bd
      have hbd := bdW_le d hd
      obtain ⟨b0, b1⟩ := hash_bd 1 slot round v
      rw [if_pos rfl, if_pos rfl, hash_eq]
      simp only [Option.bind_some]
      have m1 : hsh 1 slot round v * (weiT t v).2.1 ≤ 4294967296 * 1600000000 := Int.mul_le_mul (by omega) (by omega) (by omega) (by omega)
      have m0 : 0 ≤ hsh 1 slot round v * (weiT t v).2.1 := Int.mul_nonneg b0 (by omega)
      rw [u64 (x := hsh 1 slot round v) (by omega) (by omega), u64 (x := (weiT t v).2.1) (by omega) (by omega), u64 (x := (weiT t v).1) (by omega) (by omega), u64 (x := hsh 1 slot round v * (weiT t v).2.1) (by omega) (by omega), u64 (x := (weiT t v).1 * 4294967296) (by omega) (by omega)]
def choL (t : S27) (own slot round : Int) : Nat → Nat → Int → Int → Int
  | 0, _, best, _ => best
  | r + 1, s, best, bh => if nbT t own slot round (s : Int) = true then (if hsh 2 slot round (s : Int) ≥ bh then choL t own slot round r (s + 1) (s : Int) (hsh 2 slot round (s : Int)) else choL t own slot round r (s + 1) best bh) else choL t own slot round r (s + 1) best bh
def choT (t : S27) (own slot round : Int) : Int := choL t own slot round 10 0 own 0
theorem choose_loop {d : Nat} (hd : d ≤ 4) (t : S27) (h : Ok t d) (hb : fuT t ≤ 1000000) (own slot round : Int) (r : Nat) : ∀ (s k : Nat) (best bh : Int), s + r = 10 → fuT t + r + 1 ≤ k → leaders_choose.l0 k own slot round best bh (s : Int) t.f0 t.f1 t.f2 = some (choL t own slot round r s best bh) := by
  induction r with
  | zero =>
    intro s k best bh h1 hk
    obtain ⟨k, rfl⟩ : ∃ m, k = m + 1 := ⟨k - 1, by omega⟩
    rw [leaders_choose.l0, if_neg (by omega), choL]
  | succ r ih =>
    intro s k best bh h1 hk
    obtain ⟨k, rfl⟩ : ∃ m, k = m + 1 := ⟨k - 1, by omega⟩
    rw [leaders_choose.l0, if_pos (by omega), neighbour_eq hd t h hb (by omega), choL]
    simp only [Option.bind_some]
    rw [nx s (by omega)]
    cases hn : nbT t own slot round (s : Int)
    · rw [if_neg (by decide), if_neg (by decide)]; exact ih (s + 1) k best bh (by omega) (by omega)
    · rw [if_pos rfl, if_pos rfl, hash_eq]
      simp only [Option.bind_some]
      split
      · exact ih (s + 1) k _ _ (by omega) (by omega)
      · exact ih (s + 1) k best bh (by omega) (by omega)
theorem choose_eq {d : Nat} (hd : d ≤ 4) (t : S27) {k : Nat} (h : Ok t d) (hb : fuT t ≤ 1000000) (hk : fuT t + 11 ≤ k) (own slot round : Int) : leaders_choose.f k t.f0 t.f1 t.f2 own slot round = some (choT t own slot round) := by
  unfold leaders_choose.f choT
  exact choose_loop hd t h hb own slot round 10 0 k own 0 (by omega) (by omega)
structure Best (t : S27) (own slot round : Int) (s : Nat) (best bh : Int) : Prop where
  nb : nbT t own slot round best = true
  b0 : 0 ≤ best
  b1 : best < 10
  hb : 0 ≤ bh
  le : bh ≤ hsh 2 slot round best
  eq : (bh = hsh 2 slot round best) ∨ (bh = 0 ∧ ∀ x : Nat, x < s → nbT t own slot round (x : Int) = false)
  most : ∀ x : Nat, x < s → nbT t own slot round (x : Int) = true → hsh 2 slot round (x : Int) ≤ bh ∧ (hsh 2 slot round (x : Int) = bh → (x : Int) ≤ best)
theorem cho_best (t : S27) (own slot round : Int) (r : Nat) : ∀ (s : Nat) (best bh : Int), s + r = 10 → Best t own slot round s best bh → ∃ bh', Best t own slot round 10 (choL t own slot round r s best bh) bh' := by
  induction r with
  | zero => intro s best bh h1 h; rw [choL]; rw [show s = 10 by omega] at h; exact ⟨bh, h⟩
  | succ r ih =>
    intro s best bh h1 h
    rw [choL]
    cases hn : nbT t own slot round (s : Int)
    · rw [if_neg (by decide)]
      refine ih (s + 1) best bh (by omega) ⟨h.nb, h.b0, h.b1, h.hb, h.le, ?_, ?_⟩
      · rcases h.eq with e | e
        · exact .inl e
        · refine .inr ⟨e.1, fun x hx => ?_⟩
          by_cases hs : x = s
          · rw [hs]; exact hn
          · exact e.2 x (by omega)
      · intro x hx hxn
        by_cases hs : x = s
        · rw [hs, hn] at hxn; cases hxn
        · exact h.most x (by omega) hxn
    · rw [if_pos rfl]
      by_cases hg : hsh 2 slot round (s : Int) ≥ bh
      · rw [if_pos hg]
        refine ih (s + 1) _ _ (by omega) ⟨hn, by omega, by omega, (hash_bd _ _ _ _).1, Int.le_refl _, .inl rfl, ?_⟩
        intro x hx hxn
        by_cases hs : x = s
        · rw [hs]; exact ⟨Int.le_refl _, fun _ => Int.le_refl _⟩
        · have := h.most x (by omega) hxn
          exact ⟨by omega, fun _ => by omega⟩
      · rw [if_neg hg]
        refine ih (s + 1) best bh (by omega) ⟨h.nb, h.b0, h.b1, h.hb, h.le, ?_, ?_⟩
        · rcases h.eq with e | e
          · exact .inl e
          · have := (hash_bd 2 slot round (s : Int)).1
            exact absurd hg (by rw [e.1]; omega)
        · intro x hx hxn
          by_cases hs : x = s
          · rw [hs]; exact ⟨by omega, fun _ => by omega⟩
          · exact h.most x (by omega) hxn
theorem cho_all (t : S27) {own slot round : Int} (o0 : 0 ≤ own) (o1 : own < 10) : nbT t own slot round (choT t own slot round) = true ∧ 0 ≤ choT t own slot round ∧ choT t own slot round < 10 ∧
    ∀ x : Nat, x < 10 → nbT t own slot round (x : Int) = true → hsh 2 slot round (x : Int) ≤ hsh 2 slot round (choT t own slot round) ∧ (hsh 2 slot round (x : Int) = hsh 2 slot round (choT t own slot round) → (x : Int) ≤ choT t own slot round) := by
  have hown : nbT t own slot round own = true := by unfold nbT; rw [if_pos rfl]
  obtain ⟨bh, h⟩ := cho_best t own slot round 10 0 own 0 (by omega) ⟨hown, o0, o1, Int.le_refl _, (hash_bd _ _ _ _).1, .inr ⟨rfl, fun x hx => by omega⟩, fun x hx => by omega⟩
  refine ⟨h.nb, h.b0, h.b1, ?_⟩
  have e : bh = hsh 2 slot round (choT t own slot round) := by
    rcases h.eq with e | e
    · exact e
    · have := e.2 own.toNat (by omega)
      rw [Int.toNat_of_nonneg o0, hown] at this; cases this
  rw [← e]
  exact h.most
theorem ob {α β : Type} (a : α) (f : α → Option β) : (some a).bind f = f a := by rw [Option.bind_some]
theorem rweight_eq (v : Int) (d : Nat) : d ≤ 4 → ∀ (t : S27) (k : Nat), Ok t d → fuT t ≤ 1000000 → 2 * fuT t ≤ k → trustquorumref21_weight.f k t.f0 t.f1 t.f2 v = some (weiT t v) := by
  induction d with
  | zero => intro _ t k h; exact h.zero.elim
  | succ d ih =>
    intro hd4 t k h hb hk
    have ih := ih (by omega)
    obtain ⟨th, ns, inn⟩ := t
    rw [fuT] at hb hk
    have hl := fuL_len inn
    obtain ⟨t1, t2, t3⟩ := h.top
    have hin := h.inner
    have hbd := bdW_le (d + 1) hd4
    have key : ∀ (r s : Nat) (k : Nat), s + r = inn.length → 2 * fuL (inn.drop s) + 2 ≤ k → trustquorumref21_weight.l1 k v ((ns.length : Int) + (inn.length : Int)) inn (inn.length : Int) (s : Int) th ns inn = some (weiL (inn.drop s) v th ((ns.length : Int) + (inn.length : Int))) := by
      intro r
      induction r with
      | zero =>
        intro s k h1 hk
        obtain ⟨k, rfl⟩ : ∃ m, k = m + 1 := ⟨k - 1, by omega⟩
        rw [trustquorumref21_weight.l1, if_neg (by omega), List.drop_of_length_le (by omega), weiL]
      | succ r ihr =>
        intro s k h1 hk
        obtain ⟨k, rfl⟩ : ∃ m, k = m + 1 := ⟨k - 1, by omega⟩
        have hs : s < inn.length := by omega
        have hd := fuL_drop inn s hs
        have hle := fuL_le inn s
        rw [trustquorumref21_weight.l1, if_pos (by omega), if_pos (by omega), if_pos (by omega), rdS_at inn s hs, ih inn[s] k (hin _ (List.getElem_mem hs)) (by omega) (by omega)]
        simp only [Option.bind_some]
        rw [nx s (by omega), List.drop_eq_getElem_cons hs, weiL]
        cases hx : (weiT inn[s] v).2.2
        · rw [if_neg (by decide), if_neg (by decide)]; exact ihr (s + 1) k (by omega) (by omega)
        · obtain ⟨q1, q2, q3⟩ := part_mul (wei_part v d _ (hin _ (List.getElem_mem hs)) hx) t1 t2 t3
          rw [if_pos rfl, if_pos rfl, w64 (x := th * (weiT inn[s] v).1) (by omega) (by omega), w64 (x := ((ns.length : Int) + (inn.length : Int)) * (weiT inn[s] v).2.1) (by omega) (by omega)]
    have nodes : ∀ (r s : Nat) (k : Nat), s + r = ns.length → 2 * fuL inn + r + 4 ≤ k → trustquorumref21_weight.l0 k v ((ns.length : Int) + (inn.length : Int)) ns (ns.length : Int) (s : Int) th ns inn = some (if (ns.drop s).contains v = true then (th, (ns.length : Int) + (inn.length : Int), true) else weiL inn v th ((ns.length : Int) + (inn.length : Int))) := by
      intro r
      induction r with
      | zero =>
        intro s k h1 hk
        obtain ⟨k, rfl⟩ : ∃ m, k = m + 1 := ⟨k - 1, by omega⟩
        have h0 := key inn.length 0 k (by omega) (by rw [List.drop_zero]; omega)
        rw [List.drop_zero] at h0
        rw [trustquorumref21_weight.l0, if_neg (by omega), List.drop_of_length_le (by omega), if_neg (by simp)]
        exact h0
      | succ r ihr =>
        intro s k h1 hk
        obtain ⟨k, rfl⟩ : ∃ m, k = m + 1 := ⟨k - 1, by omega⟩
        have hs : s < ns.length := by omega
        have ho : (ns.drop s).contains v = (v == ns[s] || (ns.drop (s + 1)).contains v) := by rw [List.drop_eq_getElem_cons hs, List.contains_cons]
        rw [trustquorumref21_weight.l0, if_pos (by omega), if_pos (by omega), if_pos (by omega), rd_at ns s hs, ho]
        by_cases hv : ns[s] = v
        · rw [if_pos hv, beq_iff_eq.2 hv.symm, Bool.true_or, if_pos rfl]
        · rw [if_neg hv, beq_eq_false_iff_ne.2 (fun e => hv e.symm), Bool.false_or, nx s (by omega)]
          exact ihr (s + 1) k (by omega) (by omega)
    obtain ⟨k, rfl⟩ : ∃ m, k = m + 1 := ⟨k - 1, by omega⟩
    have h0 := nodes ns.length 0 k (by omega) (by omega)
    rw [List.drop_zero] at h0
    show trustquorumref21_weight.f (k + 1) th ns inn v = _
    rw [trustquorumref21_weight.f, weiT, w64 (x := (ns.length : Int) + (inn.length : Int)) (by omega) (by omega)]
    exact h0
theorem val_Ok {t : S27} (h : valT t = 0) : Ok t 4 := by
  unfold valT at h
  split at h
  · cases h
  · split at h
    · cases h
    · exact ⟨by omega, by omega, h⟩
def askT (t : S27) (own slot round : Int) : Int := if valT t = 0 then (if own < 0 then 5 else if own ≥ 10 then 5 else if slot < 0 then 1 else if slot > 1000000 then 1 else if round < 1 then 1 else if round > 1000 then 1 else 0) else valT t
theorem ask_ok {t : S27} {own slot round : Int} (h : askT t own slot round = 0) : Ok t 4 ∧ 0 ≤ own ∧ own < 10 ∧ 0 ≤ slot ∧ slot ≤ 1000000 ∧ 1 ≤ round ∧ round ≤ 1000 := by
  unfold askT at h
  split at h
  · rename_i hv
    repeat' split at h
    all_goals first | (cases h; done) | exact ⟨val_Ok hv, by omega, by omega, by omega, by omega, by omega, by omega⟩
  · rename_i hv; exact absurd h hv
theorem ask_round {t : S27} {own slot round r : Int} (h : askT t own slot round = 0) (r0 : 1 ≤ r) (r1 : r ≤ 1000) : askT t own slot r = 0 := by
  have hv : valT t = 0 := by
    unfold askT at h
    split at h
    · assumption
    · assumption
  obtain ⟨_, a, b, c, d, _, _⟩ := ask_ok h
  unfold askT
  rw [if_pos hv, if_neg (by omega), if_neg (by omega), if_neg (by omega), if_neg (by omega), if_neg (by omega), if_neg (by omega)]
theorem asked_all (t : S27) {k : Nat} (hb : fuT t ≤ 1000000) (hk : fuT t + 1 ≤ k) (own slot round : Int) : leaders_asked.f k t.f0 t.f1 t.f2 own slot round = some (askT t own slot round) := by
  obtain ⟨k, rfl⟩ : ∃ m, k = m + 1 := ⟨k - 1, by omega⟩
  unfold leaders_asked.f askT
  rw [valid_eq t hb (by omega)]
  simp only [Option.bind_some]
  by_cases hv : valT t = 0
  · rw [if_pos hv, if_pos hv, leaders_asked.j0, leaders_asked.j0]
    by_cases h1 : own < 0
    · rw [if_pos h1, if_pos h1, if_pos rfl]
    · rw [if_neg h1, if_neg h1]
      by_cases h2 : own ≥ 10
      · rw [if_pos (decide_eq_true h2), if_pos h2]
      · rw [if_neg (by rw [decide_eq_false h2]; decide), if_neg h2]
        repeat' split
        all_goals rfl
  · rw [if_neg hv, if_neg hv]
theorem begin_all (t : S27) {k : Nat} (hb : fuT t ≤ 1000000) (hk : fuT t + 1 ≤ k) (own slot round : Int) : trustquorumref21_begin.f k t.f0 t.f1 t.f2 own slot round = some (askT t own slot round) := by
  obtain ⟨k, rfl⟩ : ∃ m, k = m + 1 := ⟨k - 1, by omega⟩
  unfold trustquorumref21_begin.f askT
  rw [refValid_eq t hb (by omega)]
  simp only [Option.bind_some]
  by_cases hv : valT t = 0
  · rw [if_pos hv, if_pos hv, trustquorumref21_begin.j0, trustquorumref21_begin.j0]
    by_cases h1 : own < 0
    · rw [if_pos h1, if_pos h1, if_pos rfl]
    · rw [if_neg h1, if_neg h1]
      by_cases h2 : own ≥ 10
      · rw [if_pos (decide_eq_true h2), if_pos h2]
      · rw [if_neg (by rw [decide_eq_false h2]; decide), if_neg h2]
        repeat' split
        all_goals rfl
  · rw [if_neg hv, if_neg hv]
theorem rhash_eq (a b c d : Int) : trustquorumref21_Hash.f a b c d = some (hsh a b c d) := by
  have e : trustquorumref21_Hash.f a b c d = leaders_Hash.f a b c d := by unfold trustquorumref21_Hash.f leaders_Hash.f; exact Eq.refl _
  exact e.trans (hash_eq a b c d)
theorem weight_same (t : S27) (v : Int) {k : Nat} (hb : fuT t ≤ 1000000) (hk : 2 * fuT t ≤ k) : ∃ w, leaders_Weight.f k t.f0 t.f1 t.f2 v = some w ∧ trustquorumref21_Weight.f k t.f0 t.f1 t.f2 v = some w := by
  unfold leaders_Weight.f trustquorumref21_Weight.f
  rw [valid_eq t hb (by omega), refValid_eq t hb (by omega)]
  simp only [Option.bind_some]
  by_cases hv : valT t = 0
  · rw [if_pos hv, if_pos hv, weight_eq v 4 (by omega) t k (val_Ok hv) hb (by omega), rweight_eq v 4 (by omega) t k (val_Ok hv) hb hk]
    exact ⟨_, rfl, rfl⟩
  · rw [if_neg hv, if_neg hv]; exact ⟨_, rfl, rfl⟩
def nbA (t : S27) (own slot round v : Int) : Bool := if askT t own slot round = 0 then (if v < 0 then false else if v ≥ 10 then false else nbT t own slot round v) else false
theorem Neighbour_all (t : S27) {k : Nat} (hb : fuT t ≤ 1000000) (hk : fuT t + 1 ≤ k) (own slot round v : Int) : leaders_Neighbour.f k t.f0 t.f1 t.f2 own slot round v = some (nbA t own slot round v) := by
  unfold leaders_Neighbour.f nbA
  rw [asked_all t hb hk]
  simp only [Option.bind_some]
  by_cases ha : askT t own slot round = 0
  · obtain ⟨ho, _⟩ := ask_ok ha
    rw [if_pos ha, if_pos ha, neighbour_eq (by omega) t ho hb (by omega)]
    simp only [Option.bind_some]
    split
    · rfl
    · split
      · rfl
      · rfl
  · rw [if_neg ha, if_neg ha]
theorem rNeighbour_all (t : S27) {k : Nat} (hb : fuT t ≤ 1000000) (hk : 2 * fuT t + 2 ≤ k) (own slot round v : Int) : trustquorumref21_Neighbour.f k t.f0 t.f1 t.f2 own slot round v = some (nbA t own slot round v) := by
  obtain ⟨k, rfl⟩ : ∃ m, k = m + 1 := ⟨k - 1, by omega⟩
  unfold trustquorumref21_Neighbour.f nbA
  rw [begin_all t hb (by omega)]
  simp only [Option.bind_some]
  by_cases ha : askT t own slot round = 0
  · obtain ⟨ho, _⟩ := ask_ok ha
    have key : trustquorumref21_Neighbour.j0 (k + 1) own slot round v false t.f0 t.f1 t.f2 = some (nbT t own slot round v) := by
      rw [trustquorumref21_Neighbour.j0, if_neg (by decide), rweight_eq v 4 (by omega) t k ho hb (by omega)]
      simp only [Option.bind_some]
      unfold nbT
      by_cases hv : v = own
      · rw [if_pos hv, if_pos hv]
      · rw [if_neg hv, if_neg hv]
        cases hw : (weiT t v).2.2
        · rw [if_neg (by decide), if_neg (by decide)]
        · have p := wei_part v 4 t ho hw
          have p1 := p.one
          have p2 := p.le
          have p3 := p.bd
          have hbd := bdW_le 4 (by omega)
          obtain ⟨b0, b1⟩ := hash_bd 1 slot round v
          have m1 : hsh 1 slot round v * (weiT t v).2.1 ≤ 4294967296 * 1600000000 := Int.mul_le_mul (by omega) (by omega) (by omega) (by omega)
          have m0 : 0 ≤ hsh 1 slot round v * (weiT t v).2.1 := Int.mul_nonneg b0 (by omega)
          rw [if_pos rfl, if_pos rfl, rhash_eq]
          simp only [Option.bind_some]
          rw [w64 (x := hsh 1 slot round v) (by omega) (by omega), w64 (x := hsh 1 slot round v * (weiT t v).2.1) (by omega) (by omega), w64 (x := (weiT t v).1 * 4294967296) (by omega) (by omega)]
    rw [if_pos ha, if_pos ha]
    by_cases h1 : v < 0
    · rw [if_pos h1, if_pos h1, trustquorumref21_Neighbour.j0, if_pos rfl]
    · rw [if_neg h1, if_neg h1]
      by_cases h2 : v ≥ 10
      · rw [if_pos h2, decide_eq_true h2, trustquorumref21_Neighbour.j0, if_pos rfl]
      · rw [if_neg h2, decide_eq_false h2]; exact key
  · rw [if_neg ha, if_neg ha, trustquorumref21_Neighbour.j0, if_pos rfl]
structure RBest (t : S27) (own slot round : Int) (s : Nat) (best : Int) : Prop where
  nb : nbT t own slot round best = true
  b0 : 0 ≤ best
  b1 : best < 10
  most : ∀ x : Nat, x < s → nbT t own slot round (x : Int) = true → hsh 2 slot round (x : Int) ≤ hsh 2 slot round best ∧ (hsh 2 slot round (x : Int) = hsh 2 slot round best → (x : Int) ≤ best)
theorem rcho_loop (t : S27) {own slot round : Int} (ha : askT t own slot round = 0) (hb : fuT t ≤ 1000000) (r : Nat) : ∀ (s k : Nat) (best : Int), s + r = 10 → 2 * fuT t + r + 4 ≤ k → RBest t own slot round s best → ∃ b, trustquorumref21_Choose.l0 k own slot round best (s : Int) t.f0 t.f1 t.f2 = some (b, 0) ∧ RBest t own slot round 10 b := by
  induction r with
  | zero =>
    intro s k best h1 hk h
    obtain ⟨k, rfl⟩ : ∃ m, k = m + 1 := ⟨k - 1, by omega⟩
    exact ⟨best, by rw [trustquorumref21_Choose.l0, if_neg (by omega)], by rw [show (10 : Nat) = s by omega]; exact h⟩
  | succ r ih =>
    intro s k best h1 hk h
    obtain ⟨k, rfl⟩ : ∃ m, k = m + 1 := ⟨k - 1, by omega⟩
    have e : nbA t own slot round (s : Int) = nbT t own slot round (s : Int) := by unfold nbA; rw [if_pos ha, if_neg (by omega), if_neg (by omega)]
    have put : ∀ (b : Int), RBest t own slot round (s + 1) b → ∃ b', trustquorumref21_Choose.l0 k own slot round b (((s + 1 : Nat)) : Int) t.f0 t.f1 t.f2 = some (b', 0) ∧ RBest t own slot round 10 b' := fun b hb' => ih (s + 1) k b (by omega) (by omega) hb'
    rw [trustquorumref21_Choose.l0, if_pos (by omega), rNeighbour_all t hb (by omega), e, ob, nx s (by omega)]
    cases hn : nbT t own slot round (s : Int)
    · rw [if_neg (by decide)]
      refine put best ⟨h.nb, h.b0, h.b1, fun x hx hxn => ?_⟩
      by_cases hs : x = s
      · rw [hs, hn] at hxn; cases hxn
      · exact h.most x (by omega) hxn
    · rw [if_pos rfl, rhash_eq, ob, rhash_eq, ob]
      have new : hsh 2 slot round best ≤ hsh 2 slot round (s : Int) → (hsh 2 slot round best = hsh 2 slot round (s : Int) → best ≤ s) → RBest t own slot round (s + 1) (s : Int) := fun g1 g2 => ⟨hn, by omega, by omega, fun x hx hxn => by
        by_cases hs : x = s
        · rw [hs]; exact ⟨Int.le_refl _, fun _ => Int.le_refl _⟩
        · obtain ⟨m1, m2⟩ := h.most x (by omega) hxn
          exact ⟨by omega, fun _ => by omega⟩⟩
      have old : hsh 2 slot round (s : Int) ≤ hsh 2 slot round best → (hsh 2 slot round (s : Int) = hsh 2 slot round best → (s : Int) ≤ best) → RBest t own slot round (s + 1) best := fun g1 g2 => ⟨h.nb, h.b0, h.b1, fun x hx hxn => by
        by_cases hs : x = s
        · rw [hs]; exact ⟨g1, g2⟩
        · exact h.most x (by omega) hxn⟩
      by_cases g : hsh 2 slot round (s : Int) > hsh 2 slot round best
      · rw [if_pos g]; exact put _ (new (by omega) (fun g' => by omega))
      · rw [if_neg g]
        by_cases g2 : hsh 2 slot round (s : Int) = hsh 2 slot round best
        · rw [if_pos g2]
          by_cases g3 : (s : Int) > best
          · rw [if_pos g3]; exact put _ (new (by omega) (fun _ => by omega))
          · rw [if_neg g3]; exact put _ (old (by omega) (fun _ => by omega))
        · rw [if_neg g2]; exact put _ (old (by omega) (fun g' => absurd g' g2))
theorem rbest_eq (t : S27) {own slot round : Int} (o0 : 0 ≤ own) (o1 : own < 10) {b : Int} (h : RBest t own slot round 10 b) : b = choT t own slot round := by
  obtain ⟨c1, c2, c3, c4⟩ := cho_all t (slot := slot) (round := round) o0 o1
  generalize choT t own slot round = c at c1 c2 c3 c4
  obtain ⟨c, rfl⟩ := Int.eq_ofNat_of_zero_le c2
  have b0 := h.b0
  have b1 := h.b1
  have bn := h.nb
  have bm := h.most
  obtain ⟨b, rfl⟩ := Int.eq_ofNat_of_zero_le b0
  obtain ⟨m1, m2⟩ := c4 b (by omega) bn
  obtain ⟨m3, m4⟩ := bm c (by omega) c1
  have e : hsh 2 slot round (b : Int) = hsh 2 slot round (c : Int) := by omega
  have := m2 e
  have := m4 e.symm
  omega
def choA (t : S27) (own slot round : Int) : Int × Int := if askT t own slot round = 0 then (choT t own slot round, 0) else (0, askT t own slot round)
theorem Choose_all (t : S27) {k : Nat} (hb : fuT t ≤ 1000000) (hk : fuT t + 20 ≤ k) (own slot round : Int) : leaders_Choose.f k t.f0 t.f1 t.f2 own slot round = some (choA t own slot round) := by
  unfold leaders_Choose.f choA
  rw [asked_all t hb (by omega)]
  simp only [Option.bind_some]
  by_cases ha : askT t own slot round = 0
  · obtain ⟨ho, _⟩ := ask_ok ha
    rw [if_pos ha, if_pos ha, choose_eq (by omega) t ho hb (by omega)]; rfl
  · rw [if_neg ha, if_neg ha]
theorem rChoose_all (t : S27) {k : Nat} (hb : fuT t ≤ 1000000) (hk : 2 * fuT t + 20 ≤ k) (own slot round : Int) : trustquorumref21_Choose.f k t.f0 t.f1 t.f2 own slot round = some (choA t own slot round) := by
  unfold trustquorumref21_Choose.f choA
  rw [begin_all t hb (by omega)]
  simp only [Option.bind_some]
  by_cases ha : askT t own slot round = 0
  · obtain ⟨ho, o0, o1, _⟩ := ask_ok ha
    have hown : nbT t own slot round own = true := by unfold nbT; rw [if_pos rfl]
    obtain ⟨b, e, hB⟩ := rcho_loop t ha hb 10 0 k own (by omega) (by omega) ⟨hown, o0, o1, fun x hx => by omega⟩
    rw [if_pos ha, if_pos ha, ← rbest_eq t o0 o1 hB]
    exact e
  · rw [if_neg ha, if_neg ha]
def ldT (t : S27) (own slot : Int) : Nat → Nat
  | 0 => 0
  | n + 1 => ldT t own slot n ||| 2 ^ (choT t own slot ((n : Int) + 1)).toNat
theorem ldT_lt (t : S27) {own slot : Int} (o0 : 0 ≤ own) (o1 : own < 10) (n : Nat) : ldT t own slot n < 1024 := by
  induction n with
  | zero => rw [ldT]; omega
  | succ n ih =>
    obtain ⟨_, q2, q3, _⟩ := cho_all t (slot := slot) (round := (n : Int) + 1) o0 o1
    rw [ldT]; exact Nat.or_lt_two_pow (n := 10) ih (pow_lt _ (by omega))
theorem or_one {m : Nat} {c : Int} (hm : m < 1024) (c0 : 0 ≤ c) (c1 : c < 10) : Go.bits .or .i64 (m : Int) (shl .i64 1 c) = ((m ||| 2 ^ c.toNat : Nat) : Int) := by
  obtain ⟨i, rfl⟩ := Int.eq_ofNat_of_zero_le c0
  rw [shl_eq i (by omega), or_eq m _ hm (pow_lt i (by omega)), Int.toNat_natCast]
theorem leaders_loop (t : S27) (ht : Ok t 4) (hf : fuT t ≤ 10000) {own slot : Int} (o0 : 0 ≤ own) (o1 : own < 10) (n r : Nat) (hn : n ≤ 100) : ∀ (s k : Nat), s + r = n → 11000 + r ≤ k → leaders_Leaders.l0 k own slot ((ldT t own slot s : Nat) : Int) (n : Int) (s : Int) t.f0 t.f1 t.f2 = some (((ldT t own slot n : Nat) : Int), 0) := by
  induction r with
  | zero =>
    intro s k h1 hk
    obtain ⟨k, rfl⟩ : ∃ m, k = m + 1 := ⟨k - 1, by omega⟩
    rw [leaders_Leaders.l0, if_neg (by omega), show s = n by omega]
  | succ r ih =>
    intro s k h1 hk
    obtain ⟨k, rfl⟩ : ∃ m, k = m + 1 := ⟨k - 1, by omega⟩
    obtain ⟨_, q2, q3, _⟩ := cho_all t (slot := slot) (round := (s : Int) + 1) o0 o1
    have nxt := ih (s + 1) k (by omega) (by omega)
    rw [leaders_Leaders.l0, if_pos (by omega), choose_eq (by omega) t ht (by omega) (by omega), w64 (x := (s : Int) + 1) (by omega) (by omega)]
    simp only [Option.bind_some]
    rw [if_pos q2, or_one (ldT_lt t o0 o1 s) q2 q3]
    rw [ldT] at nxt
    exact nxt
theorem or_in {m i : Nat} (h : m.testBit i = true) : m ||| 2 ^ i = m := by
  refine Nat.eq_of_testBit_eq fun j => ?_
  rw [Nat.testBit_or, Nat.testBit_two_pow]
  by_cases e : i = j
  · rw [← e, h]; rfl
  · rw [decide_eq_false e, Bool.or_false]
theorem rleaders_loop (t : S27) {own slot rr : Int} (ha : askT t own slot rr = 0) (hf : fuT t ≤ 10000) (n r : Nat) (hn : n ≤ 100) : ∀ (s k : Nat), s + r = n → 22000 + r ≤ k → trustquorumref21_Leaders.l0 k own slot (n : Int) ((ldT t own slot s : Nat) : Int) ((s + 1 : Nat) : Int) t.f0 t.f1 t.f2 = some (((ldT t own slot n : Nat) : Int), 0) := by
  obtain ⟨_, o0, o1, _⟩ := ask_ok ha
  induction r with
  | zero =>
    intro s k h1 hk
    obtain ⟨k, rfl⟩ : ∃ m, k = m + 1 := ⟨k - 1, by omega⟩
    rw [trustquorumref21_Leaders.l0, if_neg (by omega), show s = n by omega]
  | succ r ih =>
    intro s k h1 hk
    obtain ⟨k, rfl⟩ : ∃ m, k = m + 1 := ⟨k - 1, by omega⟩
    obtain ⟨_, q2, q3, _⟩ := cho_all t (slot := slot) (round := (s : Int) + 1) o0 o1
    have hl := ldT_lt t (slot := slot) o0 o1 s
    have nxt := ih (s + 1) k (by omega) (by omega)
    have e : choA t own slot ((s + 1 : Nat) : Int) = (choT t own slot ((s : Int) + 1), 0) := by unfold choA; rw [if_pos (ask_round ha (by omega) (by omega))]; rfl
    rw [trustquorumref21_Leaders.l0, if_pos (by omega), rChoose_all t (by omega) (by omega), e]
    simp only [Option.bind_some]
    rw [has_ref _ hl]
    simp only [Option.bind_some]
    rw [nx (s + 1) (by omega)]
    rw [ldT] at nxt
    cases hb : tb (ldT t own slot s) (choT t own slot ((s : Int) + 1))
    · rw [if_neg (by decide), if_pos q2, or_one hl q2 q3]
      exact nxt
    · rw [if_pos rfl]
      have hbit : (ldT t own slot s).testBit (choT t own slot ((s : Int) + 1)).toNat = true := by
        unfold tb at hb
        rw [decide_eq_true q2, decide_eq_true q3] at hb
        exact hb
      rw [or_in hbit] at nxt
      exact nxt
theorem leaders_same (t : S27) (hf : fuT t ≤ 10000) (own slot n : Int) (n1 : n ≤ 100) {k : Nat} (hk : 23000 ≤ k) : ∃ w, leaders_Leaders.f k t.f0 t.f1 t.f2 own slot n = some w ∧ trustquorumref21_Leaders.f k t.f0 t.f1 t.f2 own slot n = some w := by
  unfold leaders_Leaders.f trustquorumref21_Leaders.f
  rw [asked_all t (by omega) (by omega), rChoose_all t (by omega) (by omega)]
  simp only [Option.bind_some]
  unfold choA
  by_cases ha : askT t own slot n = 0
  · obtain ⟨ho, o0, o1, s0, s1, r0, r1⟩ := ask_ok ha
    obtain ⟨n, rfl⟩ := Int.eq_ofNat_of_zero_le (show 0 ≤ n by omega)
    have e1 := leaders_loop t ho hf (slot := slot) o0 o1 n n (by omega) 0 k (by omega) (by omega)
    have e2 := rleaders_loop t ha hf n n (by omega) 0 k (by omega) (by omega)
    rw [ldT] at e1 e2
    rw [if_pos ha, if_pos ha, if_pos rfl]
    exact ⟨_, e1, e2⟩
  · rw [if_neg ha, if_neg ha, if_neg ha]; exact ⟨_, rfl, rfl⟩

theorem pickA {L : List Int} {p : Int} (h : St L p) (l : List Int) (h1 : 1 ≤ l.length) (h2 : l.length ≤ 100) : ∃ c p', trustquorummake_Tape_Pick.f L p l = some (c, p') ∧ c ∈ l ∧ St L p' := by
  obtain ⟨r, p', hr, r0, r1, hs⟩ := N_eq (n := (l.length : Int)) h (by omega) (by omega)
  obtain ⟨r, rfl⟩ := Int.eq_ofNat_of_zero_le r0
  unfold trustquorummake_Tape_Pick.f
  rw [hr]
  simp only [Option.bind_some]
  rw [if_pos r0, if_pos r1, rd_at l r (by omega)]
  exact ⟨_, _, rfl, List.getElem_mem (by omega), hs⟩

theorem fuL_append : ∀ a b : List S27, fuL (a ++ b) = fuL a + fuL b
  | [], b => by rw [List.nil_append, fuL, Nat.zero_add]
  | t :: a, b => by rw [List.cons_append, fuL, fuL, fuL_append a b]; omega
theorem fuL_set : ∀ (l : List S27) (i : Nat) (x : S27) (h : i < l.length), fuL (l.set i x) + fuT (l[i]'h) = fuL l + fuT x
  | t :: l, 0, x, _ => by rw [List.set_cons_zero, fuL, fuL, List.getElem_cons_zero]; omega
  | t :: l, i + 1, x, h => by
    have := fuL_set l i x (by rw [List.length_cons] at h; omega)
    rw [List.set_cons_succ, fuL, fuL, List.getElem_cons_succ]; omega
theorem wrap_loop {L : List Int} (r : Nat) : ∀ (th : Int) (ns : List Int) (inn : List S27) (p : Int) (k : Nat), r ≤ 1000 → r + 1 ≤ k → ∃ th' ns' inn', trustquorummake_BentTrust.l0 k (r : Int) L p th ns inn = some (th', ns', inn', p) ∧ fuT ⟨th', ns', inn'⟩ ≤ fuT ⟨th, ns, inn⟩ + 13 * r := by
  induction r with
  | zero =>
    intro th ns inn p k _ hk
    obtain ⟨k, rfl⟩ : ∃ m, k = m + 1 := ⟨k - 1, by omega⟩
    rw [trustquorummake_BentTrust.l0, if_neg (by omega)]
    exact ⟨_, _, _, rfl, by omega⟩
  | succ r ih =>
    intro th ns inn p k hr hk
    obtain ⟨k, rfl⟩ : ∃ m, k = m + 1 := ⟨k - 1, by omega⟩
    obtain ⟨a, b, c, e, hf⟩ := ih 1 [] [⟨th, ns, inn⟩] p k (by omega) (by omega)
    rw [trustquorummake_BentTrust.l0, if_pos (by omega), w64 (x := ((r + 1 : Nat) : Int) - 1) (by omega) (by omega), show ((r + 1 : Nat) : Int) - 1 = (r : Int) by omega, e]
    refine ⟨_, _, _, rfl, Nat.le_trans hf ?_⟩
    rw [fuT_eq ⟨1, [], [⟨th, ns, inn⟩]⟩]
    simp only [List.length_nil]
    rw [fuL, fuL]; omega
theorem pad_loop {L : List Int} (th : Int) (ns : List Int) (inn : List S27) (hi : inn.length ≤ 1000000) (r : Nat) : ∀ (acc : List S27) (p : Int) (k : Nat), acc.length + r ≤ 1000 → r + 1 ≤ k → ∃ inn', trustquorummake_BentTrust.l1 k acc (r : Int) L p th ns inn = some (th, ns, inn', p) ∧ fuL inn' ≤ fuL acc + fuL inn + 16 * r := by
  induction r with
  | zero =>
    intro acc p k hr hk
    obtain ⟨k, rfl⟩ : ∃ m, k = m + 1 := ⟨k - 1, by omega⟩
    rw [trustquorummake_BentTrust.l1, if_neg (by omega), if_pos (by omega)]
    exact ⟨_, rfl, by rw [fuL_append]; omega⟩
  | succ r ih =>
    intro acc p k hr hk
    obtain ⟨k, rfl⟩ : ∃ m, k = m + 1 := ⟨k - 1, by omega⟩
    obtain ⟨c, e, hf⟩ := ih (acc ++ [(⟨1, [Int.tmod ((r + 1 : Nat) : Int) 10], []⟩ : S27)]) p k (by rw [List.length_append]; simp only [List.length_cons, List.length_nil]; omega) (by omega)
    rw [trustquorummake_BentTrust.l1, if_pos (by omega), if_pos (by omega), w64 (x := ((r + 1 : Nat) : Int) - 1) (by omega) (by omega), show ((r + 1 : Nat) : Int) - 1 = (r : Int) by omega, e]
    refine ⟨_, rfl, Nat.le_trans hf ?_⟩
    rw [fuL_append, fuL, fuL, fuT_eq]
    simp only [List.length_cons, List.length_nil]
    rw [fuL]; omega
theorem bent_flat {L : List Int} (th : Int) (ns : List Int) (inn : List S27) (hb : fuT ⟨th, ns, inn⟩ ≤ 20000) {p : Int} (hs : St L p) {k : Nat} (hk : 150 ≤ k) : ∃ th' ns' inn' p', trustquorummake_BentTrust.j0 (k + 1) false L p th ns inn = some (th', ns', inn', p') ∧ fuT ⟨th', ns', inn'⟩ ≤ fuT ⟨th, ns, inn⟩ + 1700 ∧ St L p' := by
  have e0 := fuT_eq (⟨th, ns, inn⟩ : S27)
  simp only at e0
  have hl := fuL_len inn
  obtain ⟨r, p1, h1, r0, r1, s1⟩ := N_eq (n := 6) hs (by omega) (by omega)
  rw [trustquorummake_BentTrust.j0, if_neg (by decide), h1]
  simp only [Option.bind_some, List.length_nil, List.nil_append]
  by_cases c0 : r = 0
  · obtain ⟨c, p2, h2, _, s2⟩ := pickA s1 [0, (-1), wrap64 ((ns.length : Int) + (inn.length : Int)), wrap64 ((wrap64 ((ns.length : Int) + (inn.length : Int))) + 1)] (by simp) (by simp)
    rw [if_pos c0, h2]
    exact ⟨_, _, _, _, rfl, by rw [fuT, fuT]; omega, s2⟩
  rw [if_neg c0]
  by_cases c1 : r = 1
  · obtain ⟨c, p2, h2, _, s2⟩ := pickA s1 [(-1), 0, 9, 10] (by simp) (by simp)
    rw [if_pos c1, if_pos (by omega), h2]
    simp only [Option.bind_some]
    rw [if_pos (by omega)]
    exact ⟨_, _, _, _, rfl, by rw [fuT, fuT, List.length_append]; simp only [List.length_cons, List.length_nil]; omega, s2⟩
  rw [if_neg c1]
  by_cases c2 : r = 2
  · rw [if_pos c2]
    exact ⟨_, _, _, _, rfl, by rw [fuT, fuT]; simp only [List.length_nil]; omega, s1⟩
  rw [if_neg c2]
  by_cases c3 : r = 3
  · rw [if_pos c3, if_pos (by omega), if_pos (by omega)]
    exact ⟨_, _, _, _, rfl, by rw [fuT, fuT, fuL_append, fuL, fuL, fuT_eq]; simp only [List.length_nil]; rw [fuL]; omega, s1⟩
  rw [if_neg c3]
  by_cases c4 : r = 4
  · obtain ⟨i, p2, h2, i0, i1, s2⟩ := Range_eq (a := 1) (b := 4) s1 (by omega) (by omega) (by omega)
    obtain ⟨i, rfl⟩ := Int.eq_ofNat_of_zero_le (show 0 ≤ i by omega)
    obtain ⟨a, b, c, e, hf⟩ := wrap_loop (L := L) i th ns inn p2 k (by omega) (by omega)
    rw [if_pos c4, h2]
    simp only [Option.bind_some]
    exact ⟨a, b, c, p2, e, by omega, s2⟩
  · obtain ⟨c, p2, h2, hc, s2⟩ := pickA s1 [20, 60, 101] (by simp) (by simp)
    have hc2 : 0 ≤ c ∧ c ≤ 101 := by simp only [List.mem_cons, List.not_mem_nil, or_false] at hc; omega
    obtain ⟨i, rfl⟩ := Int.eq_ofNat_of_zero_le hc2.1
    obtain ⟨d, e, hf⟩ := pad_loop (L := L) th ns inn (by omega) i [] p2 k (by simp; omega) (by omega)
    rw [if_neg c4, h2]
    simp only [Option.bind_some]
    refine ⟨th, ns, d, p2, e, ?_, s2⟩
    rw [fuL] at hf
    rw [fuT, fuT]; omega
theorem bent_eq {L : List Int} (N : Nat) : ∀ (t : S27) (p : Int) (k : Nat), fuT t ≤ N → fuT t ≤ 20000 → St L p → fuT t + 200 ≤ k → ∃ th ns inn p', trustquorummake_BentTrust.f k L p t.f0 t.f1 t.f2 = some (th, ns, inn, p') ∧ fuT ⟨th, ns, inn⟩ ≤ fuT t + 1700 ∧ St L p' := by
  induction N with
  | zero => intro t p k h; rw [fuT_eq] at h; omega
  | succ N ih =>
    intro t p k h hb hs hk
    obtain ⟨th, ns, inn⟩ := t
    obtain ⟨k, rfl⟩ : ∃ m, k = m + 2 := ⟨k - 2, by omega⟩
    have e0 := fuT_eq (⟨th, ns, inn⟩ : S27)
    simp only at e0
    have hl := fuL_len inn
    show ∃ th' ns' inn' p', trustquorummake_BentTrust.f ((k + 1) + 1) L p th ns inn = some (th', ns', inn', p') ∧ _
    rw [trustquorummake_BentTrust.f]
    by_cases c0 : (inn.length : Int) > 0
    · obtain ⟨r, p1, h1, r0, r1, s1⟩ := N_eq (n := 2) hs (by omega) (by omega)
      rw [if_pos c0, h1]
      simp only [Option.bind_some]
      cases hq : (r == 1)
      · exact bent_flat th ns inn hb s1 (by omega)
      · obtain ⟨i, p2, h2, i0, i1, s2⟩ := N_eq (n := (inn.length : Int)) s1 (by omega) (by omega)
        obtain ⟨i, rfl⟩ := Int.eq_ofNat_of_zero_le i0
        have hi : i < inn.length := by omega
        have hd := fuL_drop inn i hi
        have hle := fuL_le inn i
        obtain ⟨a, b, c, p3, e, hf, s3⟩ := ih inn[i] p2 k (by omega) (by omega) s2 (by omega)
        have hset := fuL_set inn i ⟨a, b, c⟩ hi
        rw [trustquorummake_BentTrust.j0, if_pos rfl]
        simp only [Option.bind_some, List.length_nil, List.nil_append]
        rw [if_pos (by omega), h2]
        simp only [Option.bind_some]
        rw [if_pos i0, if_pos i1, rdS_at inn i hi, e]
        simp only [Option.bind_some]
        refine ⟨_, _, _, _, rfl, ?_, s3⟩
        rw [fuT, fuT, Int.toNat_natCast]; omega
    · rw [if_neg c0]
      exact bent_flat th ns inn hb hs (by omega)

mutual
def enT : S27 → Nat
  | ⟨_, ns, inn⟩ => 1 + ns.length + enL inn
def enL : List S27 → Nat
  | [] => 0
  | t :: l => enT t + enL l
end
mutual
theorem en_fu : ∀ t : S27, fuT t + 3 ≤ 13 * enT t
  | ⟨th, ns, inn⟩ => by have := en_fuL inn; rw [fuT, enT]; omega
theorem en_fuL : ∀ l : List S27, fuL l ≤ 13 * enL l
  | [] => by rw [fuL]; omega
  | t :: l => by have := en_fu t; have := en_fuL l; rw [fuL, enL]; omega
end
theorem g27_mk {th : Int} {ns : List Int} {inn : List S27} (h : g27 ⟨th, ns, inn⟩) : ns.length * 8 ≤ 140737488351232 ∧ inn.length * 56 ≤ 140737488351232 ∧ ∀ y ∈ inn, g27 y := by
  obtain ⟨m, h⟩ := h
  cases m with
  | zero => exact absurd h (by simp [g27n])
  | succ m =>
    obtain ⟨_, ⟨h1, _⟩, h2, h3⟩ := h
    exact ⟨h1, h2, fun y hy => ⟨m, h3 y hy⟩⟩
theorem entries_eq (D : Nat) :
    (∀ (t : S27) (n : Int) (k : Nat), g27 t → 0 ≤ n → n ≤ 400 → 401 - n ≤ D → 2 * (401 - n) + 4 ≤ k → ∃ n', trustquorummake_entries.f k t.f0 t.f1 t.f2 n = some n' ∧ n + 1 ≤ n' ∧ (n' ≤ 400 → n' = n + enT t)) ∧
    (∀ (th : Int) (ns : List Int) (inn : List S27) (s : Nat) (n : Int) (k : Nat), (∀ y ∈ inn, g27 y) → inn.length * 56 ≤ 140737488351232 → s ≤ inn.length → 0 ≤ n → 401 - n ≤ D → 2 * (401 - n) + 5 ≤ k → 1 ≤ k → ∃ n', trustquorummake_entries.l0 k n (s : Int) th ns inn = some n' ∧ n ≤ n' ∧ (n' ≤ 400 → n' = n + enL (inn.drop s))) := by
  have stop : ∀ (th : Int) (ns : List Int) (inn : List S27) (s : Nat) (n : Int) (k : Nat), 1 ≤ k → 400 < n → ∃ n', trustquorummake_entries.l0 k n (s : Int) th ns inn = some n' ∧ n ≤ n' ∧ (n' ≤ 400 → n' = n + enL (inn.drop s)) := by
    intro th ns inn s n k hk hn
    obtain ⟨k, rfl⟩ : ∃ m, k = m + 1 := ⟨k - 1, by omega⟩
    rw [trustquorummake_entries.l0]
    refine ⟨n, ?_, by omega, fun h => by omega⟩
    by_cases h : (s : Int) < (inn.length : Int)
    · rw [if_pos h, if_neg (by omega)]
    · rw [if_neg h]
  induction D with
  | zero =>
    refine ⟨fun t n k _ _ h1 h2 _ => by omega, fun th ns inn s n k _ _ _ h0 h1 hk hk1 => stop th ns inn s n k hk1 (by omega)⟩
  | succ D ih =>
    obtain ⟨_, ihl⟩ := ih
    have hf : ∀ (t : S27) (n : Int) (k : Nat), g27 t → 0 ≤ n → n ≤ 400 → 401 - n ≤ ((D + 1 : Nat) : Int) → 2 * (401 - n) + 4 ≤ k → ∃ n', trustquorummake_entries.f k t.f0 t.f1 t.f2 n = some n' ∧ n + 1 ≤ n' ∧ (n' ≤ 400 → n' = n + enT t) := by
      intro t n k hg h0 h1 h2 hk
      obtain ⟨th, ns, inn⟩ := t
      obtain ⟨g1, g2, g3⟩ := g27_mk hg
      obtain ⟨k, rfl⟩ : ∃ m, k = m + 1 := ⟨k - 1, by omega⟩
      have e : wrap64 (n + wrap64 (1 + (ns.length : Int))) = n + 1 + (ns.length : Int) := by rw [w64 (x := 1 + (ns.length : Int)) (by omega) (by omega), w64 (by omega) (by omega)]; omega
      show ∃ n', trustquorummake_entries.f (k + 1) th ns inn n = some n' ∧ _
      rw [trustquorummake_entries.f, e]
      by_cases hn : n + 1 + (ns.length : Int) ≤ 400
      · obtain ⟨n', e1, e2, e3⟩ := ihl th ns inn 0 (n + 1 + (ns.length : Int)) k g3 g2 (by omega) (by omega) (by omega) (by omega) (by omega)
        refine ⟨n', e1, by omega, fun h => ?_⟩
        have := e3 h
        rw [List.drop_zero] at this
        rw [enT]; omega
      · obtain ⟨n', e1, e2, e3⟩ := stop th ns inn 0 (n + 1 + (ns.length : Int)) k (by omega) (by omega)
        exact ⟨n', e1, by omega, fun h => by omega⟩
    refine ⟨hf, ?_⟩
    intro th ns inn s n k hg hb hs h0 h1 hk hk1
    by_cases hn : n ≤ 400
    · obtain ⟨k, rfl⟩ : ∃ m, k = m + 1 := ⟨k - 1, by omega⟩
      rw [trustquorummake_entries.l0]
      by_cases h : (s : Int) < (inn.length : Int)
      · have hs2 : s < inn.length := by omega
        obtain ⟨n1, a1, a2, a3⟩ := hf inn[s] n k (hg _ (List.getElem_mem hs2)) h0 hn h1 (by omega)
        rw [if_pos h, if_pos hn, if_pos (by omega), rdS_at inn s hs2, a1]
        simp only [Option.bind_some]
        rw [w64 (x := (s : Int) + 1) (by omega) (by omega), show (s : Int) + 1 = ((s + 1 : Nat) : Int) by omega]
        have he : enL (inn.drop s) = enT inn[s] + enL (inn.drop (s + 1)) := by rw [List.drop_eq_getElem_cons hs2, enL]
        by_cases hn1 : n1 ≤ 400
        · obtain ⟨n', e1, e2, e3⟩ := ihl th ns inn (s + 1) n1 k hg hb (by omega) (by omega) (by omega) (by omega) (by omega)
          exact ⟨n', e1, by omega, fun h => by have := e3 h; have := a3 hn1; omega⟩
        · obtain ⟨n', e1, e2, e3⟩ := stop th ns inn (s + 1) n1 k (by omega) (by omega)
          exact ⟨n', e1, by omega, fun h => by omega⟩
      · rw [if_neg h]
        exact ⟨n, rfl, by omega, fun _ => by rw [List.drop_of_length_le (by omega), enL]; omega⟩
    · exact stop th ns inn s n k hk1 (by omega)
theorem small_eq (t : S27) (hg : g27 t) {k : Nat} (hk : 1000 ≤ k) : ∃ b, trustquorummake_SmallTrust.f k t.f0 t.f1 t.f2 = some b ∧ (b = true → fuT t ≤ 5200) := by
  obtain ⟨n, e, _, h⟩ := (entries_eq 401).1 t 0 k hg (by omega) (by omega) (by omega) (by omega)
  refine ⟨decide (n ≤ 400), by unfold trustquorummake_SmallTrust.f; rw [e]; rfl, fun hb => ?_⟩
  have hb := of_decide_eq_true hb
  have := h hb
  have := en_fu t
  omega

theorem fu_eta (t : S27) : fuT ⟨t.f0, t.f1, t.f2⟩ = fuT t := by cases t; rfl
def Good (L : List Int) (o : Option (Int × List Int × (List (S27)) × Int)) : Prop := ∃ th ns inn p', o = some (th, ns, inn, p') ∧ fuT ⟨th, ns, inn⟩ ≤ 5800 ∧ St L p'
theorem pick5 {L : List Int} {p : Int} (h : St L p) : ∃ c p', trustquorummake_Tape_Pick.f L p ([0, 0, 0, 1, (-1)] : List Int) = some (c, p') ∧ St L p' := by
  obtain ⟨r, p', hr, h0, h1, hs⟩ := N_eq (n := 5) h (by omega) (by omega)
  have l5 : ((([0, 0, 0, 1, (-1)] : List Int).length : Nat) : Int) = 5 := rfl
  unfold trustquorummake_Tape_Pick.f
  rw [l5, hr]
  simp only [Option.bind_some]
  rw [if_pos h0, if_pos h1]
  exact ⟨_, _, rfl, hs⟩
theorem most_loop {L : List Int} (n : Nat) (hn : n ≤ 10) (r : Nat) : ∀ (s k : Nat) (p : Int) (l : List Int), s + r = n → r + 1 ≤ k → l.length ≤ s → St L p → Good L (trustquorummake_most.l0 k (n : Int) (s : Int) L p 0 l) := by
  induction r with
  | zero =>
    intro s k p l h1 hk hl hs
    obtain ⟨k, rfl⟩ : ∃ q, k = q + 1 := ⟨k - 1, by omega⟩
    obtain ⟨c, p', hc, hs'⟩ := pick5 hs
    rw [trustquorummake_most.l0, if_neg (by omega), hc]
    simp only [Option.bind_some]
    by_cases h0 : (l.length : Int) = 0
    · rw [if_pos h0]
      exact ⟨_, _, _, _, rfl, by rw [fuT, fuL]; simp, hs'⟩
    · rw [if_neg h0]
      exact ⟨_, _, _, _, rfl, by rw [fuT, fuL]; omega, hs'⟩
  | succ r ih =>
    intro s k p l h1 hk hl hs
    obtain ⟨k, rfl⟩ : ∃ q, k = q + 1 := ⟨k - 1, by omega⟩
    obtain ⟨x, p', hx, x0, x1, hs'⟩ := N_eq (n := 10) hs (by omega) (by omega)
    rw [trustquorummake_most.l0, if_pos (by omega), hx]
    simp only [Option.bind_some]
    rw [nx s (by omega)]
    by_cases h9 : x < 9
    · rw [if_pos h9, if_pos (by omega)]
      exact ih (s + 1) k p' _ (by omega) (by omega) (by rw [List.length_append]; simp only [List.length_cons, List.length_nil]; omega) hs'
    · rw [if_neg h9]
      exact ih (s + 1) k p' l (by omega) (by omega) (by omega) hs'
theorem most_eq {L : List Int} {p : Int} (n : Nat) (hn : n ≤ 10) (h : St L p) {k : Nat} (hk : 20 ≤ k) : Good L (trustquorummake_most.f k L p (n : Int)) := by
  unfold trustquorummake_most.f
  exact most_loop n hn n 0 k p [] (by omega) (by omega) (by simp) h
theorem group_fill {L : List Int} {p : Int} (n : Nat) (hn : n ≤ 10) (a2 : Int) (x7 : List (S27)) (x8 : Int) (K : Nat) (r : Nat) : ∀ (x10 : Int) (k : Nat) (acc : List Int), 0 ≤ x10 → x10 ≤ 100 → (n : Int) ≤ x10 + r → acc.length + r ≤ 30 → K + r ≤ k →
    (∀ (x10' : Int) (acc' : List Int) (k' : Nat), (n : Int) ≤ x10' → K ≤ k' → acc'.length ≤ 30 → (x10 < n ∨ 0 < acc.length → 0 < acc'.length) → Good L (trustquorummake_group.l1 k' (n : Int) a2 x7 x8 x10' L p 1 acc')) →
    Good L (trustquorummake_group.l1 k (n : Int) a2 x7 x8 x10 L p 1 acc) := by
  induction r with
  | zero =>
    intro x10 k acc h0 h0' h1 hl hk H
    exact H x10 acc k (by omega) (by omega) (by omega) (fun h => h.elim (fun h => by omega) id)
  | succ r ih =>
    intro x10 k acc h0 h0' h1 hl hk H
    by_cases hx : x10 < n
    · obtain ⟨k, rfl⟩ : ∃ q, k = q + 1 := ⟨k - 1, by omega⟩
      rw [trustquorummake_group.l1, if_pos hx, if_pos (by omega), w64 (x := x10 + 3) (by omega) (by omega)]
      refine ih (x10 + 3) k _ (by omega) (by omega) (by omega) (by rw [List.length_append]; simp only [List.length_cons, List.length_nil]; omega) (by omega) (fun x10' acc' k' g1 g2 g3 g4 => H x10' acc' k' g1 g2 g3 (fun _ => g4 (.inr (by rw [List.length_append]; simp))))
    · exact H x10 acc k (by omega) (by omega) (by omega) (fun h => h.elim (fun h => by omega) id)
theorem group_loop {L : List Int} (n : Nat) (hn0 : 1 ≤ n) (hn : n ≤ 10) (a2 : Int) (ha : 0 ≤ a2) (r : Nat) : ∀ (s k : Nat) (p : Int) (x7 : List (S27)), s + r = 3 → 40 * r + 20 ≤ k → x7.length ≤ s → (1 ≤ s → 1 ≤ x7.length) → (∀ x ∈ x7, fuT x ≤ 110) → St L p → Good L (trustquorummake_group.l0 k (n : Int) a2 x7 (s : Int) L p) := by
  induction r with
  | zero =>
    intro s k p x7 h1 hk hl hp hf hs
    obtain ⟨k, rfl⟩ : ∃ q, k = q + 1 := ⟨k - 1, by omega⟩
    have hl1 := hp (by omega)
    obtain ⟨x, p', hx, x0, x1, hs'⟩ := N_eq (n := 4) hs (by omega) (by omega)
    rw [trustquorummake_group.l0, if_neg (by omega), hx]
    simp only [Option.bind_some]
    by_cases h0 : x = 0
    · have t1 := Int.tmod_lt_of_pos a2 (show 0 < (x7.length : Int) by omega)
      have t0 := Int.tmod_nonneg (x7.length : Int) ha
      rw [if_pos h0, if_neg (by omega), if_pos t0, if_pos t1]
      obtain ⟨q, hq⟩ := Int.eq_ofNat_of_zero_le t0
      rw [hq] at t1 ⊢
      have hqi : q < x7.length := by omega
      rw [rdS_at x7 q hqi]
      have := hf _ (List.getElem_mem hqi)
      exact ⟨_, _, _, _, rfl, by rw [fu_eta]; omega, hs'⟩
    · have hm : 1 ≤ mx 1 (wrap64 ((x7.length : Int) - 1)) ∧ mx 1 (wrap64 ((x7.length : Int) - 1)) ≤ x7.length := by
        rw [w64 (by omega) (by omega)]; unfold mx; split <;> omega
      obtain ⟨y, p2, hy, _, _, hs2⟩ := Range_eq (a := mx 1 (wrap64 ((x7.length : Int) - 1))) (b := (x7.length : Int)) hs' (by omega) hm.2 (by omega)
      rw [if_neg h0, hy]
      have hfu : ∀ l : List (S27), (∀ x ∈ l, fuT x ≤ 110) → fuL l ≤ 113 * l.length := by
        intro l
        induction l with
        | nil => intro _; rw [fuL]; omega
        | cons x l ih =>
          intro h
          have h1 := h x List.mem_cons_self
          have h2 := ih (fun y hy => h y (List.mem_cons_of_mem _ hy))
          rw [fuL, List.length_cons]; omega
      have := hfu x7 hf
      exact ⟨_, _, _, _, rfl, by rw [fuT, List.length_nil]; omega, hs2⟩
  | succ r ih =>
    intro s k p x7 h1 hk hl hp hf hs
    obtain ⟨k, rfl⟩ : ∃ q, k = q + 1 := ⟨k - 1, by omega⟩
    rw [trustquorummake_group.l0, if_pos (by omega)]
    refine group_fill n hn a2 x7 (s : Int) (40 * r + 21) 12 (s : Int) k [] (by omega) (by omega) (by omega) (by simp) (by omega) (fun x10' acc' k' g1 g2 g3 g4 => ?_)
    obtain ⟨k', rfl⟩ : ∃ q, k' = q + 1 := ⟨k' - 1, by omega⟩
    rw [trustquorummake_group.l1, if_neg (by omega), nx s (by omega)]
    by_cases hz : (acc'.length : Int) > 0
    · obtain ⟨th, p', hth, _, _, hs'⟩ := Range_eq (a := 1) (b := (acc'.length : Int)) hs (by omega) (by omega) (by omega)
      rw [if_pos hz, hth]
      simp only [Option.bind_some]
      rw [if_pos (by omega)]
      refine ih (s + 1) k' p' _ (by omega) (by omega) (by rw [List.length_append]; simp only [List.length_cons, List.length_nil]; omega) (fun _ => by rw [List.length_append]; simp) (fun x hx => ?_) hs'
      rcases List.mem_append.1 hx with h | h
      · exact hf x h
      · rw [List.mem_singleton.1 h, fuT, fuL]; omega
    · rw [if_neg hz]
      refine ih (s + 1) k' p x7 (by omega) (by omega) (by omega) (fun _ => ?_) hf hs
      by_cases hs0 : s = 0
      · have := g4 (.inl (by omega)); omega
      · exact hp (by omega)
theorem group_eq {L : List Int} {p : Int} (n : Nat) (hn0 : 1 ≤ n) (hn : n ≤ 10) (a2 : Int) (ha : 0 ≤ a2) (h : St L p) {k : Nat} (hk : 200 ≤ k) : Good L (trustquorummake_group.f k L p (n : Int) a2) := by
  unfold trustquorummake_group.f
  exact group_loop n hn0 hn a2 ha 3 0 k p [] (by omega) (by omega) (by simp) (fun h => by omega) (fun x hx => by cases hx) h
theorem config_loop {L : List Int} (n : Nat) (hn0 : 1 ≤ n) (hn : n ≤ 10) (kind : Int) (r : Nat) : ∀ (s k : Nat) (p : Int) (c : List S71), s + r = n → 6000 + r + 1 ≤ k → c.length = s → (∀ x ∈ c, fuT x.f1 ≤ 5800) → St L p →
    ∃ c' p', trustquorummake_Config.l0 k (n : Int) kind (s : Int) L p c = some (c', p') ∧ c'.length = n ∧ (∀ x ∈ c', fuT x.f1 ≤ 5800) ∧ St L p' := by
  induction r with
  | zero =>
    intro s k p c h1 hk hl hf hs
    obtain ⟨k, rfl⟩ : ∃ q, k = q + 1 := ⟨k - 1, by omega⟩
    exact ⟨c, p, by rw [trustquorummake_Config.l0, if_neg (by omega)], by omega, hf, hs⟩
  | succ r ih =>
    intro s k p c h1 hk hl hf hs
    obtain ⟨k, rfl⟩ : ∃ q, k = q + 1 := ⟨k - 1, by omega⟩
    have step : ∀ (p : Int) (t : S27) (b : Bool), fuT t ≤ 5800 → St L p → ∃ c' p', trustquorummake_Config.l0 k (n : Int) kind ((s + 1 : Nat) : Int) L p (c ++ [(⟨b, t⟩ : S71)]) = some (c', p') ∧ c'.length = n ∧ (∀ x ∈ c', fuT x.f1 ≤ 5800) ∧ St L p' := by
      intro p t b ht hs
      refine ih (s + 1) k p _ (by omega) (by omega) (by rw [List.length_append]; simp only [List.length_cons, List.length_nil]; omega) (fun x hx => ?_) hs
      rcases List.mem_append.1 hx with h | h
      · exact hf x h
      · rw [List.mem_singleton.1 h]; exact ht
    have zz : fuT (⟨0, ([] : List Int), ([] : List (S27))⟩ : S27) ≤ 5800 := by rw [fuT, fuL]; simp
    have fin : ∀ (p : Int) (th : Int) (ns : List Int) (inn : List (S27)), fuT ⟨th, ns, inn⟩ ≤ 5800 → St L p → ∃ c' p', ((trustquorummake_Tape_N.f L p 12).bind fun bt247 => (if bt247.1 = 11 then (if c.length < 2199023255552 then (trustquorummake_Config.l0 k (n : Int) kind (wrap64 ((s : Int) + 1)) L bt247.2 (c ++ [(⟨false, (⟨0, ([] : List Int), ([] : List (S27))⟩ : S27)⟩ : S71)])) else (none)) else (if c.length < 2199023255552 then (trustquorummake_Config.l0 k (n : Int) kind (wrap64 ((s : Int) + 1)) L bt247.2 (c ++ [(⟨true, (⟨th, ns, inn⟩ : S27)⟩ : S71)])) else (none)))) = some (c', p') ∧ c'.length = n ∧ (∀ x ∈ c', fuT x.f1 ≤ 5800) ∧ St L p' := by
      intro p th ns inn ht hs
      obtain ⟨x, p', hx, _, _, hs'⟩ := N_eq (n := 12) hs (by omega) (by omega)
      rw [hx, nx s (by omega)]
      simp only [Option.bind_some]
      by_cases h : x = 11
      · rw [if_pos h, if_pos (by omega)]; exact step p' _ false zz hs'
      · rw [if_neg h, if_pos (by omega)]; exact step p' _ true ht hs'
    rw [trustquorummake_Config.l0, if_pos (by omega)]
    by_cases k0 : kind = 0
    · obtain ⟨th, ns, inn, p', h, hfu, _, _, _, hs'⟩ := Trust_eq hs (n := (n : Int)) (by omega) (by omega) 2 (by omega) (k := k) (by omega)
      rw [if_pos k0, show (2 : Int) = ((2 : Nat) : Int) from rfl, h]
      simp only [Option.bind_some]
      exact fin p' th ns inn (by omega) hs'
    · rw [if_neg k0]
      by_cases k1 : kind = 1
      · obtain ⟨th, ns, inn, p', h, hfu, hs'⟩ := most_eq n hn hs (k := k) (by omega)
        rw [if_pos k1, h]
        simp only [Option.bind_some]
        exact fin p' th ns inn hfu hs'
      · obtain ⟨th, ns, inn, p', h, hfu, hs'⟩ := group_eq n hn0 hn (s : Int) (by omega) hs (k := k) (by omega)
        rw [if_neg k1, h]
        simp only [Option.bind_some]
        exact fin p' th ns inn hfu hs'
theorem Config_eq {L : List Int} {p : Int} (b : Int) (b0 : 1 ≤ b) (b1 : b ≤ 10) (h : St L p) {k : Nat} (hk : 6100 ≤ k) : ∃ c p', trustquorummake_Config.f k L p b = some (c, p') ∧ 1 ≤ c.length ∧ (c.length : Int) ≤ b ∧ (∀ x ∈ c, fuT x.f1 ≤ 5800) ∧ St L p' := by
  obtain ⟨n, p1, h1, n0, n1, s1⟩ := Range_eq (a := 1) (b := b) h (by omega) (by omega) (by omega)
  obtain ⟨q, p2, h2, _, _, s2⟩ := N_eq (n := 3) s1 (by omega) (by omega)
  obtain ⟨n, rfl⟩ := Int.eq_ofNat_of_zero_le (show 0 ≤ n by omega)
  obtain ⟨c, p', hc, c1, c2, s3⟩ := config_loop n (by omega) (by omega) q n 0 k p2 [] (by omega) (by omega) (by simp) (fun x hx => by cases hx) s2
  refine ⟨c, p', ?_, by omega, by omega, c2, s3⟩
  unfold trustquorummake_Config.f
  rw [h1]; simp only [Option.bind_some]
  rw [h2]; simp only [Option.bind_some]
  exact hc

theorem g47_mk {c : List S71} (h : g47 ⟨c⟩) : c.length * 64 ≤ 140737488351232 ∧ ∀ y ∈ c, g27 y.f1 := ⟨h.1, fun y hy => (h.2 y hy).2⟩
theorem rdC_at (l : List S71) (s : Nat) (h : s < l.length) : rd_T71 l (s : Int) = l[s]'h := by unfold rd_T71; simp [List.getD, h]
theorem smallc_loop (c : List S71) (hg : ∀ y ∈ c, g27 y.f1) (hl : c.length ≤ 30) (r : Nat) : ∀ (s k : Nat) (n : Int), s + r = c.length → 1000 + r ≤ k → 0 ≤ n → ∃ b, trustquorummake_SmallConfig.l0 k n (s : Int) c = some b ∧ (b = true → n ≤ 400 ∧ ∀ (i : Nat) (hi : i < c.length), s ≤ i → fuT (c[i]'hi).f1 ≤ 5200) := by
  induction r with
  | zero =>
    intro s k n h1 hk hn
    obtain ⟨k, rfl⟩ : ∃ m, k = m + 1 := ⟨k - 1, by omega⟩
    exact ⟨decide (n ≤ 400), by rw [trustquorummake_SmallConfig.l0, if_neg (by omega)], fun hb => ⟨of_decide_eq_true hb, fun i hi hs => by omega⟩⟩
  | succ r ih =>
    intro s k n h1 hk hn
    obtain ⟨k, rfl⟩ : ∃ m, k = m + 1 := ⟨k - 1, by omega⟩
    have hs : s < c.length := by omega
    rw [trustquorummake_SmallConfig.l0, if_pos (by omega)]
    by_cases h4 : n ≤ 400
    · obtain ⟨n', e, e1, e2⟩ := (entries_eq 401).1 c[s].f1 n k (hg _ (List.getElem_mem hs)) hn h4 (by omega) (by omega)
      rw [if_pos h4, if_pos (by omega), rdC_at c s hs, e]
      simp only [Option.bind_some]
      rw [nx s (by omega)]
      obtain ⟨b, eb, hb⟩ := ih (s + 1) k n' (by omega) (by omega) (by omega)
      refine ⟨b, eb, fun ht => ⟨h4, fun i hi his => ?_⟩⟩
      obtain ⟨q1, q2⟩ := hb ht
      by_cases hi2 : i = s
      · subst hi2
        have := e2 q1
        have := en_fu c[i].f1
        omega
      · exact q2 i hi (by omega)
    · rw [if_neg h4]
      exact ⟨decide (n ≤ 400), rfl, fun hb => absurd (of_decide_eq_true hb) h4⟩
theorem smallc_eq (c : List S71) (hg : ∀ y ∈ c, g27 y.f1) {k : Nat} (hk : 2000 ≤ k) : ∃ b, trustquorummake_SmallConfig.f k c = some b ∧ (b = true → c.length ≤ 30 ∧ ∀ x ∈ c, fuT x.f1 ≤ 5200) := by
  unfold trustquorummake_SmallConfig.f
  by_cases h : (c.length : Int) > 30
  · exact ⟨false, by rw [if_pos h], fun hb => by cases hb⟩
  · obtain ⟨b, e, hb⟩ := smallc_loop c hg (by omega) c.length 0 k 0 (by omega) (by omega) (by omega)
    refine ⟨b, by rw [if_neg h]; exact e, fun ht => ⟨by omega, fun x hx => ?_⟩⟩
    obtain ⟨i, hi, rfl⟩ := List.getElem_of_mem hx
    exact (hb ht).2 i hi (by omega)
theorem of_same (c : List S71) (hl : c.length ≤ 30) (hf : ∀ x ∈ c, fuT x.f1 ≤ 10000) (v slot round : Int) {k : Nat} (hk : 21000 ≤ k) : ∃ w, leaders_Of.f k c v slot round = some w ∧ trustquorumref21_Of.f k c v slot round = some w := by
  unfold leaders_Of.f trustquorumref21_Of.f
  by_cases h0 : v < 0
  · rw [if_pos h0, if_pos h0]; exact ⟨_, rfl, rfl⟩
  by_cases h1 : v ≥ (c.length : Int)
  · rw [if_neg h0, if_neg h0, if_pos h1, if_pos h1]; exact ⟨_, rfl, rfl⟩
  obtain ⟨i, rfl⟩ := Int.eq_ofNat_of_zero_le (show 0 ≤ v by omega)
  have hi : i < c.length := by omega
  have hz := hf _ (List.getElem_mem hi)
  have p0 : (0 : Int) ≤ (i : Int) := by omega
  have p1 : (i : Int) < (c.length : Int) := by omega
  rw [if_neg h0, if_neg h0, if_neg h1, if_neg h1, if_pos p0, if_pos p0, if_pos p1, if_pos p1, rdC_at c i hi]
  by_cases hd : c[i].f0 = true
  · rw [if_pos hd, if_pos hd, Choose_all c[i].f1 (by omega) (by omega), rChoose_all c[i].f1 (by omega) (by omega)]
    exact ⟨_, rfl, rfl⟩
  · rw [if_neg hd, if_neg hd]; exact ⟨_, rfl, rfl⟩
theorem mod_eq (a : Int) : ∃ m, trustquorummake_Mod.f a 30 = some m ∧ m < 30 := by
  unfold trustquorummake_Mod.f
  have b1 := Int.tmod_lt_of_pos a (show (0 : Int) < 30 by omega)
  have b2 := Int.lt_tmod_of_pos a (show (0 : Int) < 30 by omega)
  rw [if_neg (by omega), if_neg (by omega)]
  by_cases h : Int.tmod a 30 < 0
  · rw [if_pos h, w64 (by omega) (by omega)]; exact ⟨_, rfl, by omega⟩
  · rw [if_neg h]; exact ⟨_, rfl, by omega⟩
section
variable {L : List Int} (a4 a5 a6 a7 : Int) (ys : List S27) (hy : ys.length = 3) (hf : ∀ t ∈ ys, fuT t ≤ 10000) (c d : List S71) (hc : c.length ≤ 30) (hcf : ∀ x ∈ c, fuT x.f1 ≤ 10000) (hd : d.length ≤ 30) (hdf : ∀ x ∈ d, fuT x.f1 ≤ 10000)
theorem la_l3 {K : Nat} (hK : 30000 ≤ K) (zs : List S47) (z : List S71) (hz : z.length ≤ 30) (hzf : ∀ x ∈ z, fuT x.f1 ≤ 10000) (ks : List S56) (hks : ks.length = 2) (i : Nat) (hi : i < 2) (p : Int) (H : ∀ (k : Nat), K ≤ k → trustquorumlaw21_LeadersAnswers.l2 k a4 a5 a6 zs 2 ((i + 1 : Nat) : Int) L p = some true) (r : Nat) : ∀ (s k : Nat), s + r = 2 → K + r + 1 ≤ k →
    trustquorumlaw21_LeadersAnswers.l3 k a4 a5 a6 zs 2 (i : Int) ks 2 (s : Int) L p z = some true := by
  induction r with
  | zero =>
    intro s k h1 hk
    obtain ⟨k, rfl⟩ : ∃ m, k = m + 1 := ⟨k - 1, by omega⟩
    rw [trustquorumlaw21_LeadersAnswers.l3, if_neg (by omega), nx i (by omega)]
    exact H k (by omega)
  | succ r ih =>
    intro s k h1 hk
    obtain ⟨k, rfl⟩ : ∃ m, k = m + 1 := ⟨k - 1, by omega⟩
    obtain ⟨w, e1, e2⟩ := of_same z hz hzf (rd_T56 ks (s : Int)).f0 (rd_T56 ks (s : Int)).f1 (rd_T56 ks (s : Int)).f2 (k := k) (by omega)
    rw [trustquorumlaw21_LeadersAnswers.l3, if_pos (by omega), if_pos (by omega), if_pos (by omega), e1, e2]
    simp only [Option.bind_some]
    rw [if_pos True.intro, bne_self_eq_false, if_neg (by decide), nx s (by omega)]
    exact ih (s + 1) k (by omega) (by omega)
include hc hcf hd hdf in
theorem la_l2 (r : Nat) : ∀ (i k : Nat) (p : Int), i + r = 2 → St L p → 30000 + 100 * r ≤ k →
    trustquorumlaw21_LeadersAnswers.l2 k a4 a5 a6 [(⟨c⟩ : S47), (⟨d⟩ : S47)] 2 (i : Int) L p = some true := by
  induction r with
  | zero =>
    intro i k p h1 hs hk
    obtain ⟨k, rfl⟩ : ∃ m, k = m + 1 := ⟨k - 1, by omega⟩
    rw [trustquorumlaw21_LeadersAnswers.l2, if_neg (by omega), awake_eq (by omega)]
    rfl
  | succ r ih =>
    intro i k p h1 hs hk
    obtain ⟨k, rfl⟩ : ∃ m, k = m + 1 := ⟨k - 1, by omega⟩
    obtain ⟨o1, p1, h2, _, _, s1⟩ := N_eq (n := 8) hs (by omega) (by omega)
    obtain ⟨o2, p2, h3, _, _, s2⟩ := N_eq (n := 50) s1 (by omega) (by omega)
    obtain ⟨o3, p3, h4, _, _, s3⟩ := Range_eq (a := 1) (b := 9) s2 (by omega) (by omega) (by omega)
    have H := fun (k : Nat) (hk : 30000 + 100 * r ≤ k) => ih (i + 1) k p3 (by omega) s3 hk
    have hz : (rd_T47 [(⟨c⟩ : S47), (⟨d⟩ : S47)] (i : Int)).f0.length ≤ 30 ∧ ∀ x ∈ (rd_T47 [(⟨c⟩ : S47), (⟨d⟩ : S47)] (i : Int)).f0, fuT x.f1 ≤ 10000 := by
      have : i = 0 ∨ i = 1 := by omega
      rcases this with rfl | rfl
      · exact ⟨hc, hcf⟩
      · exact ⟨hd, hdf⟩
    rw [trustquorumlaw21_LeadersAnswers.l2, if_pos (by omega), if_pos (by omega), if_pos (by show (i : Int) < 2; omega), h2]
    simp only [Option.bind_some]
    rw [h3]
    simp only [Option.bind_some]
    rw [h4]
    simp only [Option.bind_some]
    exact la_l3 a4 a5 a6 (K := 30000 + 100 * r) (by omega) _ _ hz.1 hz.2 [(⟨a4, a5, a6⟩ : S56), (⟨o1, o2, o3⟩ : S56)] rfl i (by omega) p3 H 2 0 k rfl (by omega)
theorem la_l1 {K : Nat} (hK : 40000 ≤ K) (z : S27) (hz : fuT z ≤ 10000) (ks : List S52) (hks : ks.length = 3) (i : Nat) (hi : i < 3) (p : Int) (H : ∀ (k : Nat), K ≤ k → trustquorumlaw21_LeadersAnswers.l0 k a4 a5 a6 a7 ys 3 ((i + 1 : Nat) : Int) c L p d = some true) (r : Nat) : ∀ (s k : Nat), s + r = 3 → K + r + 1 ≤ k →
    trustquorumlaw21_LeadersAnswers.l1 k a4 a5 a6 a7 ys 3 (i : Int) ks 3 (s : Int) c L p d z.f0 z.f1 z.f2 = some true := by
  induction r with
  | zero =>
    intro s k h1 hk
    obtain ⟨k, rfl⟩ : ∃ m, k = m + 1 := ⟨k - 1, by omega⟩
    rw [trustquorumlaw21_LeadersAnswers.l1, if_neg (by omega), nx i (by omega)]
    exact H k (by omega)
  | succ r ih =>
    intro s k h1 hk
    obtain ⟨k, rfl⟩ : ∃ m, k = m + 1 := ⟨k - 1, by omega⟩
    have nxt := ih (s + 1) k (by omega) (by omega)
    rw [trustquorumlaw21_LeadersAnswers.l1, if_pos (by omega), if_pos (by omega), if_pos (by omega), nx s (by omega)]
    generalize (rd_T52 ks (s : Int)).f0 = q0
    generalize (rd_T52 ks (s : Int)).f1 = q1
    generalize (rd_T52 ks (s : Int)).f2 = q2
    generalize (rd_T52 ks (s : Int)).f3 = q3
    obtain ⟨w, e1, e2⟩ := weight_same z q3 (k := k) (by omega) (by omega)
    obtain ⟨m, em, hm⟩ := mod_eq q2
    obtain ⟨l, e3, e4⟩ := leaders_same z hz q0 q1 m (by omega) (k := k) (by omega)
    rw [e1, e2, Choose_all z (by omega) (by omega), rChoose_all z (by omega) (by omega), em]
    simp only [Option.bind_some]
    rw [e3, e4, Neighbour_all z (by omega) (by omega), rNeighbour_all z (by omega) (by omega)]
    simp only [Option.bind_some]
    rw [beq_self_eq_true, beq_self_eq_true, bne_self_eq_false, bne_self_eq_false, if_neg (by decide), if_neg (by decide), if_pos True.intro, if_pos True.intro, if_pos True.intro, if_pos True.intro, if_neg (by decide)]
    exact nxt
include hf hy hc hcf hd hdf in
theorem la_l0 (r : Nat) : ∀ (i k : Nat) (p : Int), i + r = 3 → St L p → 40000 + 100 * r ≤ k →
    trustquorumlaw21_LeadersAnswers.l0 k a4 a5 a6 a7 ys 3 (i : Int) c L p d = some true := by
  induction r with
  | zero =>
    intro i k p h1 hs hk
    obtain ⟨k, rfl⟩ : ∃ m, k = m + 1 := ⟨k - 1, by omega⟩
    rw [trustquorumlaw21_LeadersAnswers.l0, if_neg (by omega)]
    simp only [Option.bind_some]
    exact la_l2 a4 a5 a6 c d hc hcf hd hdf 2 0 k p rfl hs (by omega)
  | succ r ih =>
    intro i k p h1 hs hk
    obtain ⟨k, rfl⟩ : ∃ m, k = m + 1 := ⟨k - 1, by omega⟩
    have hi : i < ys.length := by omega
    have hz := hf _ (List.getElem_mem hi)
    obtain ⟨o1, p1, g1, _, _, s1⟩ := N_eq (n := 10) hs (by omega) (by omega)
    obtain ⟨o2, p2, g2, _, _, s2⟩ := N_eq (n := 1000) s1 (by omega) (by omega)
    obtain ⟨o3, p3, g3, _, _, s3⟩ := Range_eq (a := 1) (b := 20) s2 (by omega) (by omega) (by omega)
    obtain ⟨o4, p4, g4, _, _, s4⟩ := N_eq (n := 10) s3 (by omega) (by omega)
    obtain ⟨o5, p5, g5, _, _, s5⟩ := N_eq (n := 10) s4 (by omega) (by omega)
    obtain ⟨o6, p6, g6, _, s6⟩ := pickA s5 [0, 1000000, 1000001, (-1)] (by simp) (by simp)
    obtain ⟨o7, p7, g7, _, s7⟩ := pickA s6 [1, 0, 1000, 1001] (by simp) (by simp)
    obtain ⟨o8, p8, g8, _, _, s8⟩ := N_eq (n := 10) s7 (by omega) (by omega)
    have H := fun (k : Nat) (hk : 40000 + 100 * r ≤ k) => ih (i + 1) k p8 (by omega) s8 hk
    rw [trustquorumlaw21_LeadersAnswers.l0, if_pos (by omega), if_pos (by omega), if_pos (by omega), g1]
    simp only [Option.bind_some]
    rw [g2]
    simp only [Option.bind_some]
    rw [g3]
    simp only [Option.bind_some]
    rw [g4]
    simp only [Option.bind_some]
    rw [g5]
    simp only [Option.bind_some]
    rw [g6]
    simp only [Option.bind_some]
    rw [g7]
    simp only [Option.bind_some]
    rw [g8, rdS_at ys i hi]
    simp only [Option.bind_some]
    exact la_l1 a4 a5 a6 a7 ys c d (K := 40000 + 100 * r) (by omega) ys[i] hz [(⟨a4, a5, a6, a7⟩ : S52), (⟨o1, o2, o3, o4⟩ : S52), (⟨o5, o6, o7, o8⟩ : S52)] rfl i (by omega) p8 H 3 0 k rfl (by omega)
end
theorem LeadersAnswers : trustquorumlaw21_LeadersAnswers.Pure := by
  intro l0 t0 t1 t2 c a3 a4 a5 a6 a7 _ _ _ hgt hgc _ _ _ _ _
  obtain ⟨hcl, hct⟩ := g47_mk hgc
  obtain ⟨L, hL, s0⟩ := New_eq l0
  obtain ⟨K, hK⟩ : ∃ K : Nat, 60000 ≤ K := ⟨60000, Nat.le_refl _⟩
  obtain ⟨bt, et, ft⟩ := small_eq ⟨t0, t1, t2⟩ hgt (k := K + 1) (by omega)
  obtain ⟨bc, ec, fc⟩ := smallc_eq c hct (k := K + 1) (by omega)
  have hj1 : trustquorumlaw21_LeadersAnswers.j0 (K + 1) l0 a3 a4 a5 a6 a7 true t0 t1 t2 c = some true := by
    rw [trustquorumlaw21_LeadersAnswers.j0, if_pos rfl, awake_eq (by omega)]; rfl
  refine ⟨K + 1, ?_⟩
  unfold trustquorumlaw21_LeadersAnswers.f
  rw [et]
  simp only [Option.bind_some]
  cases bt
  · rw [if_neg (by decide)]; exact hj1
  rw [if_pos rfl, ec]
  simp only [Option.bind_some]
  cases bc
  · exact hj1
  have ha := ft rfl
  obtain ⟨hc1, hc2⟩ := fc rfl
  obtain ⟨th, ns, inn, p2, h2, hx, _, _, _, s2⟩ := Trust_eq (n := 10) s0 (by omega) (by omega) 4 (by omega) (k := K) (by omega)
  obtain ⟨d, p3, h3, _, hd1, hd2, s3⟩ := Config_eq 8 (by omega) (by omega) s2 (k := K) (by omega)
  obtain ⟨yh, yn, yi, p4, h4, hy, s4⟩ := bent_eq _ (⟨th, ns, inn⟩ : S27) p3 K (Nat.le_refl _) (by omega) s3 (by omega)
  rw [Bool.not_true, trustquorumlaw21_LeadersAnswers.j0, if_neg (by decide), hL, ob, show (4 : Int) = ((4 : Nat) : Int) from rfl, h2, ob, h3, ob, hash_eq, ob, rhash_eq, ob, if_pos rfl, h4, ob, ob]
  exact la_l0 (L := L) a4 a5 a6 a7 [⟨th, ns, inn⟩, ⟨yh, yn, yi⟩, ⟨t0, t1, t2⟩] rfl (fun t ht => by
    simp only [List.mem_cons, List.not_mem_nil, or_false] at ht
    rcases ht with rfl | rfl | rfl <;> omega) c d hc1 (fun x hx => Nat.le_trans (hc2 x hx) (by omega)) (by omega) (fun x hx => Nat.le_trans (hd2 x hx) (by omega)) 3 0 K p4 rfl s4 (by omega)

end Go.Proofs.Ytphndccgadblnaa.Pure
