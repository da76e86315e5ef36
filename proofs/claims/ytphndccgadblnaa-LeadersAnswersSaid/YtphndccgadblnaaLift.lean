/- What is handed to a law, opened as a kind tells it: out of an argument's datum the Lean value and what is told of its cells. Conditions: those that each theorem names. -/
import Derived.Test.YtphndccgadblnaaWWords
import Derived.Deep.Slices
import Derived.ChangeArms
import Derived.WideShapes
import Derived.SizedLaws
namespace Go.Proofs.YtphndccgadblnaaW.PrintLift
open Go.RowKit Go.Proofs.YtphndccgadblnaaW.PrintWords Go.ChangeShapes Go.WideShapes Go.Deep
set_option linter.unusedVariables false
/-- What lies at type t, looked at so deep, is as the kind d tells it, within g. -/
def OpensTo {α : Type} (m : Nat) (P : Program) (d : Kd α) (t : TypeId) (g : α → Prop) : Prop :=
  ∀ (H : Type) (enc : TypeId × Value → H) (w : World) (spare : Nat → Bool) (held : Bool) (fuel : Nat) (cs : List Value) (x : DataW H × List MemPlace), fuel ≤ m → DataW.trod enc P w 0 spare held fuel t cs = some x → (∀ n ∈ x.1.weights P t, n ≤ reachBytes) → ∃ a, g a ∧ d.K w a cs
section
variable {α β : Type} {m : Nat} {P : Program} {d : Kd α} {t e : TypeId} {g : α → Prop}
theorem OpensTo.zero : OpensTo 0 P d t g := by
  intro H enc w spare held fuel cs x hf h _
  obtain rfl : fuel = 0 := by omega
  simp [DataW.trod] at h
theorem OpensTo.le {m' : Nat} (h : OpensTo m P d t g) (hm : m' ≤ m) : OpensTo m' P d t g := fun H enc w spare held fuel cs x hf ht hw => h H enc w spare held fuel cs x (Nat.le_trans hf hm) ht hw
theorem opens_int {k : IntKind} (ht : P.underlying t = some (.int k)) : OpensTo m P (Kd.int k) t (fun x => (Lit.int k x).wf = true) := by
  intro H enc w spare held fuel cs x _ h _
  obtain ⟨n, rfl, _, hw⟩ := DataW.trod_int ht h
  exact ⟨n, hw, rfl⟩
theorem opens_bool (ht : P.underlying t = some .bool) : OpensTo m P Kd.bool t (fun _ => True) := by
  intro H enc w spare held fuel cs x _ h _
  obtain ⟨n, rfl, _⟩ := DataW.trod_bool ht h
  exact ⟨n, trivial, rfl⟩
theorem opens_string (ht : P.underlying t = some .string) : OpensTo m P Kd.string t (fun s => s.size ≤ maxLen) := by
  intro H enc w spare held fuel cs x _ h _
  obtain ⟨s, rfl, _, hs⟩ := DataW.trod_string ht h
  exact ⟨s, hs, rfl⟩
theorem weightsAll_mem {H : Type} {P : Program} {e : TypeId} : ∀ {l : List (DataW H)} {y : DataW H}, y ∈ l → ∀ n ∈ y.weights P e, n ∈ DataW.weightsAll P e l
  | z :: l, y, hy, n, hn => by
    rw [DataW.weightsAll, List.mem_append]
    rcases List.mem_cons.1 hy with rfl | hy
    · exact .inl hn
    · exact .inr (weightsAll_mem hy n hn)
theorem opens_sliceB1 (q B : Nat) (ht : P.underlying t = some (.slice e)) (hc : P.cellsOf e = d.sz) (hb : P.bytesOf e = B) (hd : OpensTo m P d e g) : OpensTo (m + 1) P (Kd.slice q d) t (fun xs => xs.length * B ≤ 140737488351232 ∧ ∀ x ∈ xs, g x) := by
  intro H enc w spare held fuel cs x hf h hwt
  rcases DataW.trod_slice ht h with ⟨rfl, _⟩ | ⟨a, len, cap, elems, rest, n, rfl, rfl, rfl, _, hl, hm, hlen, hel, _, _⟩
  · exact ⟨[], ⟨by rw [List.length_nil, Nat.zero_mul]; exact Nat.zero_le _, fun _ h => by cases h⟩, none, 0, rfl, Nat.le_refl _, Kd.C_nil _ _⟩
  · have hbig : len * B ≤ 140737488351232 := by
      have h0 := hwt ((elems.length + rest.length) * P.bytesOf e) (by simp [DataW.weights, ht])
      rw [hb] at h0
      exact Nat.le_trans (Nat.mul_le_mul_right _ (by omega)) h0
    have key : ∀ i, i < len → ∃ p : α × List Value, g p.1 ∧ d.K w p.1 p.2 ∧ w.cells? 0 (a.add (i * d.sz)) d.sz = some p.2 := by
      intro i hi
      have h1 := hel i hi
      rw [List.getElem?_eq_getElem (by omega), hc] at h1
      obtain ⟨c, h2, h3⟩ := Option.bind_eq_some_iff.1 h1
      obtain ⟨v, h4, h5⟩ := hd H enc w spare held n c _ (by omega) h3 (fun n_ hn_ => hwt n_ (by
        simp only [DataW.weights, ht]
        exact List.mem_cons_of_mem _ (List.mem_append_left _ (weightsAll_mem (List.mem_map.2 ⟨_, List.getElem_mem (by omega), rfl⟩) n_ hn_))))
      exact ⟨(v, c), h4, h5, h2⟩
    have hF : ∃ F : Nat → Option (α × List Value), ∀ i, i < len → ∃ p, F i = some p ∧ g p.1 ∧ d.K w p.1 p.2 ∧ w.cells? 0 (a.add (i * d.sz)) d.sz = some p.2 :=
      choose_lt (p := fun i (o : Option (α × List Value)) => ∃ p : α × List Value, o = some p ∧ g p.1 ∧ d.K w p.1 p.2 ∧ w.cells? 0 (a.add (i * d.sz)) d.sz = some p.2) (fun i hi => by obtain ⟨p, hp⟩ := key i hi; exact ⟨some p, p, rfl, hp⟩)
    obtain ⟨F, hF⟩ := hF
    have hxs : ∃ xs : List α, xs.length = len ∧ ∀ i, i < len → ∃ c, (∃ p, xs[i]? = some p ∧ g p ∧ d.K w p c) ∧ w.cells? 0 (a.add (i * d.sz)) d.sz = some c := by
      have : ∀ n, n ≤ len → ∃ xs : List α, xs.length = n ∧ ∀ i, i < n → ∃ c, (∃ p, xs[i]? = some p ∧ g p ∧ d.K w p c) ∧ w.cells? 0 (a.add (i * d.sz)) d.sz = some c := by
        intro n
        induction n with
        | zero => intro _; exact ⟨[], rfl, fun i hi => absurd hi (by omega)⟩
        | succ n ih =>
          intro hn
          obtain ⟨xs, h1, h2⟩ := ih (by omega)
          obtain ⟨p, _, h3, h4, h5⟩ := hF n (by omega)
          refine ⟨xs ++ [p.1], by rw [List.length_append, h1]; rfl, fun i hi => ?_⟩
          by_cases hin : i < n
          · obtain ⟨c, ⟨p, h6, h7⟩, h8⟩ := h2 i hin
            exact ⟨c, ⟨p, by rw [List.getElem?_append_left (by omega)]; exact h6, h7⟩, h8⟩
          · obtain rfl : i = n := by omega
            exact ⟨p.2, ⟨p.1, by rw [List.getElem?_append_right (by omega), h1, Nat.sub_self]; rfl, h3, h4⟩, h5⟩
      exact this len (Nat.le_refl _)
    obtain ⟨xs, h1, h2⟩ := hxs
    subst h1
    refine ⟨xs, ⟨hbig, fun x hx => ?_⟩, some a, cap, rfl, hl, rfl, ?_, fun _ => ⟨a, rfl, fun j p hj => ?_⟩⟩
    · obtain ⟨i, hi, rfl⟩ := List.getElem_of_mem hx
      obtain ⟨c, ⟨p, h6, h7, _⟩, _⟩ := h2 i hi
      rw [List.getElem?_eq_getElem hi] at h6
      cases h6
      exact h7
    · have : maxLen ≤ 9223372036854775807 := by decide
      omega
    · have hjl : j < xs.length := (List.getElem?_eq_some_iff.1 hj).1
      obtain ⟨c, ⟨p', h6, _, h7⟩, h8⟩ := h2 j hjl
      rw [hj] at h6
      cases h6
      obtain ⟨_, hcl, hat⟩ := World.cells?_some h8
      refine ⟨c, hcl, h7, fun i u hu => ?_⟩
      have hi : i < d.sz := by have := (List.getElem?_eq_some_iff.1 hu).1; omega
      rw [← Go.Deep.add_add, hat i hi, hu]
theorem opens_sliceB (q B : Nat) (ht : P.underlying t = some (.slice e)) (hc : P.cellsOf e = d.sz) (hb : P.bytesOf e = B) (hd : ∀ m, OpensTo m P d e g) (m : Nat) : OpensTo m P (Kd.slice q d) t (fun xs => xs.length * B ≤ 140737488351232 ∧ ∀ x ∈ xs, g x) := (opens_sliceB1 q B ht hc hb (hd m)).le (Nat.le_succ m)
/-- The fields of a struct, one behind the other. -/
def OpensAt {α : Type} (m : Nat) (P : Program) (d : Kd α) (fl : List (TypeId × Nat)) (off : Nat) (g : α → Prop) : Prop :=
  ∀ (H : Type) (enc : TypeId × Value → H) (w : World) (spare : Nat → Bool) (held : Bool) (n : Nat) (cs : List Value), n ≤ m → off + d.sz ≤ cs.length → (∀ p ∈ fl, ∃ y, DataW.trod enc P w 0 spare held n p.1 ((cs.drop p.2).take (P.cellsOf p.1)) = some y ∧ ∀ n ∈ y.1.weights P p.1, n ≤ reachBytes) → ∃ a, g a ∧ d.K w a ((cs.drop off).take d.sz)
theorem opensAt_one {off : Nat} (hc : P.cellsOf t = d.sz) (hd : OpensTo m P d t g) : OpensAt m P d [(t, off)] off g := by
  intro H enc w spare held n cs hn hl h
  obtain ⟨y, hy, hwy⟩ := h (t, off) (List.mem_singleton.2 rfl)
  rw [hc] at hy
  exact hd H enc w spare held n _ y hn hy hwy
theorem opensAt_cons {d2 : Kd β} {g2 : β → Prop} {fl : List (TypeId × Nat)} {off : Nat} (hc : P.cellsOf t = d.sz) (hd : OpensTo m P d t g) (h2 : OpensAt m P d2 fl (off + d.sz) g2) : OpensAt m P (Kd.pair d d2) ((t, off) :: fl) off (fun x => g x.1 ∧ g2 x.2) := by
  intro H enc w spare held n cs hn hl h
  have hs : (Kd.pair d d2).sz = d.sz + d2.sz := rfl
  rw [hs] at hl
  obtain ⟨y, hy, hwy⟩ := h (t, off) (List.mem_cons_self ..)
  rw [hc] at hy
  obtain ⟨a, h3, h4⟩ := hd H enc w spare held n _ y hn hy hwy
  obtain ⟨b, h5, h6⟩ := h2 H enc w spare held n cs hn (by omega) (fun p hp => h p (List.mem_cons_of_mem _ hp))
  refine ⟨(a, b), ⟨h3, h5⟩, _, _, ?_, h4, h6⟩
  rw [hs, List.take_add, List.drop_drop]
theorem opens_struct {fs : Array Field} (f : β → α) (inv : α → β) (hinv : ∀ a, f (inv a) = a) (ht : P.underlying t = some (.struct fs)) (hc : P.cellsOf t = d.sz) (hd : OpensAt m P d (fs.toList.map fun f => (f.type, f.offset)) 0 g) : OpensTo (m + 1) P (Kd.iso d f) t (fun x => g (f x)) := by
  intro H enc w spare held fuel cs x hf h hwt
  obtain ⟨xs, n, rfl, rfl, hl, hxl, hat⟩ := DataW.trod_struct ht h
  rw [hc] at hl
  obtain ⟨a, h1, h2⟩ := hd H enc w spare held n cs (by omega) (by omega) (fun p hp => by
    obtain ⟨f, hfm, rfl⟩ := List.mem_map.1 hp
    obtain ⟨i, hi, rfl⟩ := List.getElem_of_mem hfm
    have hi2 : i < xs.length := by rw [hxl]; simpa using hi
    refine ⟨xs[i], ?_⟩
    have := hat i (fs.toList[i]) (by simp)
    rw [List.getElem?_eq_getElem hi2] at this
    refine ⟨this, fun n_ hn_ => hwt n_ ?_⟩
    simp only [DataW.weights, ht]
    exact DataW.weights_mem_each (j := i) (by rw [List.getElem?_map, List.getElem?_eq_getElem hi]; rfl) (by rw [List.getElem?_map, List.getElem?_eq_getElem hi2]; rfl) n_ hn_)
  rw [List.drop_zero, List.take_of_length_le (by omega)] at h2
  exact ⟨inv a, by show g (f (inv a)); rw [hinv]; exact h1, by show d.K w (f (inv a)) cs; rw [hinv]; exact h2⟩
theorem opens_fix {F : Kd α → Kd α} {sz : Nat} {E : List Nat} {hs : ∀ n, (Kd.upto F sz E n).sz = sz} {hE : ∀ n q, q ∈ (Kd.upto F sz E n).E → q ∈ E} (g : Nat → α → Prop) (step : ∀ m d, d.sz = sz → OpensTo m P d t (g m) → OpensTo (m + 1) P (F d) t (g (m + 1))) (m : Nat) : OpensTo m P (Kd.fix F sz E hs hE) t (fun x => ∃ n, g n x) := by
  have up : ∀ m, OpensTo m P (Kd.upto F sz E m) t (g m) := by
    intro m
    induction m with
    | zero => exact OpensTo.zero
    | succ m ih => exact step m _ (hs m) ih
  intro H enc w spare held fuel cs x hf h hwt
  obtain ⟨a, h1, h2⟩ := up m H enc w spare held fuel cs x hf h hwt
  exact ⟨a, ⟨m, h1⟩, m, h2⟩
/-- An argument. -/
theorem opens_arg {H : Type} {enc : TypeId × Value → H} {w : World} {spare : Nat → Bool} {held : Bool} {v : Value} {y : DataW H} {p : List MemPlace} (hd : ∀ m, OpensTo m P d t g) (h : DataW.Trod enc P w 0 spare held t v y p) (hwt : ∀ n ∈ y.weights P t, n ≤ reachBytes) : ∃ a, g a ∧ d.K w a v.cells.toList := by
  obtain ⟨fuel, hf⟩ := h
  exact hd fuel H enc w spare held fuel _ _ (Nat.le_refl _) hf hwt
end
end Go.Proofs.YtphndccgadblnaaW.PrintLift
