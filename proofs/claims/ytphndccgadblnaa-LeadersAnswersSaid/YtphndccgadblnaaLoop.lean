/- A law of loops of our own: of a loop that may change a frame in many places. No condition. -/
import Derived.WalkKit
import Derived.Deep.LoopGhost
namespace Go
/-- What a loop leaves of a frame: none: as it was; some none: anything; some (some v): v. -/
def ovL : List Value → List (Option (Option Value)) → Nat → (Nat → Value) → List Value
  | e :: l, m :: ms, n, u => (match m with | none => e | some none => u n | some (some v) => v) :: ovL l ms (n + 1) u
  | l, [], _, _ => l
  | [], _ :: _, _, _ => []
def ovS : List Value → List (Option (Option Value)) → List Value → List Value
  | e :: l, m :: ms, t => (match m with | none => e | some none => t.headD (.bool false) | some (some v) => v) :: ovS l ms t.tail
  | l, [], _ => l
  | [], _ :: _, _ => []
theorem ovL_of (l : List Value) : ∀ (ms : List (Option (Option Value))) (t : List Value) (n : Nat) (u : Nat → Value), (∀ i, u (n + i) = t.getD i (.bool false)) → ovL l ms n u = ovS l ms t := by
  induction l with
  | nil => intro ms t n u _; cases ms <;> rfl
  | cons e l ih =>
    intro ms t n u h
    cases ms with
    | nil => rfl
    | cons m ms =>
      have h1 : ovL l ms (n + 1) u = ovS l ms t.tail := ih ms t.tail (n + 1) u (fun i => by have := h (1 + i); rw [← Nat.add_assoc] at this; rw [this]; cases t with | nil => simp | cons x t => rw [Nat.add_comm]; rfl)
      have h0 : u n = t.headD (.bool false) := by have := h 0; rw [Nat.add_zero] at this; rw [this]; cases t <;> rfl
      show _ :: ovL l ms (n + 1) u = _ :: ovS l ms t.tail
      rw [h1]
      cases m with
      | none => rfl
      | some m => cases m with
        | none => exact congrArg (· :: ovS l ms t.tail) h0
        | some v => rfl
theorem pickU {V : Type} {R : V → Prop} {l tm : List Value} {ms : V → List (Option (Option Value))} {d} (v : V) (hr : R v) (he : tm = ovS l (ms v) tm) : ∃ (u : Nat → Value) (v : V), R v ∧ (⟨tm.toArray, d⟩ : Act) = ⟨(ovL l (ms v) 0 u).toArray, d⟩ :=
  ⟨fun n => tm.getD n (.bool false), v, hr, by rw [ovL_of l (ms v) tm 0 _ (fun i => by rw [Nat.zero_add]), ← he]⟩
/-- A loop whose frame may change in many places. -/
theorem wp_loop_u {P : Program} {Q : Exit → Act → World → Prop} {w : World} {c : Code} {l : List Value} {d} {V : Type} (R : Nat → V → World → Prop) (ms : V → List (Option (Option Value))) (n0 : Nat) (v0 : V) (h0 : R n0 v0 w) (hl : l = ovS l (ms v0) l)
    (round : ∀ n w u v, R n v w → ∀ (J : Nat → Act → World → Prop) (K : Act → World → Prop), (∀ k a' w', (∃ (u : Nat → Value) (v : V), R k v w' ∧ a' = ⟨(ovL l (ms v) 0 u).toArray, d⟩) → J k a' w') → (∀ a' w', Handed J n a' w' → K a' w') → ∀ tm, ovL l (ms v) 0 u = tm → c.wp P (Exit.then K Q) ⟨tm.toArray, d⟩ w) : (Code.loop c).wp P Q ⟨l.toArray, d⟩ w :=
  wp_loop_ghost_k (fun k a w => ∃ (u : Nat → Value) (v : V), R k v w ∧ a = ⟨(ovL l (ms v) 0 u).toArray, d⟩) n0 (pickU v0 h0 hl) (fun n a w hI J K hJ hK => by
    obtain ⟨u, v, hr, rfl⟩ := hI
    exact round n w u v hr J K hJ hK _ rfl)
end Go
