/-
  NARROWER THAN 'FOR EVERY INPUT', by the rows' own cells (each row's printed sentence says how): ThresholdAnswers: loops.
  DERIVED. THE GIVEN ROWS OF THIS SEAT. 5 by the template 'for every input the law returns true; each argument reads behind the call as it read before'; 0 by the template 'total and deterministic' (their statements: YteljoemeogeidaaTotals.lean).
  GIVEN WITH THE SEED: the statements are not yours to turn. If you find one false, say at which input.
  Laid BY PROGRAM, IN A SANDBOX (cutbox-rows.mjs): the forced cells as the released guide's own fill.sh prints them over the translation cc63afc0b3f540b2… (all of the seat's roots in one cut). By AI agents, Wed Nov 11 2026. No macro, syntax, notation, axiom, sorry.
-/
import Derived.Test.YteljoemeogeidaaChecked
import GoSem.Claim
import GoSem.ClaimJoined
import GoSem.ClaimMapViews
import Derived.JoinedTies
import Derived.KernelRfl
namespace Go.Proofs.Yteljoemeogeidaa
/- THE CELL 'sum', in the pinned program and in every row, IS THE sha256 OF THE DUMP (.gsa) THAT YteljoemeogeidaaProg.lean LOADS. Nothing in Lean hashes anything: it is a label: what it is worth is what the hold of that sum in a sandbox is worth. -/
noncomputable def Try.pinned : Pinned := { name := "yteljoemeogeidaa", sum := "cc63afc0b3f540b2795923c6994762b31e9142bf5083599d12750b14a8baf68a", checked := Try.checked }
namespace Rows
def none {H : Type} : Left H := { results := [], args := [] }

/-- 'trustquorumlaw02.ThresholdMeets': WHATEVER THE INPUT: true; the input reads as it did. -/
def thresholdMeetsSpec : ChangeSpec := { name := "thresholdMeets", fn := fun _ => fun
  | [d] => { results := [.lit (.bool true)], args := [d] }
  | _ => none }
def thresholdMeetsRow : OpenClaim := { program := "yteljoemeogeidaa", sum := "cc63afc0b3f540b2795923c6994762b31e9142bf5083599d12750b14a8baf68a", func := "trustquorum/trustquorumlaw02.ThresholdMeets", spec := "thresholdMeets", recurses := true, apart := false }
def ThresholdMeetsSaid : Prop := thresholdMeetsRow.holds Try.pinned (OpenSpec.ofChange thresholdMeetsSpec)

/-- ITS FALSE NEIGHBOUR: 'it returns false'. Refute it at one input. -/
def thresholdMeetsWrong : ChangeSpec := { name := "thresholdMeets", fn := fun _ => fun
  | [d] => { results := [.lit (.bool false)], args := [d] }
  | _ => none }
def ThresholdMeetsWrongFalsely : Prop := thresholdMeetsRow.holds Try.pinned (OpenSpec.ofChange thresholdMeetsWrong)

/-- 'trustquorumlaw02.ThresholdGrows': WHATEVER THE INPUT: true; the input reads as it did. -/
def thresholdGrowsSpec : ChangeSpec := { name := "thresholdGrows", fn := fun _ => fun
  | [d] => { results := [.lit (.bool true)], args := [d] }
  | _ => none }
def thresholdGrowsRow : OpenClaim := { program := "yteljoemeogeidaa", sum := "cc63afc0b3f540b2795923c6994762b31e9142bf5083599d12750b14a8baf68a", func := "trustquorum/trustquorumlaw02.ThresholdGrows", spec := "thresholdGrows", recurses := true, apart := false }
def ThresholdGrowsSaid : Prop := thresholdGrowsRow.holds Try.pinned (OpenSpec.ofChange thresholdGrowsSpec)

/-- ITS FALSE NEIGHBOUR: 'it returns false'. Refute it at one input. -/
def thresholdGrowsWrong : ChangeSpec := { name := "thresholdGrows", fn := fun _ => fun
  | [d] => { results := [.lit (.bool false)], args := [d] }
  | _ => none }
def ThresholdGrowsWrongFalsely : Prop := thresholdGrowsRow.holds Try.pinned (OpenSpec.ofChange thresholdGrowsWrong)

/-- 'trustquorumlaw02.ThresholdOrder': WHATEVER THE INPUT: true; the input reads as it did. -/
def thresholdOrderSpec : ChangeSpec := { name := "thresholdOrder", fn := fun _ => fun
  | [d] => { results := [.lit (.bool true)], args := [d] }
  | _ => none }
def thresholdOrderRow : OpenClaim := { program := "yteljoemeogeidaa", sum := "cc63afc0b3f540b2795923c6994762b31e9142bf5083599d12750b14a8baf68a", func := "trustquorum/trustquorumlaw02.ThresholdOrder", spec := "thresholdOrder", unfollowed := true, recurses := true, apart := false }
def ThresholdOrderSaid : Prop := thresholdOrderRow.holds Try.pinned (OpenSpec.ofChange thresholdOrderSpec)

/-- ITS FALSE NEIGHBOUR: 'it returns false'. Refute it at one input. -/
def thresholdOrderWrong : ChangeSpec := { name := "thresholdOrder", fn := fun _ => fun
  | [d] => { results := [.lit (.bool false)], args := [d] }
  | _ => none }
def ThresholdOrderWrongFalsely : Prop := thresholdOrderRow.holds Try.pinned (OpenSpec.ofChange thresholdOrderWrong)

/-- 'trustquorumlaw02.ThresholdDual': WHATEVER THE INPUT: true; the input reads as it did. -/
def thresholdDualSpec : ChangeSpec := { name := "thresholdDual", fn := fun _ => fun
  | [d] => { results := [.lit (.bool true)], args := [d] }
  | _ => none }
def thresholdDualRow : OpenClaim := { program := "yteljoemeogeidaa", sum := "cc63afc0b3f540b2795923c6994762b31e9142bf5083599d12750b14a8baf68a", func := "trustquorum/trustquorumlaw02.ThresholdDual", spec := "thresholdDual", unfollowed := true, recurses := true, apart := false }
def ThresholdDualSaid : Prop := thresholdDualRow.holds Try.pinned (OpenSpec.ofChange thresholdDualSpec)

/-- ITS FALSE NEIGHBOUR: 'it returns false'. Refute it at one input. -/
def thresholdDualWrong : ChangeSpec := { name := "thresholdDual", fn := fun _ => fun
  | [d] => { results := [.lit (.bool false)], args := [d] }
  | _ => none }
def ThresholdDualWrongFalsely : Prop := thresholdDualRow.holds Try.pinned (OpenSpec.ofChange thresholdDualWrong)

/-- 'trustquorumlaw02.ThresholdAnswers': WHATEVER THE INPUT: true; the input reads as it did. -/
def thresholdAnswersSpec : ChangeSpec := { name := "thresholdAnswers", fn := fun _ => fun
  | [d1, d2, d3, d4] => { results := [.lit (.bool true)], args := [d1, d2, d3, d4] }
  | _ => none }
def thresholdAnswersRow : OpenClaim := { program := "yteljoemeogeidaa", sum := "cc63afc0b3f540b2795923c6994762b31e9142bf5083599d12750b14a8baf68a", func := "trustquorum/trustquorumlaw02.ThresholdAnswers", spec := "thresholdAnswers", unfollowed := true, recurses := true, loops := true, apart := false }
def ThresholdAnswersSaid : Prop := thresholdAnswersRow.holds Try.pinned (OpenSpec.ofChange thresholdAnswersSpec)

/-- ITS FALSE NEIGHBOUR: 'it returns false'. Refute it at one input. -/
def thresholdAnswersWrong : ChangeSpec := { name := "thresholdAnswers", fn := fun _ => fun
  | [d1, d2, d3, d4] => { results := [.lit (.bool false)], args := [d1, d2, d3, d4] }
  | _ => none }
def ThresholdAnswersWrongFalsely : Prop := thresholdAnswersRow.holds Try.pinned (OpenSpec.ofChange thresholdAnswersWrong)

/- THE SECOND FORM. 'bulk': how many values and letters a reading holds, each counted each time it is reached (what is shared counts as often as it is met; a slice's spare places count too). A statement '..UptoSaid' is the law's where the arguments, and the package variables that the reading takes, are together of bulk at most 1048576: NARROWER than '..Said'. Prove '..Said' where nothing that the law and all that it calls make is longer than what came in: it says more and counts as full. Else prove '..UptoSaid'. A law counts once. -/
mutual
def uptoBulk {H : Type} : DataW H → Nat
  | .lit (.string bytes) => bytes.length + 1
  | .lit _ => 1
  | .nil => 1
  | .ptr d => uptoBulk d + 1
  | .slice elems spare => uptoBulkAll elems + uptoBulkAll spare + 1
  | .agg parts => uptoBulkAll parts + 1
  | .iface _ d => uptoBulk d + 1
  | .map entries => uptoBulkEntries entries + 1
  | .held _ => 1
def uptoBulkAll {H : Type} : List (DataW H) → Nat
  | [] => 0
  | d :: r => uptoBulk d + uptoBulkAll r
def uptoBulkEntries {H : Type} : List (Lit × DataW H) → Nat
  | [] => 0
  | x :: r => uptoBulkEntry x + uptoBulkEntries r
def uptoBulkEntry {H : Type} : Lit × DataW H → Nat
  | (.string bytes, d) => bytes.length + uptoBulk d + 1
  | (_, d) => uptoBulk d + 1
 end
def uptoSmall : (H : Type) → List (DataW H) → Bool := fun _ ds => decide (uptoBulkAll ds ≤ 1048576)
def OpenSpec.upto (s : _root_.Go.ChangeSpec) : _root_.Go.OpenSpec := { _root_.Go.OpenSpec.ofChange s with cond := some uptoSmall }

/-- 'trustquorumlaw02.ThresholdMeets', WHERE WHAT IT READS IS OF BULK AT MOST 1048576: true; the input reads as it did. -/
def thresholdMeetsUptoRow : OpenClaim := { program := "yteljoemeogeidaa", sum := "cc63afc0b3f540b2795923c6994762b31e9142bf5083599d12750b14a8baf68a", func := "trustquorum/trustquorumlaw02.ThresholdMeets", spec := "thresholdMeets", recurses := true, apart := false, narrowed := true }
def ThresholdMeetsUptoSaid : Prop := thresholdMeetsUptoRow.holds Try.pinned (OpenSpec.upto thresholdMeetsSpec)

/-- 'trustquorumlaw02.ThresholdGrows', WHERE WHAT IT READS IS OF BULK AT MOST 1048576: true; the input reads as it did. -/
def thresholdGrowsUptoRow : OpenClaim := { program := "yteljoemeogeidaa", sum := "cc63afc0b3f540b2795923c6994762b31e9142bf5083599d12750b14a8baf68a", func := "trustquorum/trustquorumlaw02.ThresholdGrows", spec := "thresholdGrows", recurses := true, apart := false, narrowed := true }
def ThresholdGrowsUptoSaid : Prop := thresholdGrowsUptoRow.holds Try.pinned (OpenSpec.upto thresholdGrowsSpec)

/-- 'trustquorumlaw02.ThresholdOrder', WHERE WHAT IT READS IS OF BULK AT MOST 1048576: true; the input reads as it did. -/
def thresholdOrderUptoRow : OpenClaim := { program := "yteljoemeogeidaa", sum := "cc63afc0b3f540b2795923c6994762b31e9142bf5083599d12750b14a8baf68a", func := "trustquorum/trustquorumlaw02.ThresholdOrder", spec := "thresholdOrder", unfollowed := true, recurses := true, apart := false, narrowed := true }
def ThresholdOrderUptoSaid : Prop := thresholdOrderUptoRow.holds Try.pinned (OpenSpec.upto thresholdOrderSpec)

/-- 'trustquorumlaw02.ThresholdDual', WHERE WHAT IT READS IS OF BULK AT MOST 1048576: true; the input reads as it did. -/
def thresholdDualUptoRow : OpenClaim := { program := "yteljoemeogeidaa", sum := "cc63afc0b3f540b2795923c6994762b31e9142bf5083599d12750b14a8baf68a", func := "trustquorum/trustquorumlaw02.ThresholdDual", spec := "thresholdDual", unfollowed := true, recurses := true, apart := false, narrowed := true }
def ThresholdDualUptoSaid : Prop := thresholdDualUptoRow.holds Try.pinned (OpenSpec.upto thresholdDualSpec)

/-- 'trustquorumlaw02.ThresholdAnswers', WHERE WHAT IT READS IS OF BULK AT MOST 1048576: true; the input reads as it did. -/
def thresholdAnswersUptoRow : OpenClaim := { program := "yteljoemeogeidaa", sum := "cc63afc0b3f540b2795923c6994762b31e9142bf5083599d12750b14a8baf68a", func := "trustquorum/trustquorumlaw02.ThresholdAnswers", spec := "thresholdAnswers", unfollowed := true, recurses := true, loops := true, apart := false, narrowed := true }
def ThresholdAnswersUptoSaid : Prop := thresholdAnswersUptoRow.holds Try.pinned (OpenSpec.upto thresholdAnswersSpec)

end Rows
end Go.Proofs.Yteljoemeogeidaa
