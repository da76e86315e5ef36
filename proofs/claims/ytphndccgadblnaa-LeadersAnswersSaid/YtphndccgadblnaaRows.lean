/-
  NARROWER THAN 'FOR EVERY INPUT', by the rows' own cells (each row's printed sentence says how): LeadersAnswers: loops.
  DERIVED. THE GIVEN ROWS OF THIS SEAT. 5 by the template 'for every input the law returns true; each argument reads behind the call as it read before'; 0 by the template 'total and deterministic' (their statements: YtphndccgadblnaaTotals.lean).
  GIVEN WITH THE SEED: the statements are not yours to turn. If you find one false, say at which input.
  Laid BY PROGRAM, IN A SANDBOX (cutbox-rows.mjs): the forced cells as the released guide's own fill.sh prints them over the translation e7675023625f745d… (all of the seat's roots in one cut). By AI agents, Wed Nov 11 2026. No macro, syntax, notation, axiom, sorry.
-/
import Derived.Test.YtphndccgadblnaaChecked
import GoSem.Claim
import GoSem.ClaimJoined
import GoSem.ClaimMapViews
import Derived.JoinedTies
import Derived.KernelRfl
namespace Go.Proofs.Ytphndccgadblnaa
/- THE CELL 'sum', in the pinned program and in every row, IS THE sha256 OF THE DUMP (.gsa) THAT YtphndccgadblnaaProg.lean LOADS. Nothing in Lean hashes anything: it is a label: what it is worth is what the hold of that sum in a sandbox is worth. -/
noncomputable def Try.pinned : Pinned := { name := "ytphndccgadblnaa", sum := "e7675023625f745d4856b983035d6577ecd08705a41c9d3aa2d3f4938c344f45", checked := Try.checked }
namespace Rows
def none {H : Type} : Left H := { results := [], args := [] }

/-- 'trustquorumlaw21.LeadersWeights': WHATEVER THE INPUT: true; the input reads as it did. -/
def leadersWeightsSpec : ChangeSpec := { name := "leadersWeights", fn := fun _ => fun
  | [d] => { results := [.lit (.bool true)], args := [d] }
  | _ => none }
def leadersWeightsRow : OpenClaim := { program := "ytphndccgadblnaa", sum := "e7675023625f745d4856b983035d6577ecd08705a41c9d3aa2d3f4938c344f45", func := "trustquorum/trustquorumlaw21.LeadersWeights", spec := "leadersWeights", unfollowed := true, recurses := true, apart := false }
def LeadersWeightsSaid : Prop := leadersWeightsRow.holds Try.pinned (OpenSpec.ofChange leadersWeightsSpec)

/-- ITS FALSE NEIGHBOUR: 'it returns false'. Refute it at one input. -/
def leadersWeightsWrong : ChangeSpec := { name := "leadersWeights", fn := fun _ => fun
  | [d] => { results := [.lit (.bool false)], args := [d] }
  | _ => none }
def LeadersWeightsWrongFalsely : Prop := leadersWeightsRow.holds Try.pinned (OpenSpec.ofChange leadersWeightsWrong)

/-- 'trustquorumlaw21.LeadersShare': WHATEVER THE INPUT: true; the input reads as it did. -/
def leadersShareSpec : ChangeSpec := { name := "leadersShare", fn := fun _ => fun
  | [d] => { results := [.lit (.bool true)], args := [d] }
  | _ => none }
def leadersShareRow : OpenClaim := { program := "ytphndccgadblnaa", sum := "e7675023625f745d4856b983035d6577ecd08705a41c9d3aa2d3f4938c344f45", func := "trustquorum/trustquorumlaw21.LeadersShare", spec := "leadersShare", unfollowed := true, recurses := true, apart := false }
def LeadersShareSaid : Prop := leadersShareRow.holds Try.pinned (OpenSpec.ofChange leadersShareSpec)

/-- ITS FALSE NEIGHBOUR: 'it returns false'. Refute it at one input. -/
def leadersShareWrong : ChangeSpec := { name := "leadersShare", fn := fun _ => fun
  | [d] => { results := [.lit (.bool false)], args := [d] }
  | _ => none }
def LeadersShareWrongFalsely : Prop := leadersShareRow.holds Try.pinned (OpenSpec.ofChange leadersShareWrong)

/-- 'trustquorumlaw21.LeadersChosen': WHATEVER THE INPUT: true; the input reads as it did. -/
def leadersChosenSpec : ChangeSpec := { name := "leadersChosen", fn := fun _ => fun
  | [d] => { results := [.lit (.bool true)], args := [d] }
  | _ => none }
def leadersChosenRow : OpenClaim := { program := "ytphndccgadblnaa", sum := "e7675023625f745d4856b983035d6577ecd08705a41c9d3aa2d3f4938c344f45", func := "trustquorum/trustquorumlaw21.LeadersChosen", spec := "leadersChosen", unfollowed := true, recurses := true, apart := false }
def LeadersChosenSaid : Prop := leadersChosenRow.holds Try.pinned (OpenSpec.ofChange leadersChosenSpec)

/-- ITS FALSE NEIGHBOUR: 'it returns false'. Refute it at one input. -/
def leadersChosenWrong : ChangeSpec := { name := "leadersChosen", fn := fun _ => fun
  | [d] => { results := [.lit (.bool false)], args := [d] }
  | _ => none }
def LeadersChosenWrongFalsely : Prop := leadersChosenRow.holds Try.pinned (OpenSpec.ofChange leadersChosenWrong)

/-- 'trustquorumlaw21.LeadersGrow': WHATEVER THE INPUT: true; the input reads as it did. -/
def leadersGrowSpec : ChangeSpec := { name := "leadersGrow", fn := fun _ => fun
  | [d] => { results := [.lit (.bool true)], args := [d] }
  | _ => none }
def leadersGrowRow : OpenClaim := { program := "ytphndccgadblnaa", sum := "e7675023625f745d4856b983035d6577ecd08705a41c9d3aa2d3f4938c344f45", func := "trustquorum/trustquorumlaw21.LeadersGrow", spec := "leadersGrow", unfollowed := true, recurses := true, apart := false }
def LeadersGrowSaid : Prop := leadersGrowRow.holds Try.pinned (OpenSpec.ofChange leadersGrowSpec)

/-- ITS FALSE NEIGHBOUR: 'it returns false'. Refute it at one input. -/
def leadersGrowWrong : ChangeSpec := { name := "leadersGrow", fn := fun _ => fun
  | [d] => { results := [.lit (.bool false)], args := [d] }
  | _ => none }
def LeadersGrowWrongFalsely : Prop := leadersGrowRow.holds Try.pinned (OpenSpec.ofChange leadersGrowWrong)

/-- 'trustquorumlaw21.LeadersAnswers': WHATEVER THE INPUT: true; the input reads as it did. -/
def leadersAnswersSpec : ChangeSpec := { name := "leadersAnswers", fn := fun _ => fun
  | [d1, d2, d3, d4, d5, d6, d7, d8] => { results := [.lit (.bool true)], args := [d1, d2, d3, d4, d5, d6, d7, d8] }
  | _ => none }
def leadersAnswersRow : OpenClaim := { program := "ytphndccgadblnaa", sum := "e7675023625f745d4856b983035d6577ecd08705a41c9d3aa2d3f4938c344f45", func := "trustquorum/trustquorumlaw21.LeadersAnswers", spec := "leadersAnswers", unfollowed := true, recurses := true, loops := true, apart := false }
def LeadersAnswersSaid : Prop := leadersAnswersRow.holds Try.pinned (OpenSpec.ofChange leadersAnswersSpec)

/-- ITS FALSE NEIGHBOUR: 'it returns false'. Refute it at one input. -/
def leadersAnswersWrong : ChangeSpec := { name := "leadersAnswers", fn := fun _ => fun
  | [d1, d2, d3, d4, d5, d6, d7, d8] => { results := [.lit (.bool false)], args := [d1, d2, d3, d4, d5, d6, d7, d8] }
  | _ => none }
def LeadersAnswersWrongFalsely : Prop := leadersAnswersRow.holds Try.pinned (OpenSpec.ofChange leadersAnswersWrong)

/- THE SECOND FORM. 'bulk': how many values and letters a reading holds, each counted each time it is reached (what is shared counts as often as it is met; a slice's spare places count too). A statement '..UptoSaid' is the law's where the arguments, and the package variables that the reading takes, are together of bulk at most 1048576: NARROWER than '..Said'. Prove '..Said' where nothing that the law and all that it calls make is longer than what came in: it says more and counts as full. Else prove '..UptoSaid'. A law counts once. -/
mutual
def uptoBulk {H : Type} : DataW H → Nat
  | .lit (.string bytes) => bytes.length + 1
  | .lit _ => 1
  | .nil => 1
  | .ptr d => uptoBulk d + 1
  | .slice elems spare => uptoBulkAll elems + uptoBulkAll spare + 1
  | .agg parts => uptoBulkAll parts + 1
  | .iface _ d => uptoBulk d + 1
  | .map entries => uptoBulkEntries entries + 1
  | .held _ => 1
def uptoBulkAll {H : Type} : List (DataW H) → Nat
  | [] => 0
  | d :: r => uptoBulk d + uptoBulkAll r
def uptoBulkEntries {H : Type} : List (Lit × DataW H) → Nat
  | [] => 0
  | x :: r => uptoBulkEntry x + uptoBulkEntries r
def uptoBulkEntry {H : Type} : Lit × DataW H → Nat
  | (.string bytes, d) => bytes.length + uptoBulk d + 1
  | (_, d) => uptoBulk d + 1
 end
def uptoSmall : (H : Type) → List (DataW H) → Bool := fun _ ds => decide (uptoBulkAll ds ≤ 1048576)
def OpenSpec.upto (s : _root_.Go.ChangeSpec) : _root_.Go.OpenSpec := { _root_.Go.OpenSpec.ofChange s with cond := some uptoSmall }

/-- 'trustquorumlaw21.LeadersWeights', WHERE WHAT IT READS IS OF BULK AT MOST 1048576: true; the input reads as it did. -/
def leadersWeightsUptoRow : OpenClaim := { program := "ytphndccgadblnaa", sum := "e7675023625f745d4856b983035d6577ecd08705a41c9d3aa2d3f4938c344f45", func := "trustquorum/trustquorumlaw21.LeadersWeights", spec := "leadersWeights", unfollowed := true, recurses := true, apart := false, narrowed := true }
def LeadersWeightsUptoSaid : Prop := leadersWeightsUptoRow.holds Try.pinned (OpenSpec.upto leadersWeightsSpec)

/-- 'trustquorumlaw21.LeadersShare', WHERE WHAT IT READS IS OF BULK AT MOST 1048576: true; the input reads as it did. -/
def leadersShareUptoRow : OpenClaim := { program := "ytphndccgadblnaa", sum := "e7675023625f745d4856b983035d6577ecd08705a41c9d3aa2d3f4938c344f45", func := "trustquorum/trustquorumlaw21.LeadersShare", spec := "leadersShare", unfollowed := true, recurses := true, apart := false, narrowed := true }
def LeadersShareUptoSaid : Prop := leadersShareUptoRow.holds Try.pinned (OpenSpec.upto leadersShareSpec)

/-- 'trustquorumlaw21.LeadersChosen', WHERE WHAT IT READS IS OF BULK AT MOST 1048576: true; the input reads as it did. -/
def leadersChosenUptoRow : OpenClaim := { program := "ytphndccgadblnaa", sum := "e7675023625f745d4856b983035d6577ecd08705a41c9d3aa2d3f4938c344f45", func := "trustquorum/trustquorumlaw21.LeadersChosen", spec := "leadersChosen", unfollowed := true, recurses := true, apart := false, narrowed := true }
def LeadersChosenUptoSaid : Prop := leadersChosenUptoRow.holds Try.pinned (OpenSpec.upto leadersChosenSpec)

/-- 'trustquorumlaw21.LeadersGrow', WHERE WHAT IT READS IS OF BULK AT MOST 1048576: true; the input reads as it did. -/
def leadersGrowUptoRow : OpenClaim := { program := "ytphndccgadblnaa", sum := "e7675023625f745d4856b983035d6577ecd08705a41c9d3aa2d3f4938c344f45", func := "trustquorum/trustquorumlaw21.LeadersGrow", spec := "leadersGrow", unfollowed := true, recurses := true, apart := false, narrowed := true }
def LeadersGrowUptoSaid : Prop := leadersGrowUptoRow.holds Try.pinned (OpenSpec.upto leadersGrowSpec)

/-- 'trustquorumlaw21.LeadersAnswers', WHERE WHAT IT READS IS OF BULK AT MOST 1048576: true; the input reads as it did. -/
def leadersAnswersUptoRow : OpenClaim := { program := "ytphndccgadblnaa", sum := "e7675023625f745d4856b983035d6577ecd08705a41c9d3aa2d3f4938c344f45", func := "trustquorum/trustquorumlaw21.LeadersAnswers", spec := "leadersAnswers", unfollowed := true, recurses := true, loops := true, apart := false, narrowed := true }
def LeadersAnswersUptoSaid : Prop := leadersAnswersUptoRow.holds Try.pinned (OpenSpec.upto leadersAnswersSpec)

end Rows
end Go.Proofs.Ytphndccgadblnaa
