/-
  NARROWER THAN 'FOR EVERY INPUT', by the rows' own cells (each row's printed sentence says how): FederatedAnswers: loops.
  DERIVED. THE GIVEN ROWS OF THIS SEAT. 5 by the template 'for every input the law returns true; each argument reads behind the call as it read before'; 0 by the template 'total and deterministic' (their statements: YtmeamdklonmahaaTotals.lean).
  GIVEN WITH THE SEED: the statements are not yours to turn. If you find one false, say at which input.
  Laid BY PROGRAM, IN A SANDBOX (cutbox-rows.mjs): the forced cells as the released guide's own fill.sh prints them over the translation 29ae249e29c3c4f1… (all of the seat's roots in one cut). By AI agents, Wed Nov 11 2026. No macro, syntax, notation, axiom, sorry.
-/
import Derived.Test.YtmeamdklonmahaaChecked
import GoSem.Claim
import GoSem.ClaimJoined
import GoSem.ClaimMapViews
import Derived.JoinedTies
import Derived.KernelRfl
namespace Go.Proofs.Ytmeamdklonmahaa
/- THE CELL 'sum', in the pinned program and in every row, IS THE sha256 OF THE DUMP (.gsa) THAT YtmeamdklonmahaaProg.lean LOADS. Nothing in Lean hashes anything: it is a label: what it is worth is what the hold of that sum in a sandbox is worth. -/
noncomputable def Try.pinned : Pinned := { name := "ytmeamdklonmahaa", sum := "29ae249e29c3c4f1ecebadda23e1bd11588cd787ba6f24681071bce10ca3d3df", checked := Try.checked }
namespace Rows
def none {H : Type} : Left H := { results := [], args := [] }

/-- 'trustquorumlaw18.FederatedGrows': WHATEVER THE INPUT: true; the input reads as it did. -/
def federatedGrowsSpec : ChangeSpec := { name := "federatedGrows", fn := fun _ => fun
  | [d] => { results := [.lit (.bool true)], args := [d] }
  | _ => none }
def federatedGrowsRow : OpenClaim := { program := "ytmeamdklonmahaa", sum := "29ae249e29c3c4f1ecebadda23e1bd11588cd787ba6f24681071bce10ca3d3df", func := "trustquorum/trustquorumlaw18.FederatedGrows", spec := "federatedGrows", recurses := true, apart := false }
def FederatedGrowsSaid : Prop := federatedGrowsRow.holds Try.pinned (OpenSpec.ofChange federatedGrowsSpec)

/-- ITS FALSE NEIGHBOUR: 'it returns false'. Refute it at one input. -/
def federatedGrowsWrong : ChangeSpec := { name := "federatedGrows", fn := fun _ => fun
  | [d] => { results := [.lit (.bool false)], args := [d] }
  | _ => none }
def FederatedGrowsWrongFalsely : Prop := federatedGrowsRow.holds Try.pinned (OpenSpec.ofChange federatedGrowsWrong)

/-- 'trustquorumlaw18.FederatedSafe': WHATEVER THE INPUT: true; the input reads as it did. -/
def federatedSafeSpec : ChangeSpec := { name := "federatedSafe", fn := fun _ => fun
  | [d] => { results := [.lit (.bool true)], args := [d] }
  | _ => none }
def federatedSafeRow : OpenClaim := { program := "ytmeamdklonmahaa", sum := "29ae249e29c3c4f1ecebadda23e1bd11588cd787ba6f24681071bce10ca3d3df", func := "trustquorum/trustquorumlaw18.FederatedSafe", spec := "federatedSafe", recurses := true, apart := false }
def FederatedSafeSaid : Prop := federatedSafeRow.holds Try.pinned (OpenSpec.ofChange federatedSafeSpec)

/-- ITS FALSE NEIGHBOUR: 'it returns false'. Refute it at one input. -/
def federatedSafeWrong : ChangeSpec := { name := "federatedSafe", fn := fun _ => fun
  | [d] => { results := [.lit (.bool false)], args := [d] }
  | _ => none }
def FederatedSafeWrongFalsely : Prop := federatedSafeRow.holds Try.pinned (OpenSpec.ofChange federatedSafeWrong)

/-- 'trustquorumlaw18.FederatedBelieves': WHATEVER THE INPUT: true; the input reads as it did. -/
def federatedBelievesSpec : ChangeSpec := { name := "federatedBelieves", fn := fun _ => fun
  | [d] => { results := [.lit (.bool true)], args := [d] }
  | _ => none }
def federatedBelievesRow : OpenClaim := { program := "ytmeamdklonmahaa", sum := "29ae249e29c3c4f1ecebadda23e1bd11588cd787ba6f24681071bce10ca3d3df", func := "trustquorum/trustquorumlaw18.FederatedBelieves", spec := "federatedBelieves", recurses := true, apart := false }
def FederatedBelievesSaid : Prop := federatedBelievesRow.holds Try.pinned (OpenSpec.ofChange federatedBelievesSpec)

/-- ITS FALSE NEIGHBOUR: 'it returns false'. Refute it at one input. -/
def federatedBelievesWrong : ChangeSpec := { name := "federatedBelieves", fn := fun _ => fun
  | [d] => { results := [.lit (.bool false)], args := [d] }
  | _ => none }
def FederatedBelievesWrongFalsely : Prop := federatedBelievesRow.holds Try.pinned (OpenSpec.ofChange federatedBelievesWrong)

/-- 'trustquorumlaw18.FederatedView': WHATEVER THE INPUT: true; the input reads as it did. -/
def federatedViewSpec : ChangeSpec := { name := "federatedView", fn := fun _ => fun
  | [d] => { results := [.lit (.bool true)], args := [d] }
  | _ => none }
def federatedViewRow : OpenClaim := { program := "ytmeamdklonmahaa", sum := "29ae249e29c3c4f1ecebadda23e1bd11588cd787ba6f24681071bce10ca3d3df", func := "trustquorum/trustquorumlaw18.FederatedView", spec := "federatedView", unfollowed := true, recurses := true, apart := false }
def FederatedViewSaid : Prop := federatedViewRow.holds Try.pinned (OpenSpec.ofChange federatedViewSpec)

/-- ITS FALSE NEIGHBOUR: 'it returns false'. Refute it at one input. -/
def federatedViewWrong : ChangeSpec := { name := "federatedView", fn := fun _ => fun
  | [d] => { results := [.lit (.bool false)], args := [d] }
  | _ => none }
def FederatedViewWrongFalsely : Prop := federatedViewRow.holds Try.pinned (OpenSpec.ofChange federatedViewWrong)

/-- 'trustquorumlaw18.FederatedAnswers': WHATEVER THE INPUT: true; the input reads as it did. -/
def federatedAnswersSpec : ChangeSpec := { name := "federatedAnswers", fn := fun _ => fun
  | [d1, d2, d3, d4, d5, d6, d7, d8] => { results := [.lit (.bool true)], args := [d1, d2, d3, d4, d5, d6, d7, d8] }
  | _ => none }
def federatedAnswersRow : OpenClaim := { program := "ytmeamdklonmahaa", sum := "29ae249e29c3c4f1ecebadda23e1bd11588cd787ba6f24681071bce10ca3d3df", func := "trustquorum/trustquorumlaw18.FederatedAnswers", spec := "federatedAnswers", unfollowed := true, recurses := true, loops := true, apart := false }
def FederatedAnswersSaid : Prop := federatedAnswersRow.holds Try.pinned (OpenSpec.ofChange federatedAnswersSpec)

/-- ITS FALSE NEIGHBOUR: 'it returns false'. Refute it at one input. -/
def federatedAnswersWrong : ChangeSpec := { name := "federatedAnswers", fn := fun _ => fun
  | [d1, d2, d3, d4, d5, d6, d7, d8] => { results := [.lit (.bool false)], args := [d1, d2, d3, d4, d5, d6, d7, d8] }
  | _ => none }
def FederatedAnswersWrongFalsely : Prop := federatedAnswersRow.holds Try.pinned (OpenSpec.ofChange federatedAnswersWrong)

/- THE SECOND FORM. 'bulk': how many values and letters a reading holds, each counted each time it is reached (what is shared counts as often as it is met; a slice's spare places count too). A statement '..UptoSaid' is the law's where the arguments, and the package variables that the reading takes, are together of bulk at most 1048576: NARROWER than '..Said'. Prove '..Said' where nothing that the law and all that it calls make is longer than what came in: it says more and counts as full. Else prove '..UptoSaid'. A law counts once. -/
mutual
def uptoBulk {H : Type} : DataW H → Nat
  | .lit (.string bytes) => bytes.length + 1
  | .lit _ => 1
  | .nil => 1
  | .ptr d => uptoBulk d + 1
  | .slice elems spare => uptoBulkAll elems + uptoBulkAll spare + 1
  | .agg parts => uptoBulkAll parts + 1
  | .iface _ d => uptoBulk d + 1
  | .map entries => uptoBulkEntries entries + 1
  | .held _ => 1
def uptoBulkAll {H : Type} : List (DataW H) → Nat
  | [] => 0
  | d :: r => uptoBulk d + uptoBulkAll r
def uptoBulkEntries {H : Type} : List (Lit × DataW H) → Nat
  | [] => 0
  | x :: r => uptoBulkEntry x + uptoBulkEntries r
def uptoBulkEntry {H : Type} : Lit × DataW H → Nat
  | (.string bytes, d) => bytes.length + uptoBulk d + 1
  | (_, d) => uptoBulk d + 1
 end
def uptoSmall : (H : Type) → List (DataW H) → Bool := fun _ ds => decide (uptoBulkAll ds ≤ 1048576)
def OpenSpec.upto (s : _root_.Go.ChangeSpec) : _root_.Go.OpenSpec := { _root_.Go.OpenSpec.ofChange s with cond := some uptoSmall }

/-- 'trustquorumlaw18.FederatedGrows', WHERE WHAT IT READS IS OF BULK AT MOST 1048576: true; the input reads as it did. -/
def federatedGrowsUptoRow : OpenClaim := { program := "ytmeamdklonmahaa", sum := "29ae249e29c3c4f1ecebadda23e1bd11588cd787ba6f24681071bce10ca3d3df", func := "trustquorum/trustquorumlaw18.FederatedGrows", spec := "federatedGrows", recurses := true, apart := false, narrowed := true }
def FederatedGrowsUptoSaid : Prop := federatedGrowsUptoRow.holds Try.pinned (OpenSpec.upto federatedGrowsSpec)

/-- 'trustquorumlaw18.FederatedSafe', WHERE WHAT IT READS IS OF BULK AT MOST 1048576: true; the input reads as it did. -/
def federatedSafeUptoRow : OpenClaim := { program := "ytmeamdklonmahaa", sum := "29ae249e29c3c4f1ecebadda23e1bd11588cd787ba6f24681071bce10ca3d3df", func := "trustquorum/trustquorumlaw18.FederatedSafe", spec := "federatedSafe", recurses := true, apart := false, narrowed := true }
def FederatedSafeUptoSaid : Prop := federatedSafeUptoRow.holds Try.pinned (OpenSpec.upto federatedSafeSpec)

/-- 'trustquorumlaw18.FederatedBelieves', WHERE WHAT IT READS IS OF BULK AT MOST 1048576: true; the input reads as it did. -/
def federatedBelievesUptoRow : OpenClaim := { program := "ytmeamdklonmahaa", sum := "29ae249e29c3c4f1ecebadda23e1bd11588cd787ba6f24681071bce10ca3d3df", func := "trustquorum/trustquorumlaw18.FederatedBelieves", spec := "federatedBelieves", recurses := true, apart := false, narrowed := true }
def FederatedBelievesUptoSaid : Prop := federatedBelievesUptoRow.holds Try.pinned (OpenSpec.upto federatedBelievesSpec)

/-- 'trustquorumlaw18.FederatedView', WHERE WHAT IT READS IS OF BULK AT MOST 1048576: true; the input reads as it did. -/
def federatedViewUptoRow : OpenClaim := { program := "ytmeamdklonmahaa", sum := "29ae249e29c3c4f1ecebadda23e1bd11588cd787ba6f24681071bce10ca3d3df", func := "trustquorum/trustquorumlaw18.FederatedView", spec := "federatedView", unfollowed := true, recurses := true, apart := false, narrowed := true }
def FederatedViewUptoSaid : Prop := federatedViewUptoRow.holds Try.pinned (OpenSpec.upto federatedViewSpec)

/-- 'trustquorumlaw18.FederatedAnswers', WHERE WHAT IT READS IS OF BULK AT MOST 1048576: true; the input reads as it did. -/
def federatedAnswersUptoRow : OpenClaim := { program := "ytmeamdklonmahaa", sum := "29ae249e29c3c4f1ecebadda23e1bd11588cd787ba6f24681071bce10ca3d3df", func := "trustquorum/trustquorumlaw18.FederatedAnswers", spec := "federatedAnswers", unfollowed := true, recurses := true, loops := true, apart := false, narrowed := true }
def FederatedAnswersUptoSaid : Prop := federatedAnswersUptoRow.holds Try.pinned (OpenSpec.upto federatedAnswersSpec)

end Rows
end Go.Proofs.Ytmeamdklonmahaa
