/-
  No cell of these rows narrows 'for every input' (looked for: loops, veiled, ifaces, maps, wideKeys, modest, calm, conditions, laid).
  DERIVED. THE GIVEN ROWS OF THIS SEAT. 6 by the template 'for every input the law returns true; each argument reads behind the call as it read before'; 0 by the template 'total and deterministic' (their statements: YtogdpfmlldaeeaaTotals.lean).
  GIVEN WITH THE SEED: the statements are not yours to turn. If you find one false, say at which input.
  Laid BY PROGRAM, IN A SANDBOX (cutbox-rows.mjs): the forced cells as the released guide's own fill.sh prints them over the translation e58f48f8979afdb1… (all of the seat's roots in one cut). By AI agents, Wed Nov 11 2026. No macro, syntax, notation, axiom, sorry.
-/
import Derived.Test.YtogdpfmlldaeeaaChecked
import GoSem.Claim
import GoSem.ClaimJoined
import GoSem.ClaimMapViews
import Derived.JoinedTies
import Derived.KernelRfl
namespace Go.Proofs.Ytogdpfmlldaeeaa
/- THE CELL 'sum', in the pinned program and in every row, IS THE sha256 OF THE DUMP (.gsa) THAT YtogdpfmlldaeeaaProg.lean LOADS. Nothing in Lean hashes anything: it is a label: what it is worth is what the hold of that sum in a sandbox is worth. -/
noncomputable def Try.pinned : Pinned := { name := "ytogdpfmlldaeeaa", sum := "e58f48f8979afdb15352780ab16402af9429658b252043774531d45cf8b07dec", checked := Try.checked }
namespace Rows
def none {H : Type} : Left H := { results := [], args := [] }

/-- 'trustquorumlaw23.BallotsLowest': WHATEVER THE INPUT: true; the input reads as it did. -/
def ballotsLowestSpec : ChangeSpec := { name := "ballotsLowest", fn := fun _ => fun
  | [d1, d2] => { results := [.lit (.bool true)], args := [d1, d2] }
  | _ => none }
def ballotsLowestRow : OpenClaim := { program := "ytogdpfmlldaeeaa", sum := "e58f48f8979afdb15352780ab16402af9429658b252043774531d45cf8b07dec", func := "trustquorum/trustquorumlaw23.BallotsLowest", spec := "ballotsLowest", apart := false }
def BallotsLowestSaid : Prop := ballotsLowestRow.holds Try.pinned (OpenSpec.ofChange ballotsLowestSpec)

/-- ITS FALSE NEIGHBOUR: 'it returns false'. Refute it at one input. -/
def ballotsLowestWrong : ChangeSpec := { name := "ballotsLowest", fn := fun _ => fun
  | [d1, d2] => { results := [.lit (.bool false)], args := [d1, d2] }
  | _ => none }
def BallotsLowestWrongFalsely : Prop := ballotsLowestRow.holds Try.pinned (OpenSpec.ofChange ballotsLowestWrong)

/-- 'trustquorumlaw23.BallotsOrder': WHATEVER THE INPUT: true; the input reads as it did. -/
def ballotsOrderSpec : ChangeSpec := { name := "ballotsOrder", fn := fun _ => fun
  | [d] => { results := [.lit (.bool true)], args := [d] }
  | _ => none }
def ballotsOrderRow : OpenClaim := { program := "ytogdpfmlldaeeaa", sum := "e58f48f8979afdb15352780ab16402af9429658b252043774531d45cf8b07dec", func := "trustquorum/trustquorumlaw23.BallotsOrder", spec := "ballotsOrder", apart := false }
def BallotsOrderSaid : Prop := ballotsOrderRow.holds Try.pinned (OpenSpec.ofChange ballotsOrderSpec)

/-- ITS FALSE NEIGHBOUR: 'it returns false'. Refute it at one input. -/
def ballotsOrderWrong : ChangeSpec := { name := "ballotsOrder", fn := fun _ => fun
  | [d] => { results := [.lit (.bool false)], args := [d] }
  | _ => none }
def BallotsOrderWrongFalsely : Prop := ballotsOrderRow.holds Try.pinned (OpenSpec.ofChange ballotsOrderWrong)

/-- 'trustquorumlaw23.BallotsPrepares': WHATEVER THE INPUT: true; the input reads as it did. -/
def ballotsPreparesSpec : ChangeSpec := { name := "ballotsPrepares", fn := fun _ => fun
  | [d] => { results := [.lit (.bool true)], args := [d] }
  | _ => none }
def ballotsPreparesRow : OpenClaim := { program := "ytogdpfmlldaeeaa", sum := "e58f48f8979afdb15352780ab16402af9429658b252043774531d45cf8b07dec", func := "trustquorum/trustquorumlaw23.BallotsPrepares", spec := "ballotsPrepares", apart := false }
def BallotsPreparesSaid : Prop := ballotsPreparesRow.holds Try.pinned (OpenSpec.ofChange ballotsPreparesSpec)

/-- ITS FALSE NEIGHBOUR: 'it returns false'. Refute it at one input. -/
def ballotsPreparesWrong : ChangeSpec := { name := "ballotsPrepares", fn := fun _ => fun
  | [d] => { results := [.lit (.bool false)], args := [d] }
  | _ => none }
def BallotsPreparesWrongFalsely : Prop := ballotsPreparesRow.holds Try.pinned (OpenSpec.ofChange ballotsPreparesWrong)

/-- 'trustquorumlaw23.BallotsMore': WHATEVER THE INPUT: true; the input reads as it did. -/
def ballotsMoreSpec : ChangeSpec := { name := "ballotsMore", fn := fun _ => fun
  | [d] => { results := [.lit (.bool true)], args := [d] }
  | _ => none }
def ballotsMoreRow : OpenClaim := { program := "ytogdpfmlldaeeaa", sum := "e58f48f8979afdb15352780ab16402af9429658b252043774531d45cf8b07dec", func := "trustquorum/trustquorumlaw23.BallotsMore", spec := "ballotsMore", apart := false }
def BallotsMoreSaid : Prop := ballotsMoreRow.holds Try.pinned (OpenSpec.ofChange ballotsMoreSpec)

/-- ITS FALSE NEIGHBOUR: 'it returns false'. Refute it at one input. -/
def ballotsMoreWrong : ChangeSpec := { name := "ballotsMore", fn := fun _ => fun
  | [d] => { results := [.lit (.bool false)], args := [d] }
  | _ => none }
def BallotsMoreWrongFalsely : Prop := ballotsMoreRow.holds Try.pinned (OpenSpec.ofChange ballotsMoreWrong)

/-- 'trustquorumlaw23.BallotsGreatest': WHATEVER THE INPUT: true; the input reads as it did. -/
def ballotsGreatestSpec : ChangeSpec := { name := "ballotsGreatest", fn := fun _ => fun
  | [d] => { results := [.lit (.bool true)], args := [d] }
  | _ => none }
def ballotsGreatestRow : OpenClaim := { program := "ytogdpfmlldaeeaa", sum := "e58f48f8979afdb15352780ab16402af9429658b252043774531d45cf8b07dec", func := "trustquorum/trustquorumlaw23.BallotsGreatest", spec := "ballotsGreatest", apart := false }
def BallotsGreatestSaid : Prop := ballotsGreatestRow.holds Try.pinned (OpenSpec.ofChange ballotsGreatestSpec)

/-- ITS FALSE NEIGHBOUR: 'it returns false'. Refute it at one input. -/
def ballotsGreatestWrong : ChangeSpec := { name := "ballotsGreatest", fn := fun _ => fun
  | [d] => { results := [.lit (.bool false)], args := [d] }
  | _ => none }
def BallotsGreatestWrongFalsely : Prop := ballotsGreatestRow.holds Try.pinned (OpenSpec.ofChange ballotsGreatestWrong)

/-- 'trustquorumlaw23.BallotsExact': WHATEVER THE INPUT: true; the input reads as it did. -/
def ballotsExactSpec : ChangeSpec := { name := "ballotsExact", fn := fun _ => fun
  | [d1, d2, d3, d4, d5, d6] => { results := [.lit (.bool true)], args := [d1, d2, d3, d4, d5, d6] }
  | _ => none }
def ballotsExactRow : OpenClaim := { program := "ytogdpfmlldaeeaa", sum := "e58f48f8979afdb15352780ab16402af9429658b252043774531d45cf8b07dec", func := "trustquorum/trustquorumlaw23.BallotsExact", spec := "ballotsExact", apart := false }
def BallotsExactSaid : Prop := ballotsExactRow.holds Try.pinned (OpenSpec.ofChange ballotsExactSpec)

/-- ITS FALSE NEIGHBOUR: 'it returns false'. Refute it at one input. -/
def ballotsExactWrong : ChangeSpec := { name := "ballotsExact", fn := fun _ => fun
  | [d1, d2, d3, d4, d5, d6] => { results := [.lit (.bool false)], args := [d1, d2, d3, d4, d5, d6] }
  | _ => none }
def BallotsExactWrongFalsely : Prop := ballotsExactRow.holds Try.pinned (OpenSpec.ofChange ballotsExactWrong)

/- THE SECOND FORM. 'bulk': how many values and letters a reading holds, each counted each time it is reached (what is shared counts as often as it is met; a slice's spare places count too). A statement '..UptoSaid' is the law's where the arguments, and the package variables that the reading takes, are together of bulk at most 1048576: NARROWER than '..Said'. Prove '..Said' where nothing that the law and all that it calls make is longer than what came in: it says more and counts as full. Else prove '..UptoSaid'. A law counts once. -/
mutual
def uptoBulk {H : Type} : DataW H → Nat
  | .lit (.string bytes) => bytes.length + 1
  | .lit _ => 1
  | .nil => 1
  | .ptr d => uptoBulk d + 1
  | .slice elems spare => uptoBulkAll elems + uptoBulkAll spare + 1
  | .agg parts => uptoBulkAll parts + 1
  | .iface _ d => uptoBulk d + 1
  | .map entries => uptoBulkEntries entries + 1
  | .held _ => 1
def uptoBulkAll {H : Type} : List (DataW H) → Nat
  | [] => 0
  | d :: r => uptoBulk d + uptoBulkAll r
def uptoBulkEntries {H : Type} : List (Lit × DataW H) → Nat
  | [] => 0
  | x :: r => uptoBulkEntry x + uptoBulkEntries r
def uptoBulkEntry {H : Type} : Lit × DataW H → Nat
  | (.string bytes, d) => bytes.length + uptoBulk d + 1
  | (_, d) => uptoBulk d + 1
 end
def uptoSmall : (H : Type) → List (DataW H) → Bool := fun _ ds => decide (uptoBulkAll ds ≤ 1048576)
def OpenSpec.upto (s : _root_.Go.ChangeSpec) : _root_.Go.OpenSpec := { _root_.Go.OpenSpec.ofChange s with cond := some uptoSmall }

/-- 'trustquorumlaw23.BallotsLowest', WHERE WHAT IT READS IS OF BULK AT MOST 1048576: true; the input reads as it did. -/
def ballotsLowestUptoRow : OpenClaim := { program := "ytogdpfmlldaeeaa", sum := "e58f48f8979afdb15352780ab16402af9429658b252043774531d45cf8b07dec", func := "trustquorum/trustquorumlaw23.BallotsLowest", spec := "ballotsLowest", apart := false, narrowed := true }
def BallotsLowestUptoSaid : Prop := ballotsLowestUptoRow.holds Try.pinned (OpenSpec.upto ballotsLowestSpec)

/-- 'trustquorumlaw23.BallotsOrder', WHERE WHAT IT READS IS OF BULK AT MOST 1048576: true; the input reads as it did. -/
def ballotsOrderUptoRow : OpenClaim := { program := "ytogdpfmlldaeeaa", sum := "e58f48f8979afdb15352780ab16402af9429658b252043774531d45cf8b07dec", func := "trustquorum/trustquorumlaw23.BallotsOrder", spec := "ballotsOrder", apart := false, narrowed := true }
def BallotsOrderUptoSaid : Prop := ballotsOrderUptoRow.holds Try.pinned (OpenSpec.upto ballotsOrderSpec)

/-- 'trustquorumlaw23.BallotsPrepares', WHERE WHAT IT READS IS OF BULK AT MOST 1048576: true; the input reads as it did. -/
def ballotsPreparesUptoRow : OpenClaim := { program := "ytogdpfmlldaeeaa", sum := "e58f48f8979afdb15352780ab16402af9429658b252043774531d45cf8b07dec", func := "trustquorum/trustquorumlaw23.BallotsPrepares", spec := "ballotsPrepares", apart := false, narrowed := true }
def BallotsPreparesUptoSaid : Prop := ballotsPreparesUptoRow.holds Try.pinned (OpenSpec.upto ballotsPreparesSpec)

/-- 'trustquorumlaw23.BallotsMore', WHERE WHAT IT READS IS OF BULK AT MOST 1048576: true; the input reads as it did. -/
def ballotsMoreUptoRow : OpenClaim := { program := "ytogdpfmlldaeeaa", sum := "e58f48f8979afdb15352780ab16402af9429658b252043774531d45cf8b07dec", func := "trustquorum/trustquorumlaw23.BallotsMore", spec := "ballotsMore", apart := false, narrowed := true }
def BallotsMoreUptoSaid : Prop := ballotsMoreUptoRow.holds Try.pinned (OpenSpec.upto ballotsMoreSpec)

/-- 'trustquorumlaw23.BallotsGreatest', WHERE WHAT IT READS IS OF BULK AT MOST 1048576: true; the input reads as it did. -/
def ballotsGreatestUptoRow : OpenClaim := { program := "ytogdpfmlldaeeaa", sum := "e58f48f8979afdb15352780ab16402af9429658b252043774531d45cf8b07dec", func := "trustquorum/trustquorumlaw23.BallotsGreatest", spec := "ballotsGreatest", apart := false, narrowed := true }
def BallotsGreatestUptoSaid : Prop := ballotsGreatestUptoRow.holds Try.pinned (OpenSpec.upto ballotsGreatestSpec)

/-- 'trustquorumlaw23.BallotsExact', WHERE WHAT IT READS IS OF BULK AT MOST 1048576: true; the input reads as it did. -/
def ballotsExactUptoRow : OpenClaim := { program := "ytogdpfmlldaeeaa", sum := "e58f48f8979afdb15352780ab16402af9429658b252043774531d45cf8b07dec", func := "trustquorum/trustquorumlaw23.BallotsExact", spec := "ballotsExact", apart := false, narrowed := true }
def BallotsExactUptoSaid : Prop := ballotsExactUptoRow.holds Try.pinned (OpenSpec.upto ballotsExactSpec)

end Rows
end Go.Proofs.Ytogdpfmlldaeeaa
