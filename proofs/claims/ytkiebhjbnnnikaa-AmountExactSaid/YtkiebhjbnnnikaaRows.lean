/-
  No cell of these rows narrows 'for every input' (looked for: loops, veiled, ifaces, maps, wideKeys, modest, calm, conditions, laid).
  DERIVED. THE GIVEN ROWS OF THIS SEAT. 5 by the template 'for every input the law returns true; each argument reads behind the call as it read before'; 0 by the template 'total and deterministic' (their statements: YtkiebhjbnnnikaaTotals.lean).
  GIVEN WITH THE SEED: the statements are not yours to turn. If you find one false, say at which input.
  Laid BY PROGRAM, IN A SANDBOX (cutbox-rows.mjs): the forced cells as the released guide's own fill.sh prints them over the translation a7dcceb45e1c3591… (all of the seat's roots in one cut). By AI agents, Wed Nov 11 2026. No macro, syntax, notation, axiom, sorry.
-/
import Derived.Test.YtkiebhjbnnnikaaChecked
import GoSem.Claim
import GoSem.ClaimJoined
import GoSem.ClaimMapViews
import Derived.JoinedTies
import Derived.KernelRfl
namespace Go.Proofs.Ytkiebhjbnnnikaa
/- THE CELL 'sum', in the pinned program and in every row, IS THE sha256 OF THE DUMP (.gsa) THAT YtkiebhjbnnnikaaProg.lean LOADS. Nothing in Lean hashes anything: it is a label: what it is worth is what the hold of that sum in a sandbox is worth. -/
noncomputable def Try.pinned : Pinned := { name := "ytkiebhjbnnnikaa", sum := "a7dcceb45e1c35915d29eac0f5ffecae05b97a4391cc4ecbcfe739c5f1a2e105", checked := Try.checked }
namespace Rows
def none {H : Type} : Left H := { results := [], args := [] }

/-- 'trustquorumlaw35.AmountRounds': WHATEVER THE INPUT: true; the input reads as it did. -/
def amountRoundsSpec : ChangeSpec := { name := "amountRounds", fn := fun _ => fun
  | [d1, d2, d3] => { results := [.lit (.bool true)], args := [d1, d2, d3] }
  | _ => none }
def amountRoundsRow : OpenClaim := { program := "ytkiebhjbnnnikaa", sum := "a7dcceb45e1c35915d29eac0f5ffecae05b97a4391cc4ecbcfe739c5f1a2e105", func := "trustquorum/trustquorumlaw35.AmountRounds", spec := "amountRounds", apart := false }
def AmountRoundsSaid : Prop := amountRoundsRow.holds Try.pinned (OpenSpec.ofChange amountRoundsSpec)

/-- ITS FALSE NEIGHBOUR: 'it returns false'. Refute it at one input. -/
def amountRoundsWrong : ChangeSpec := { name := "amountRounds", fn := fun _ => fun
  | [d1, d2, d3] => { results := [.lit (.bool false)], args := [d1, d2, d3] }
  | _ => none }
def AmountRoundsWrongFalsely : Prop := amountRoundsRow.holds Try.pinned (OpenSpec.ofChange amountRoundsWrong)

/-- 'trustquorumlaw35.AmountParts': WHATEVER THE INPUT: true; the input reads as it did. -/
def amountPartsSpec : ChangeSpec := { name := "amountParts", fn := fun _ => fun
  | [d1, d2, d3, d4] => { results := [.lit (.bool true)], args := [d1, d2, d3, d4] }
  | _ => none }
def amountPartsRow : OpenClaim := { program := "ytkiebhjbnnnikaa", sum := "a7dcceb45e1c35915d29eac0f5ffecae05b97a4391cc4ecbcfe739c5f1a2e105", func := "trustquorum/trustquorumlaw35.AmountParts", spec := "amountParts", apart := false }
def AmountPartsSaid : Prop := amountPartsRow.holds Try.pinned (OpenSpec.ofChange amountPartsSpec)

/-- ITS FALSE NEIGHBOUR: 'it returns false'. Refute it at one input. -/
def amountPartsWrong : ChangeSpec := { name := "amountParts", fn := fun _ => fun
  | [d1, d2, d3, d4] => { results := [.lit (.bool false)], args := [d1, d2, d3, d4] }
  | _ => none }
def AmountPartsWrongFalsely : Prop := amountPartsRow.holds Try.pinned (OpenSpec.ofChange amountPartsWrong)

/-- 'trustquorumlaw35.AmountPrices': WHATEVER THE INPUT: true; the input reads as it did. -/
def amountPricesSpec : ChangeSpec := { name := "amountPrices", fn := fun _ => fun
  | [d1, d2, d3, d4, d5] => { results := [.lit (.bool true)], args := [d1, d2, d3, d4, d5] }
  | _ => none }
def amountPricesRow : OpenClaim := { program := "ytkiebhjbnnnikaa", sum := "a7dcceb45e1c35915d29eac0f5ffecae05b97a4391cc4ecbcfe739c5f1a2e105", func := "trustquorum/trustquorumlaw35.AmountPrices", spec := "amountPrices", apart := false }
def AmountPricesSaid : Prop := amountPricesRow.holds Try.pinned (OpenSpec.ofChange amountPricesSpec)

/-- ITS FALSE NEIGHBOUR: 'it returns false'. Refute it at one input. -/
def amountPricesWrong : ChangeSpec := { name := "amountPrices", fn := fun _ => fun
  | [d1, d2, d3, d4, d5] => { results := [.lit (.bool false)], args := [d1, d2, d3, d4, d5] }
  | _ => none }
def AmountPricesWrongFalsely : Prop := amountPricesRow.holds Try.pinned (OpenSpec.ofChange amountPricesWrong)

/-- 'trustquorumlaw35.AmountAssets': WHATEVER THE INPUT: true; the input reads as it did. -/
def amountAssetsSpec : ChangeSpec := { name := "amountAssets", fn := fun _ => fun
  | [d] => { results := [.lit (.bool true)], args := [d] }
  | _ => none }
def amountAssetsRow : OpenClaim := { program := "ytkiebhjbnnnikaa", sum := "a7dcceb45e1c35915d29eac0f5ffecae05b97a4391cc4ecbcfe739c5f1a2e105", func := "trustquorum/trustquorumlaw35.AmountAssets", spec := "amountAssets", apart := false }
def AmountAssetsSaid : Prop := amountAssetsRow.holds Try.pinned (OpenSpec.ofChange amountAssetsSpec)

/-- ITS FALSE NEIGHBOUR: 'it returns false'. Refute it at one input. -/
def amountAssetsWrong : ChangeSpec := { name := "amountAssets", fn := fun _ => fun
  | [d] => { results := [.lit (.bool false)], args := [d] }
  | _ => none }
def AmountAssetsWrongFalsely : Prop := amountAssetsRow.holds Try.pinned (OpenSpec.ofChange amountAssetsWrong)

/-- 'trustquorumlaw35.AmountExact': WHATEVER THE INPUT: true; the input reads as it did. -/
def amountExactSpec : ChangeSpec := { name := "amountExact", fn := fun _ => fun
  | [d1, d2, d3, d4, d5, d6, d7] => { results := [.lit (.bool true)], args := [d1, d2, d3, d4, d5, d6, d7] }
  | _ => none }
def amountExactRow : OpenClaim := { program := "ytkiebhjbnnnikaa", sum := "a7dcceb45e1c35915d29eac0f5ffecae05b97a4391cc4ecbcfe739c5f1a2e105", func := "trustquorum/trustquorumlaw35.AmountExact", spec := "amountExact", apart := false }
def AmountExactSaid : Prop := amountExactRow.holds Try.pinned (OpenSpec.ofChange amountExactSpec)

/-- ITS FALSE NEIGHBOUR: 'it returns false'. Refute it at one input. -/
def amountExactWrong : ChangeSpec := { name := "amountExact", fn := fun _ => fun
  | [d1, d2, d3, d4, d5, d6, d7] => { results := [.lit (.bool false)], args := [d1, d2, d3, d4, d5, d6, d7] }
  | _ => none }
def AmountExactWrongFalsely : Prop := amountExactRow.holds Try.pinned (OpenSpec.ofChange amountExactWrong)

/- THE SECOND FORM. 'bulk': how many values and letters a reading holds, each counted each time it is reached (what is shared counts as often as it is met; a slice's spare places count too). A statement '..UptoSaid' is the law's where the arguments, and the package variables that the reading takes, are together of bulk at most 1048576: NARROWER than '..Said'. Prove '..Said' where nothing that the law and all that it calls make is longer than what came in: it says more and counts as full. Else prove '..UptoSaid'. A law counts once. -/
mutual
def uptoBulk {H : Type} : DataW H → Nat
  | .lit (.string bytes) => bytes.length + 1
  | .lit _ => 1
  | .nil => 1
  | .ptr d => uptoBulk d + 1
  | .slice elems spare => uptoBulkAll elems + uptoBulkAll spare + 1
  | .agg parts => uptoBulkAll parts + 1
  | .iface _ d => uptoBulk d + 1
  | .map entries => uptoBulkEntries entries + 1
  | .held _ => 1
def uptoBulkAll {H : Type} : List (DataW H) → Nat
  | [] => 0
  | d :: r => uptoBulk d + uptoBulkAll r
def uptoBulkEntries {H : Type} : List (Lit × DataW H) → Nat
  | [] => 0
  | x :: r => uptoBulkEntry x + uptoBulkEntries r
def uptoBulkEntry {H : Type} : Lit × DataW H → Nat
  | (.string bytes, d) => bytes.length + uptoBulk d + 1
  | (_, d) => uptoBulk d + 1
 end
def uptoSmall : (H : Type) → List (DataW H) → Bool := fun _ ds => decide (uptoBulkAll ds ≤ 1048576)
def OpenSpec.upto (s : _root_.Go.ChangeSpec) : _root_.Go.OpenSpec := { _root_.Go.OpenSpec.ofChange s with cond := some uptoSmall }

/-- 'trustquorumlaw35.AmountRounds', WHERE WHAT IT READS IS OF BULK AT MOST 1048576: true; the input reads as it did. -/
def amountRoundsUptoRow : OpenClaim := { program := "ytkiebhjbnnnikaa", sum := "a7dcceb45e1c35915d29eac0f5ffecae05b97a4391cc4ecbcfe739c5f1a2e105", func := "trustquorum/trustquorumlaw35.AmountRounds", spec := "amountRounds", apart := false, narrowed := true }
def AmountRoundsUptoSaid : Prop := amountRoundsUptoRow.holds Try.pinned (OpenSpec.upto amountRoundsSpec)

/-- 'trustquorumlaw35.AmountParts', WHERE WHAT IT READS IS OF BULK AT MOST 1048576: true; the input reads as it did. -/
def amountPartsUptoRow : OpenClaim := { program := "ytkiebhjbnnnikaa", sum := "a7dcceb45e1c35915d29eac0f5ffecae05b97a4391cc4ecbcfe739c5f1a2e105", func := "trustquorum/trustquorumlaw35.AmountParts", spec := "amountParts", apart := false, narrowed := true }
def AmountPartsUptoSaid : Prop := amountPartsUptoRow.holds Try.pinned (OpenSpec.upto amountPartsSpec)

/-- 'trustquorumlaw35.AmountPrices', WHERE WHAT IT READS IS OF BULK AT MOST 1048576: true; the input reads as it did. -/
def amountPricesUptoRow : OpenClaim := { program := "ytkiebhjbnnnikaa", sum := "a7dcceb45e1c35915d29eac0f5ffecae05b97a4391cc4ecbcfe739c5f1a2e105", func := "trustquorum/trustquorumlaw35.AmountPrices", spec := "amountPrices", apart := false, narrowed := true }
def AmountPricesUptoSaid : Prop := amountPricesUptoRow.holds Try.pinned (OpenSpec.upto amountPricesSpec)

/-- 'trustquorumlaw35.AmountAssets', WHERE WHAT IT READS IS OF BULK AT MOST 1048576: true; the input reads as it did. -/
def amountAssetsUptoRow : OpenClaim := { program := "ytkiebhjbnnnikaa", sum := "a7dcceb45e1c35915d29eac0f5ffecae05b97a4391cc4ecbcfe739c5f1a2e105", func := "trustquorum/trustquorumlaw35.AmountAssets", spec := "amountAssets", apart := false, narrowed := true }
def AmountAssetsUptoSaid : Prop := amountAssetsUptoRow.holds Try.pinned (OpenSpec.upto amountAssetsSpec)

/-- 'trustquorumlaw35.AmountExact', WHERE WHAT IT READS IS OF BULK AT MOST 1048576: true; the input reads as it did. -/
def amountExactUptoRow : OpenClaim := { program := "ytkiebhjbnnnikaa", sum := "a7dcceb45e1c35915d29eac0f5ffecae05b97a4391cc4ecbcfe739c5f1a2e105", func := "trustquorum/trustquorumlaw35.AmountExact", spec := "amountExact", apart := false, narrowed := true }
def AmountExactUptoSaid : Prop := amountExactUptoRow.holds Try.pinned (OpenSpec.upto amountExactSpec)

end Rows
end Go.Proofs.Ytkiebhjbnnnikaa
