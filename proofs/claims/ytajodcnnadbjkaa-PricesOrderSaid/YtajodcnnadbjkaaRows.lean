/-
  No cell of these rows narrows 'for every input' (looked for: loops, veiled, ifaces, maps, wideKeys, modest, calm, conditions, laid).
  DERIVED. THE GIVEN ROWS OF THIS SEAT. 6 by the template 'for every input the law returns true; each argument reads behind the call as it read before'; 0 by the template 'total and deterministic' (their statements: YtajodcnnadbjkaaTotals.lean).
  GIVEN WITH THE SEED: the statements are not yours to turn. If you find one false, say at which input.
  Laid BY PROGRAM, IN A SANDBOX (cutbox-rows.mjs): the forced cells as the released guide's own fill.sh prints them over the translation 5275568224dd9ee8… (all of the seat's roots in one cut). By AI agents, Wed Nov 11 2026. No macro, syntax, notation, axiom, sorry.
-/
import Derived.Test.YtajodcnnadbjkaaChecked
import GoSem.Claim
import GoSem.ClaimJoined
import GoSem.ClaimMapViews
import Derived.JoinedTies
import Derived.KernelRfl
namespace Go.Proofs.Ytajodcnnadbjkaa
/- THE CELL 'sum', in the pinned program and in every row, IS THE sha256 OF THE DUMP (.gsa) THAT YtajodcnnadbjkaaProg.lean LOADS. Nothing in Lean hashes anything: it is a label: what it is worth is what the hold of that sum in a sandbox is worth. -/
noncomputable def Try.pinned : Pinned := { name := "ytajodcnnadbjkaa", sum := "5275568224dd9ee8ddc740cdc307401f51fa606565b4af41184d99ee890f33dd", checked := Try.checked }
namespace Rows
def none {H : Type} : Left H := { results := [], args := [] }

/-- 'queuelablaw14.PricesMatchesReference': WHATEVER THE INPUT: true; the input reads as it did. -/
def pricesMatchesReferenceSpec : ChangeSpec := { name := "pricesMatchesReference", fn := fun _ => fun
  | [d1, d2, d3, d4] => { results := [.lit (.bool true)], args := [d1, d2, d3, d4] }
  | _ => none }
def pricesMatchesReferenceRow : OpenClaim := { program := "ytajodcnnadbjkaa", sum := "5275568224dd9ee8ddc740cdc307401f51fa606565b4af41184d99ee890f33dd", func := "queuelab/queuelablaw14.PricesMatchesReference", spec := "pricesMatchesReference", unfollowed := true, recurses := true, apart := false }
def PricesMatchesReferenceSaid : Prop := pricesMatchesReferenceRow.holds Try.pinned (OpenSpec.ofChange pricesMatchesReferenceSpec)

/-- ITS FALSE NEIGHBOUR: 'it returns false'. Refute it at one input. -/
def pricesMatchesReferenceWrong : ChangeSpec := { name := "pricesMatchesReference", fn := fun _ => fun
  | [d1, d2, d3, d4] => { results := [.lit (.bool false)], args := [d1, d2, d3, d4] }
  | _ => none }
def PricesMatchesReferenceWrongFalsely : Prop := pricesMatchesReferenceRow.holds Try.pinned (OpenSpec.ofChange pricesMatchesReferenceWrong)

/-- 'queuelablaw14.PricesLeast': WHATEVER THE INPUT: true; the input reads as it did. -/
def pricesLeastSpec : ChangeSpec := { name := "pricesLeast", fn := fun _ => fun
  | [d1, d2, d3, d4] => { results := [.lit (.bool true)], args := [d1, d2, d3, d4] }
  | _ => none }
def pricesLeastRow : OpenClaim := { program := "ytajodcnnadbjkaa", sum := "5275568224dd9ee8ddc740cdc307401f51fa606565b4af41184d99ee890f33dd", func := "queuelab/queuelablaw14.PricesLeast", spec := "pricesLeast", unfollowed := true, recurses := true, apart := false }
def PricesLeastSaid : Prop := pricesLeastRow.holds Try.pinned (OpenSpec.ofChange pricesLeastSpec)

/-- ITS FALSE NEIGHBOUR: 'it returns false'. Refute it at one input. -/
def pricesLeastWrong : ChangeSpec := { name := "pricesLeast", fn := fun _ => fun
  | [d1, d2, d3, d4] => { results := [.lit (.bool false)], args := [d1, d2, d3, d4] }
  | _ => none }
def PricesLeastWrongFalsely : Prop := pricesLeastRow.holds Try.pinned (OpenSpec.ofChange pricesLeastWrong)

/-- 'queuelablaw14.PricesBound': WHATEVER THE INPUT: true; the input reads as it did. -/
def pricesBoundSpec : ChangeSpec := { name := "pricesBound", fn := fun _ => fun
  | [d1, d2, d3] => { results := [.lit (.bool true)], args := [d1, d2, d3] }
  | _ => none }
def pricesBoundRow : OpenClaim := { program := "ytajodcnnadbjkaa", sum := "5275568224dd9ee8ddc740cdc307401f51fa606565b4af41184d99ee890f33dd", func := "queuelab/queuelablaw14.PricesBound", spec := "pricesBound", unfollowed := true, recurses := true, apart := false }
def PricesBoundSaid : Prop := pricesBoundRow.holds Try.pinned (OpenSpec.ofChange pricesBoundSpec)

/-- ITS FALSE NEIGHBOUR: 'it returns false'. Refute it at one input. -/
def pricesBoundWrong : ChangeSpec := { name := "pricesBound", fn := fun _ => fun
  | [d1, d2, d3] => { results := [.lit (.bool false)], args := [d1, d2, d3] }
  | _ => none }
def PricesBoundWrongFalsely : Prop := pricesBoundRow.holds Try.pinned (OpenSpec.ofChange pricesBoundWrong)

/-- 'queuelablaw14.PricesOrder': WHATEVER THE INPUT: true; the input reads as it did. -/
def pricesOrderSpec : ChangeSpec := { name := "pricesOrder", fn := fun _ => fun
  | [d1, d2, d3, d4] => { results := [.lit (.bool true)], args := [d1, d2, d3, d4] }
  | _ => none }
def pricesOrderRow : OpenClaim := { program := "ytajodcnnadbjkaa", sum := "5275568224dd9ee8ddc740cdc307401f51fa606565b4af41184d99ee890f33dd", func := "queuelab/queuelablaw14.PricesOrder", spec := "pricesOrder", unfollowed := true, recurses := true, apart := false }
def PricesOrderSaid : Prop := pricesOrderRow.holds Try.pinned (OpenSpec.ofChange pricesOrderSpec)

/-- ITS FALSE NEIGHBOUR: 'it returns false'. Refute it at one input. -/
def pricesOrderWrong : ChangeSpec := { name := "pricesOrder", fn := fun _ => fun
  | [d1, d2, d3, d4] => { results := [.lit (.bool false)], args := [d1, d2, d3, d4] }
  | _ => none }
def PricesOrderWrongFalsely : Prop := pricesOrderRow.holds Try.pinned (OpenSpec.ofChange pricesOrderWrong)

/-- 'queuelablaw14.PricesOne': WHATEVER THE INPUT: true; the input reads as it did. -/
def pricesOneSpec : ChangeSpec := { name := "pricesOne", fn := fun _ => fun
  | [d1, d2, d3, d4, d5, d6] => { results := [.lit (.bool true)], args := [d1, d2, d3, d4, d5, d6] }
  | _ => none }
def pricesOneRow : OpenClaim := { program := "ytajodcnnadbjkaa", sum := "5275568224dd9ee8ddc740cdc307401f51fa606565b4af41184d99ee890f33dd", func := "queuelab/queuelablaw14.PricesOne", spec := "pricesOne", unfollowed := true, recurses := true, apart := false }
def PricesOneSaid : Prop := pricesOneRow.holds Try.pinned (OpenSpec.ofChange pricesOneSpec)

/-- ITS FALSE NEIGHBOUR: 'it returns false'. Refute it at one input. -/
def pricesOneWrong : ChangeSpec := { name := "pricesOne", fn := fun _ => fun
  | [d1, d2, d3, d4, d5, d6] => { results := [.lit (.bool false)], args := [d1, d2, d3, d4, d5, d6] }
  | _ => none }
def PricesOneWrongFalsely : Prop := pricesOneRow.holds Try.pinned (OpenSpec.ofChange pricesOneWrong)

/-- 'queuelablaw14.PricesMore': WHATEVER THE INPUT: true; the input reads as it did. -/
def pricesMoreSpec : ChangeSpec := { name := "pricesMore", fn := fun _ => fun
  | [d1, d2, d3, d4, d5, d6] => { results := [.lit (.bool true)], args := [d1, d2, d3, d4, d5, d6] }
  | _ => none }
def pricesMoreRow : OpenClaim := { program := "ytajodcnnadbjkaa", sum := "5275568224dd9ee8ddc740cdc307401f51fa606565b4af41184d99ee890f33dd", func := "queuelab/queuelablaw14.PricesMore", spec := "pricesMore", unfollowed := true, recurses := true, apart := false }
def PricesMoreSaid : Prop := pricesMoreRow.holds Try.pinned (OpenSpec.ofChange pricesMoreSpec)

/-- ITS FALSE NEIGHBOUR: 'it returns false'. Refute it at one input. -/
def pricesMoreWrong : ChangeSpec := { name := "pricesMore", fn := fun _ => fun
  | [d1, d2, d3, d4, d5, d6] => { results := [.lit (.bool false)], args := [d1, d2, d3, d4, d5, d6] }
  | _ => none }
def PricesMoreWrongFalsely : Prop := pricesMoreRow.holds Try.pinned (OpenSpec.ofChange pricesMoreWrong)

/- THE SECOND FORM. 'bulk': how many values and letters a reading holds, each counted each time it is reached (what is shared counts as often as it is met; a slice's spare places count too). A statement '..UptoSaid' is the law's where the arguments, and the package variables that the reading takes, are together of bulk at most 1048576: NARROWER than '..Said'. Prove '..Said' where nothing that the law and all that it calls make is longer than what came in: it says more and counts as full. Else prove '..UptoSaid'. A law counts once. -/
mutual
def uptoBulk {H : Type} : DataW H → Nat
  | .lit (.string bytes) => bytes.length + 1
  | .lit _ => 1
  | .nil => 1
  | .ptr d => uptoBulk d + 1
  | .slice elems spare => uptoBulkAll elems + uptoBulkAll spare + 1
  | .agg parts => uptoBulkAll parts + 1
  | .iface _ d => uptoBulk d + 1
  | .map entries => uptoBulkEntries entries + 1
  | .held _ => 1
def uptoBulkAll {H : Type} : List (DataW H) → Nat
  | [] => 0
  | d :: r => uptoBulk d + uptoBulkAll r
def uptoBulkEntries {H : Type} : List (Lit × DataW H) → Nat
  | [] => 0
  | x :: r => uptoBulkEntry x + uptoBulkEntries r
def uptoBulkEntry {H : Type} : Lit × DataW H → Nat
  | (.string bytes, d) => bytes.length + uptoBulk d + 1
  | (_, d) => uptoBulk d + 1
 end
def uptoSmall : (H : Type) → List (DataW H) → Bool := fun _ ds => decide (uptoBulkAll ds ≤ 1048576)
def OpenSpec.upto (s : _root_.Go.ChangeSpec) : _root_.Go.OpenSpec := { _root_.Go.OpenSpec.ofChange s with cond := some uptoSmall }

/-- 'queuelablaw14.PricesMatchesReference', WHERE WHAT IT READS IS OF BULK AT MOST 1048576: true; the input reads as it did. -/
def pricesMatchesReferenceUptoRow : OpenClaim := { program := "ytajodcnnadbjkaa", sum := "5275568224dd9ee8ddc740cdc307401f51fa606565b4af41184d99ee890f33dd", func := "queuelab/queuelablaw14.PricesMatchesReference", spec := "pricesMatchesReference", unfollowed := true, recurses := true, apart := false, narrowed := true }
def PricesMatchesReferenceUptoSaid : Prop := pricesMatchesReferenceUptoRow.holds Try.pinned (OpenSpec.upto pricesMatchesReferenceSpec)

/-- 'queuelablaw14.PricesLeast', WHERE WHAT IT READS IS OF BULK AT MOST 1048576: true; the input reads as it did. -/
def pricesLeastUptoRow : OpenClaim := { program := "ytajodcnnadbjkaa", sum := "5275568224dd9ee8ddc740cdc307401f51fa606565b4af41184d99ee890f33dd", func := "queuelab/queuelablaw14.PricesLeast", spec := "pricesLeast", unfollowed := true, recurses := true, apart := false, narrowed := true }
def PricesLeastUptoSaid : Prop := pricesLeastUptoRow.holds Try.pinned (OpenSpec.upto pricesLeastSpec)

/-- 'queuelablaw14.PricesBound', WHERE WHAT IT READS IS OF BULK AT MOST 1048576: true; the input reads as it did. -/
def pricesBoundUptoRow : OpenClaim := { program := "ytajodcnnadbjkaa", sum := "5275568224dd9ee8ddc740cdc307401f51fa606565b4af41184d99ee890f33dd", func := "queuelab/queuelablaw14.PricesBound", spec := "pricesBound", unfollowed := true, recurses := true, apart := false, narrowed := true }
def PricesBoundUptoSaid : Prop := pricesBoundUptoRow.holds Try.pinned (OpenSpec.upto pricesBoundSpec)

/-- 'queuelablaw14.PricesOrder', WHERE WHAT IT READS IS OF BULK AT MOST 1048576: true; the input reads as it did. -/
def pricesOrderUptoRow : OpenClaim := { program := "ytajodcnnadbjkaa", sum := "5275568224dd9ee8ddc740cdc307401f51fa606565b4af41184d99ee890f33dd", func := "queuelab/queuelablaw14.PricesOrder", spec := "pricesOrder", unfollowed := true, recurses := true, apart := false, narrowed := true }
def PricesOrderUptoSaid : Prop := pricesOrderUptoRow.holds Try.pinned (OpenSpec.upto pricesOrderSpec)

/-- 'queuelablaw14.PricesOne', WHERE WHAT IT READS IS OF BULK AT MOST 1048576: true; the input reads as it did. -/
def pricesOneUptoRow : OpenClaim := { program := "ytajodcnnadbjkaa", sum := "5275568224dd9ee8ddc740cdc307401f51fa606565b4af41184d99ee890f33dd", func := "queuelab/queuelablaw14.PricesOne", spec := "pricesOne", unfollowed := true, recurses := true, apart := false, narrowed := true }
def PricesOneUptoSaid : Prop := pricesOneUptoRow.holds Try.pinned (OpenSpec.upto pricesOneSpec)

/-- 'queuelablaw14.PricesMore', WHERE WHAT IT READS IS OF BULK AT MOST 1048576: true; the input reads as it did. -/
def pricesMoreUptoRow : OpenClaim := { program := "ytajodcnnadbjkaa", sum := "5275568224dd9ee8ddc740cdc307401f51fa606565b4af41184d99ee890f33dd", func := "queuelab/queuelablaw14.PricesMore", spec := "pricesMore", unfollowed := true, recurses := true, apart := false, narrowed := true }
def PricesMoreUptoSaid : Prop := pricesMoreUptoRow.holds Try.pinned (OpenSpec.upto pricesMoreSpec)

end Rows
end Go.Proofs.Ytajodcnnadbjkaa
