/-
  No cell of these rows narrows 'for every input' (looked for: loops, veiled, ifaces, maps, wideKeys, modest, calm, conditions, laid).
  DERIVED. THE GIVEN ROWS OF THIS SEAT. 7 by the template 'for every input the law returns true; each argument reads behind the call as it read before'; 0 by the template 'total and deterministic' (their statements: YtojbaamhnfinpaaTotals.lean).
  GIVEN WITH THE SEED: the statements are not yours to turn. If you find one false, say at which input.
  Laid BY PROGRAM, IN A SANDBOX (cutbox-rows.mjs): the forced cells as the released guide's own fill.sh prints them over the translation 4d0fb6eed88d68c2… (all of the seat's roots in one cut). By AI agents, Wed Nov 11 2026. No macro, syntax, notation, axiom, sorry.
-/
import Derived.Test.YtojbaamhnfinpaaChecked
import GoSem.Claim
import GoSem.ClaimJoined
import GoSem.ClaimMapViews
import Derived.JoinedTies
import Derived.KernelRfl
namespace Go.Proofs.Ytojbaamhnfinpaa
/- THE CELL 'sum', in the pinned program and in every row, IS THE sha256 OF THE DUMP (.gsa) THAT YtojbaamhnfinpaaProg.lean LOADS. Nothing in Lean hashes anything: it is a label: what it is worth is what the hold of that sum in a sandbox is worth. -/
noncomputable def Try.pinned : Pinned := { name := "ytojbaamhnfinpaa", sum := "4d0fb6eed88d68c2009d260443275c741aba3dde252b4268895e3a6cf1137662", checked := Try.checked }
namespace Rows
def none {H : Type} : Left H := { results := [], args := [] }

/-- 'queuelablaw06.IntervalMatchesReference': WHATEVER THE INPUT: true; the input reads as it did. -/
def intervalMatchesReferenceSpec : ChangeSpec := { name := "intervalMatchesReference", fn := fun _ => fun
  | [d1, d2] => { results := [.lit (.bool true)], args := [d1, d2] }
  | _ => none }
def intervalMatchesReferenceRow : OpenClaim := { program := "ytojbaamhnfinpaa", sum := "4d0fb6eed88d68c2009d260443275c741aba3dde252b4268895e3a6cf1137662", func := "queuelab/queuelablaw06.IntervalMatchesReference", spec := "intervalMatchesReference", unfollowed := true, recurses := true, apart := false }
def IntervalMatchesReferenceSaid : Prop := intervalMatchesReferenceRow.holds Try.pinned (OpenSpec.ofChange intervalMatchesReferenceSpec)

/-- ITS FALSE NEIGHBOUR: 'it returns false'. Refute it at one input. -/
def intervalMatchesReferenceWrong : ChangeSpec := { name := "intervalMatchesReference", fn := fun _ => fun
  | [d1, d2] => { results := [.lit (.bool false)], args := [d1, d2] }
  | _ => none }
def IntervalMatchesReferenceWrongFalsely : Prop := intervalMatchesReferenceRow.holds Try.pinned (OpenSpec.ofChange intervalMatchesReferenceWrong)

/-- 'queuelablaw06.IntervalContains': WHATEVER THE INPUT: true; the input reads as it did. -/
def intervalContainsSpec : ChangeSpec := { name := "intervalContains", fn := fun _ => fun
  | [d1, d2, d3, d4] => { results := [.lit (.bool true)], args := [d1, d2, d3, d4] }
  | _ => none }
def intervalContainsRow : OpenClaim := { program := "ytojbaamhnfinpaa", sum := "4d0fb6eed88d68c2009d260443275c741aba3dde252b4268895e3a6cf1137662", func := "queuelab/queuelablaw06.IntervalContains", spec := "intervalContains", unfollowed := true, recurses := true, apart := false }
def IntervalContainsSaid : Prop := intervalContainsRow.holds Try.pinned (OpenSpec.ofChange intervalContainsSpec)

/-- ITS FALSE NEIGHBOUR: 'it returns false'. Refute it at one input. -/
def intervalContainsWrong : ChangeSpec := { name := "intervalContains", fn := fun _ => fun
  | [d1, d2, d3, d4] => { results := [.lit (.bool false)], args := [d1, d2, d3, d4] }
  | _ => none }
def IntervalContainsWrongFalsely : Prop := intervalContainsRow.holds Try.pinned (OpenSpec.ofChange intervalContainsWrong)

/-- 'queuelablaw06.IntervalLeast': WHATEVER THE INPUT: true; the input reads as it did. -/
def intervalLeastSpec : ChangeSpec := { name := "intervalLeast", fn := fun _ => fun
  | [d1, d2] => { results := [.lit (.bool true)], args := [d1, d2] }
  | _ => none }
def intervalLeastRow : OpenClaim := { program := "ytojbaamhnfinpaa", sum := "4d0fb6eed88d68c2009d260443275c741aba3dde252b4268895e3a6cf1137662", func := "queuelab/queuelablaw06.IntervalLeast", spec := "intervalLeast", unfollowed := true, recurses := true, apart := false }
def IntervalLeastSaid : Prop := intervalLeastRow.holds Try.pinned (OpenSpec.ofChange intervalLeastSpec)

/-- ITS FALSE NEIGHBOUR: 'it returns false'. Refute it at one input. -/
def intervalLeastWrong : ChangeSpec := { name := "intervalLeast", fn := fun _ => fun
  | [d1, d2] => { results := [.lit (.bool false)], args := [d1, d2] }
  | _ => none }
def IntervalLeastWrongFalsely : Prop := intervalLeastRow.holds Try.pinned (OpenSpec.ofChange intervalLeastWrong)

/-- 'queuelablaw06.IntervalNarrower': WHATEVER THE INPUT: true; the input reads as it did. -/
def intervalNarrowerSpec : ChangeSpec := { name := "intervalNarrower", fn := fun _ => fun
  | [d1, d2, d3, d4, d5, d6] => { results := [.lit (.bool true)], args := [d1, d2, d3, d4, d5, d6] }
  | _ => none }
def intervalNarrowerRow : OpenClaim := { program := "ytojbaamhnfinpaa", sum := "4d0fb6eed88d68c2009d260443275c741aba3dde252b4268895e3a6cf1137662", func := "queuelab/queuelablaw06.IntervalNarrower", spec := "intervalNarrower", unfollowed := true, recurses := true, apart := false }
def IntervalNarrowerSaid : Prop := intervalNarrowerRow.holds Try.pinned (OpenSpec.ofChange intervalNarrowerSpec)

/-- ITS FALSE NEIGHBOUR: 'it returns false'. Refute it at one input. -/
def intervalNarrowerWrong : ChangeSpec := { name := "intervalNarrower", fn := fun _ => fun
  | [d1, d2, d3, d4, d5, d6] => { results := [.lit (.bool false)], args := [d1, d2, d3, d4, d5, d6] }
  | _ => none }
def IntervalNarrowerWrongFalsely : Prop := intervalNarrowerRow.holds Try.pinned (OpenSpec.ofChange intervalNarrowerWrong)

/-- 'queuelablaw06.IntervalSigns': WHATEVER THE INPUT: true; the input reads as it did. -/
def intervalSignsSpec : ChangeSpec := { name := "intervalSigns", fn := fun _ => fun
  | [d1, d2] => { results := [.lit (.bool true)], args := [d1, d2] }
  | _ => none }
def intervalSignsRow : OpenClaim := { program := "ytojbaamhnfinpaa", sum := "4d0fb6eed88d68c2009d260443275c741aba3dde252b4268895e3a6cf1137662", func := "queuelab/queuelablaw06.IntervalSigns", spec := "intervalSigns", unfollowed := true, recurses := true, apart := false }
def IntervalSignsSaid : Prop := intervalSignsRow.holds Try.pinned (OpenSpec.ofChange intervalSignsSpec)

/-- ITS FALSE NEIGHBOUR: 'it returns false'. Refute it at one input. -/
def intervalSignsWrong : ChangeSpec := { name := "intervalSigns", fn := fun _ => fun
  | [d1, d2] => { results := [.lit (.bool false)], args := [d1, d2] }
  | _ => none }
def IntervalSignsWrongFalsely : Prop := intervalSignsRow.holds Try.pinned (OpenSpec.ofChange intervalSignsWrong)

/-- 'queuelablaw06.IntervalExchanged': WHATEVER THE INPUT: true; the input reads as it did. -/
def intervalExchangedSpec : ChangeSpec := { name := "intervalExchanged", fn := fun _ => fun
  | [d1, d2, d3, d4] => { results := [.lit (.bool true)], args := [d1, d2, d3, d4] }
  | _ => none }
def intervalExchangedRow : OpenClaim := { program := "ytojbaamhnfinpaa", sum := "4d0fb6eed88d68c2009d260443275c741aba3dde252b4268895e3a6cf1137662", func := "queuelab/queuelablaw06.IntervalExchanged", spec := "intervalExchanged", unfollowed := true, recurses := true, apart := false }
def IntervalExchangedSaid : Prop := intervalExchangedRow.holds Try.pinned (OpenSpec.ofChange intervalExchangedSpec)

/-- ITS FALSE NEIGHBOUR: 'it returns false'. Refute it at one input. -/
def intervalExchangedWrong : ChangeSpec := { name := "intervalExchanged", fn := fun _ => fun
  | [d1, d2, d3, d4] => { results := [.lit (.bool false)], args := [d1, d2, d3, d4] }
  | _ => none }
def IntervalExchangedWrongFalsely : Prop := intervalExchangedRow.holds Try.pinned (OpenSpec.ofChange intervalExchangedWrong)

/-- 'queuelablaw06.IntervalErrors': WHATEVER THE INPUT: true; the input reads as it did. -/
def intervalErrorsSpec : ChangeSpec := { name := "intervalErrors", fn := fun _ => fun
  | [d1, d2] => { results := [.lit (.bool true)], args := [d1, d2] }
  | _ => none }
def intervalErrorsRow : OpenClaim := { program := "ytojbaamhnfinpaa", sum := "4d0fb6eed88d68c2009d260443275c741aba3dde252b4268895e3a6cf1137662", func := "queuelab/queuelablaw06.IntervalErrors", spec := "intervalErrors", unfollowed := true, recurses := true, apart := false }
def IntervalErrorsSaid : Prop := intervalErrorsRow.holds Try.pinned (OpenSpec.ofChange intervalErrorsSpec)

/-- ITS FALSE NEIGHBOUR: 'it returns false'. Refute it at one input. -/
def intervalErrorsWrong : ChangeSpec := { name := "intervalErrors", fn := fun _ => fun
  | [d1, d2] => { results := [.lit (.bool false)], args := [d1, d2] }
  | _ => none }
def IntervalErrorsWrongFalsely : Prop := intervalErrorsRow.holds Try.pinned (OpenSpec.ofChange intervalErrorsWrong)

/- THE SECOND FORM. 'bulk': how many values and letters a reading holds, each counted each time it is reached (what is shared counts as often as it is met; a slice's spare places count too). A statement '..UptoSaid' is the law's where the arguments, and the package variables that the reading takes, are together of bulk at most 1048576: NARROWER than '..Said'. Prove '..Said' where nothing that the law and all that it calls make is longer than what came in: it says more and counts as full. Else prove '..UptoSaid'. A law counts once. -/
mutual
def uptoBulk {H : Type} : DataW H → Nat
  | .lit (.string bytes) => bytes.length + 1
  | .lit _ => 1
  | .nil => 1
  | .ptr d => uptoBulk d + 1
  | .slice elems spare => uptoBulkAll elems + uptoBulkAll spare + 1
  | .agg parts => uptoBulkAll parts + 1
  | .iface _ d => uptoBulk d + 1
  | .map entries => uptoBulkEntries entries + 1
  | .held _ => 1
def uptoBulkAll {H : Type} : List (DataW H) → Nat
  | [] => 0
  | d :: r => uptoBulk d + uptoBulkAll r
def uptoBulkEntries {H : Type} : List (Lit × DataW H) → Nat
  | [] => 0
  | x :: r => uptoBulkEntry x + uptoBulkEntries r
def uptoBulkEntry {H : Type} : Lit × DataW H → Nat
  | (.string bytes, d) => bytes.length + uptoBulk d + 1
  | (_, d) => uptoBulk d + 1
 end
def uptoSmall : (H : Type) → List (DataW H) → Bool := fun _ ds => decide (uptoBulkAll ds ≤ 1048576)
def OpenSpec.upto (s : _root_.Go.ChangeSpec) : _root_.Go.OpenSpec := { _root_.Go.OpenSpec.ofChange s with cond := some uptoSmall }

/-- 'queuelablaw06.IntervalMatchesReference', WHERE WHAT IT READS IS OF BULK AT MOST 1048576: true; the input reads as it did. -/
def intervalMatchesReferenceUptoRow : OpenClaim := { program := "ytojbaamhnfinpaa", sum := "4d0fb6eed88d68c2009d260443275c741aba3dde252b4268895e3a6cf1137662", func := "queuelab/queuelablaw06.IntervalMatchesReference", spec := "intervalMatchesReference", unfollowed := true, recurses := true, apart := false, narrowed := true }
def IntervalMatchesReferenceUptoSaid : Prop := intervalMatchesReferenceUptoRow.holds Try.pinned (OpenSpec.upto intervalMatchesReferenceSpec)

/-- 'queuelablaw06.IntervalContains', WHERE WHAT IT READS IS OF BULK AT MOST 1048576: true; the input reads as it did. -/
def intervalContainsUptoRow : OpenClaim := { program := "ytojbaamhnfinpaa", sum := "4d0fb6eed88d68c2009d260443275c741aba3dde252b4268895e3a6cf1137662", func := "queuelab/queuelablaw06.IntervalContains", spec := "intervalContains", unfollowed := true, recurses := true, apart := false, narrowed := true }
def IntervalContainsUptoSaid : Prop := intervalContainsUptoRow.holds Try.pinned (OpenSpec.upto intervalContainsSpec)

/-- 'queuelablaw06.IntervalLeast', WHERE WHAT IT READS IS OF BULK AT MOST 1048576: true; the input reads as it did. -/
def intervalLeastUptoRow : OpenClaim := { program := "ytojbaamhnfinpaa", sum := "4d0fb6eed88d68c2009d260443275c741aba3dde252b4268895e3a6cf1137662", func := "queuelab/queuelablaw06.IntervalLeast", spec := "intervalLeast", unfollowed := true, recurses := true, apart := false, narrowed := true }
def IntervalLeastUptoSaid : Prop := intervalLeastUptoRow.holds Try.pinned (OpenSpec.upto intervalLeastSpec)

/-- 'queuelablaw06.IntervalNarrower', WHERE WHAT IT READS IS OF BULK AT MOST 1048576: true; the input reads as it did. -/
def intervalNarrowerUptoRow : OpenClaim := { program := "ytojbaamhnfinpaa", sum := "4d0fb6eed88d68c2009d260443275c741aba3dde252b4268895e3a6cf1137662", func := "queuelab/queuelablaw06.IntervalNarrower", spec := "intervalNarrower", unfollowed := true, recurses := true, apart := false, narrowed := true }
def IntervalNarrowerUptoSaid : Prop := intervalNarrowerUptoRow.holds Try.pinned (OpenSpec.upto intervalNarrowerSpec)

/-- 'queuelablaw06.IntervalSigns', WHERE WHAT IT READS IS OF BULK AT MOST 1048576: true; the input reads as it did. -/
def intervalSignsUptoRow : OpenClaim := { program := "ytojbaamhnfinpaa", sum := "4d0fb6eed88d68c2009d260443275c741aba3dde252b4268895e3a6cf1137662", func := "queuelab/queuelablaw06.IntervalSigns", spec := "intervalSigns", unfollowed := true, recurses := true, apart := false, narrowed := true }
def IntervalSignsUptoSaid : Prop := intervalSignsUptoRow.holds Try.pinned (OpenSpec.upto intervalSignsSpec)

/-- 'queuelablaw06.IntervalExchanged', WHERE WHAT IT READS IS OF BULK AT MOST 1048576: true; the input reads as it did. -/
def intervalExchangedUptoRow : OpenClaim := { program := "ytojbaamhnfinpaa", sum := "4d0fb6eed88d68c2009d260443275c741aba3dde252b4268895e3a6cf1137662", func := "queuelab/queuelablaw06.IntervalExchanged", spec := "intervalExchanged", unfollowed := true, recurses := true, apart := false, narrowed := true }
def IntervalExchangedUptoSaid : Prop := intervalExchangedUptoRow.holds Try.pinned (OpenSpec.upto intervalExchangedSpec)

/-- 'queuelablaw06.IntervalErrors', WHERE WHAT IT READS IS OF BULK AT MOST 1048576: true; the input reads as it did. -/
def intervalErrorsUptoRow : OpenClaim := { program := "ytojbaamhnfinpaa", sum := "4d0fb6eed88d68c2009d260443275c741aba3dde252b4268895e3a6cf1137662", func := "queuelab/queuelablaw06.IntervalErrors", spec := "intervalErrors", unfollowed := true, recurses := true, apart := false, narrowed := true }
def IntervalErrorsUptoSaid : Prop := intervalErrorsUptoRow.holds Try.pinned (OpenSpec.upto intervalErrorsSpec)

end Rows
end Go.Proofs.Ytojbaamhnfinpaa
