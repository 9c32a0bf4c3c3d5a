/-
  No cell of these rows narrows 'for every input' (looked for: loops, veiled, ifaces, maps, wideKeys, modest, calm, conditions, laid).
  DERIVED. THE GIVEN ROWS OF THIS SEAT. 8 by the template 'for every input the law returns true; each argument reads behind the call as it read before'; 0 by the template 'total and deterministic' (their statements: YtgmebdomopdgmaaTotals.lean).
  GIVEN WITH THE SEED: the statements are not yours to turn. If you find one false, say at which input.
  Laid BY PROGRAM, IN A SANDBOX (cutbox-rows.mjs): the forced cells as the released guide's own fill.sh prints them over the translation 106e5c306eef815e… (all of the seat's roots in one cut). By AI agents, Wed Nov 11 2026. No macro, syntax, notation, axiom, sorry.
-/
import Derived.Test.YtgmebdomopdgmaaChecked
import GoSem.Claim
import GoSem.ClaimJoined
import GoSem.ClaimMapViews
import Derived.JoinedTies
import Derived.KernelRfl
namespace Go.Proofs.Ytgmebdomopdgmaa
/- THE CELL 'sum', in the pinned program and in every row, IS THE sha256 OF THE DUMP (.gsa) THAT YtgmebdomopdgmaaProg.lean LOADS. Nothing in Lean hashes anything: it is a label: what it is worth is what the hold of that sum in a sandbox is worth. -/
noncomputable def Try.pinned : Pinned := { name := "ytgmebdomopdgmaa", sum := "106e5c306eef815edef48c19a2e99edaab794aa92163a3760ac3910b179204b4", checked := Try.checked }
namespace Rows
def none {H : Type} : Left H := { results := [], args := [] }

/-- 'queuelablaw15.FairMatchesReference': WHATEVER THE INPUT: true; the input reads as it did. -/
def fairMatchesReferenceSpec : ChangeSpec := { name := "fairMatchesReference", fn := fun _ => fun
  | [d1, d2] => { results := [.lit (.bool true)], args := [d1, d2] }
  | _ => none }
def fairMatchesReferenceRow : OpenClaim := { program := "ytgmebdomopdgmaa", sum := "106e5c306eef815edef48c19a2e99edaab794aa92163a3760ac3910b179204b4", func := "queuelab/queuelablaw15.FairMatchesReference", spec := "fairMatchesReference", unfollowed := true, recurses := true, apart := false }
def FairMatchesReferenceSaid : Prop := fairMatchesReferenceRow.holds Try.pinned (OpenSpec.ofChange fairMatchesReferenceSpec)

/-- ITS FALSE NEIGHBOUR: 'it returns false'. Refute it at one input. -/
def fairMatchesReferenceWrong : ChangeSpec := { name := "fairMatchesReference", fn := fun _ => fun
  | [d1, d2] => { results := [.lit (.bool false)], args := [d1, d2] }
  | _ => none }
def FairMatchesReferenceWrongFalsely : Prop := fairMatchesReferenceRow.holds Try.pinned (OpenSpec.ofChange fairMatchesReferenceWrong)

/-- 'queuelablaw15.FairBound': WHATEVER THE INPUT: true; the input reads as it did. -/
def fairBoundSpec : ChangeSpec := { name := "fairBound", fn := fun _ => fun
  | [d1, d2, d3] => { results := [.lit (.bool true)], args := [d1, d2, d3] }
  | _ => none }
def fairBoundRow : OpenClaim := { program := "ytgmebdomopdgmaa", sum := "106e5c306eef815edef48c19a2e99edaab794aa92163a3760ac3910b179204b4", func := "queuelab/queuelablaw15.FairBound", spec := "fairBound", unfollowed := true, recurses := true, apart := false }
def FairBoundSaid : Prop := fairBoundRow.holds Try.pinned (OpenSpec.ofChange fairBoundSpec)

/-- ITS FALSE NEIGHBOUR: 'it returns false'. Refute it at one input. -/
def fairBoundWrong : ChangeSpec := { name := "fairBound", fn := fun _ => fun
  | [d1, d2, d3] => { results := [.lit (.bool false)], args := [d1, d2, d3] }
  | _ => none }
def FairBoundWrongFalsely : Prop := fairBoundRow.holds Try.pinned (OpenSpec.ofChange fairBoundWrong)

/-- 'queuelablaw15.FairRounds': WHATEVER THE INPUT: true; the input reads as it did. -/
def fairRoundsSpec : ChangeSpec := { name := "fairRounds", fn := fun _ => fun
  | [d1, d2, d3] => { results := [.lit (.bool true)], args := [d1, d2, d3] }
  | _ => none }
def fairRoundsRow : OpenClaim := { program := "ytgmebdomopdgmaa", sum := "106e5c306eef815edef48c19a2e99edaab794aa92163a3760ac3910b179204b4", func := "queuelab/queuelablaw15.FairRounds", spec := "fairRounds", unfollowed := true, recurses := true, apart := false }
def FairRoundsSaid : Prop := fairRoundsRow.holds Try.pinned (OpenSpec.ofChange fairRoundsSpec)

/-- ITS FALSE NEIGHBOUR: 'it returns false'. Refute it at one input. -/
def fairRoundsWrong : ChangeSpec := { name := "fairRounds", fn := fun _ => fun
  | [d1, d2, d3] => { results := [.lit (.bool false)], args := [d1, d2, d3] }
  | _ => none }
def FairRoundsWrongFalsely : Prop := fairRoundsRow.holds Try.pinned (OpenSpec.ofChange fairRoundsWrong)

/-- 'queuelablaw15.FairOneLink': WHATEVER THE INPUT: true; the input reads as it did. -/
def fairOneLinkSpec : ChangeSpec := { name := "fairOneLink", fn := fun _ => fun
  | [d1, d2, d3] => { results := [.lit (.bool true)], args := [d1, d2, d3] }
  | _ => none }
def fairOneLinkRow : OpenClaim := { program := "ytgmebdomopdgmaa", sum := "106e5c306eef815edef48c19a2e99edaab794aa92163a3760ac3910b179204b4", func := "queuelab/queuelablaw15.FairOneLink", spec := "fairOneLink", unfollowed := true, recurses := true, apart := false }
def FairOneLinkSaid : Prop := fairOneLinkRow.holds Try.pinned (OpenSpec.ofChange fairOneLinkSpec)

/-- ITS FALSE NEIGHBOUR: 'it returns false'. Refute it at one input. -/
def fairOneLinkWrong : ChangeSpec := { name := "fairOneLink", fn := fun _ => fun
  | [d1, d2, d3] => { results := [.lit (.bool false)], args := [d1, d2, d3] }
  | _ => none }
def FairOneLinkWrongFalsely : Prop := fairOneLinkRow.holds Try.pinned (OpenSpec.ofChange fairOneLinkWrong)

/-- 'queuelablaw15.FairEqual': WHATEVER THE INPUT: true; the input reads as it did. -/
def fairEqualSpec : ChangeSpec := { name := "fairEqual", fn := fun _ => fun
  | [d1, d2] => { results := [.lit (.bool true)], args := [d1, d2] }
  | _ => none }
def fairEqualRow : OpenClaim := { program := "ytgmebdomopdgmaa", sum := "106e5c306eef815edef48c19a2e99edaab794aa92163a3760ac3910b179204b4", func := "queuelab/queuelablaw15.FairEqual", spec := "fairEqual", unfollowed := true, recurses := true, apart := false }
def FairEqualSaid : Prop := fairEqualRow.holds Try.pinned (OpenSpec.ofChange fairEqualSpec)

/-- ITS FALSE NEIGHBOUR: 'it returns false'. Refute it at one input. -/
def fairEqualWrong : ChangeSpec := { name := "fairEqual", fn := fun _ => fun
  | [d1, d2] => { results := [.lit (.bool false)], args := [d1, d2] }
  | _ => none }
def FairEqualWrongFalsely : Prop := fairEqualRow.holds Try.pinned (OpenSpec.ofChange fairEqualWrong)

/-- 'queuelablaw15.FairOrder': WHATEVER THE INPUT: true; the input reads as it did. -/
def fairOrderSpec : ChangeSpec := { name := "fairOrder", fn := fun _ => fun
  | [d1, d2, d3] => { results := [.lit (.bool true)], args := [d1, d2, d3] }
  | _ => none }
def fairOrderRow : OpenClaim := { program := "ytgmebdomopdgmaa", sum := "106e5c306eef815edef48c19a2e99edaab794aa92163a3760ac3910b179204b4", func := "queuelab/queuelablaw15.FairOrder", spec := "fairOrder", unfollowed := true, recurses := true, apart := false }
def FairOrderSaid : Prop := fairOrderRow.holds Try.pinned (OpenSpec.ofChange fairOrderSpec)

/-- ITS FALSE NEIGHBOUR: 'it returns false'. Refute it at one input. -/
def fairOrderWrong : ChangeSpec := { name := "fairOrder", fn := fun _ => fun
  | [d1, d2, d3] => { results := [.lit (.bool false)], args := [d1, d2, d3] }
  | _ => none }
def FairOrderWrongFalsely : Prop := fairOrderRow.holds Try.pinned (OpenSpec.ofChange fairOrderWrong)

/-- 'queuelablaw15.FairUnused': WHATEVER THE INPUT: true; the input reads as it did. -/
def fairUnusedSpec : ChangeSpec := { name := "fairUnused", fn := fun _ => fun
  | [d1, d2, d3] => { results := [.lit (.bool true)], args := [d1, d2, d3] }
  | _ => none }
def fairUnusedRow : OpenClaim := { program := "ytgmebdomopdgmaa", sum := "106e5c306eef815edef48c19a2e99edaab794aa92163a3760ac3910b179204b4", func := "queuelab/queuelablaw15.FairUnused", spec := "fairUnused", unfollowed := true, recurses := true, apart := false }
def FairUnusedSaid : Prop := fairUnusedRow.holds Try.pinned (OpenSpec.ofChange fairUnusedSpec)

/-- ITS FALSE NEIGHBOUR: 'it returns false'. Refute it at one input. -/
def fairUnusedWrong : ChangeSpec := { name := "fairUnused", fn := fun _ => fun
  | [d1, d2, d3] => { results := [.lit (.bool false)], args := [d1, d2, d3] }
  | _ => none }
def FairUnusedWrongFalsely : Prop := fairUnusedRow.holds Try.pinned (OpenSpec.ofChange fairUnusedWrong)

/-- 'queuelablaw15.FairRight': WHATEVER THE INPUT: true; the input reads as it did. -/
def fairRightSpec : ChangeSpec := { name := "fairRight", fn := fun _ => fun
  | [d1, d2] => { results := [.lit (.bool true)], args := [d1, d2] }
  | _ => none }
def fairRightRow : OpenClaim := { program := "ytgmebdomopdgmaa", sum := "106e5c306eef815edef48c19a2e99edaab794aa92163a3760ac3910b179204b4", func := "queuelab/queuelablaw15.FairRight", spec := "fairRight", unfollowed := true, recurses := true, apart := false }
def FairRightSaid : Prop := fairRightRow.holds Try.pinned (OpenSpec.ofChange fairRightSpec)

/-- ITS FALSE NEIGHBOUR: 'it returns false'. Refute it at one input. -/
def fairRightWrong : ChangeSpec := { name := "fairRight", fn := fun _ => fun
  | [d1, d2] => { results := [.lit (.bool false)], args := [d1, d2] }
  | _ => none }
def FairRightWrongFalsely : Prop := fairRightRow.holds Try.pinned (OpenSpec.ofChange fairRightWrong)

/- THE SECOND FORM. 'bulk': how many values and letters a reading holds, each counted each time it is reached (what is shared counts as often as it is met; a slice's spare places count too). A statement '..UptoSaid' is the law's where the arguments, and the package variables that the reading takes, are together of bulk at most 1048576: NARROWER than '..Said'. Prove '..Said' where nothing that the law and all that it calls make is longer than what came in: it says more and counts as full. Else prove '..UptoSaid'. A law counts once. -/
mutual
def uptoBulk {H : Type} : DataW H → Nat
  | .lit (.string bytes) => bytes.length + 1
  | .lit _ => 1
  | .nil => 1
  | .ptr d => uptoBulk d + 1
  | .slice elems spare => uptoBulkAll elems + uptoBulkAll spare + 1
  | .agg parts => uptoBulkAll parts + 1
  | .iface _ d => uptoBulk d + 1
  | .map entries => uptoBulkEntries entries + 1
  | .held _ => 1
def uptoBulkAll {H : Type} : List (DataW H) → Nat
  | [] => 0
  | d :: r => uptoBulk d + uptoBulkAll r
def uptoBulkEntries {H : Type} : List (Lit × DataW H) → Nat
  | [] => 0
  | x :: r => uptoBulkEntry x + uptoBulkEntries r
def uptoBulkEntry {H : Type} : Lit × DataW H → Nat
  | (.string bytes, d) => bytes.length + uptoBulk d + 1
  | (_, d) => uptoBulk d + 1
 end
def uptoSmall : (H : Type) → List (DataW H) → Bool := fun _ ds => decide (uptoBulkAll ds ≤ 1048576)
def OpenSpec.upto (s : _root_.Go.ChangeSpec) : _root_.Go.OpenSpec := { _root_.Go.OpenSpec.ofChange s with cond := some uptoSmall }

/-- 'queuelablaw15.FairMatchesReference', WHERE WHAT IT READS IS OF BULK AT MOST 1048576: true; the input reads as it did. -/
def fairMatchesReferenceUptoRow : OpenClaim := { program := "ytgmebdomopdgmaa", sum := "106e5c306eef815edef48c19a2e99edaab794aa92163a3760ac3910b179204b4", func := "queuelab/queuelablaw15.FairMatchesReference", spec := "fairMatchesReference", unfollowed := true, recurses := true, apart := false, narrowed := true }
def FairMatchesReferenceUptoSaid : Prop := fairMatchesReferenceUptoRow.holds Try.pinned (OpenSpec.upto fairMatchesReferenceSpec)

/-- 'queuelablaw15.FairBound', WHERE WHAT IT READS IS OF BULK AT MOST 1048576: true; the input reads as it did. -/
def fairBoundUptoRow : OpenClaim := { program := "ytgmebdomopdgmaa", sum := "106e5c306eef815edef48c19a2e99edaab794aa92163a3760ac3910b179204b4", func := "queuelab/queuelablaw15.FairBound", spec := "fairBound", unfollowed := true, recurses := true, apart := false, narrowed := true }
def FairBoundUptoSaid : Prop := fairBoundUptoRow.holds Try.pinned (OpenSpec.upto fairBoundSpec)

/-- 'queuelablaw15.FairRounds', WHERE WHAT IT READS IS OF BULK AT MOST 1048576: true; the input reads as it did. -/
def fairRoundsUptoRow : OpenClaim := { program := "ytgmebdomopdgmaa", sum := "106e5c306eef815edef48c19a2e99edaab794aa92163a3760ac3910b179204b4", func := "queuelab/queuelablaw15.FairRounds", spec := "fairRounds", unfollowed := true, recurses := true, apart := false, narrowed := true }
def FairRoundsUptoSaid : Prop := fairRoundsUptoRow.holds Try.pinned (OpenSpec.upto fairRoundsSpec)

/-- 'queuelablaw15.FairOneLink', WHERE WHAT IT READS IS OF BULK AT MOST 1048576: true; the input reads as it did. -/
def fairOneLinkUptoRow : OpenClaim := { program := "ytgmebdomopdgmaa", sum := "106e5c306eef815edef48c19a2e99edaab794aa92163a3760ac3910b179204b4", func := "queuelab/queuelablaw15.FairOneLink", spec := "fairOneLink", unfollowed := true, recurses := true, apart := false, narrowed := true }
def FairOneLinkUptoSaid : Prop := fairOneLinkUptoRow.holds Try.pinned (OpenSpec.upto fairOneLinkSpec)

/-- 'queuelablaw15.FairEqual', WHERE WHAT IT READS IS OF BULK AT MOST 1048576: true; the input reads as it did. -/
def fairEqualUptoRow : OpenClaim := { program := "ytgmebdomopdgmaa", sum := "106e5c306eef815edef48c19a2e99edaab794aa92163a3760ac3910b179204b4", func := "queuelab/queuelablaw15.FairEqual", spec := "fairEqual", unfollowed := true, recurses := true, apart := false, narrowed := true }
def FairEqualUptoSaid : Prop := fairEqualUptoRow.holds Try.pinned (OpenSpec.upto fairEqualSpec)

/-- 'queuelablaw15.FairOrder', WHERE WHAT IT READS IS OF BULK AT MOST 1048576: true; the input reads as it did. -/
def fairOrderUptoRow : OpenClaim := { program := "ytgmebdomopdgmaa", sum := "106e5c306eef815edef48c19a2e99edaab794aa92163a3760ac3910b179204b4", func := "queuelab/queuelablaw15.FairOrder", spec := "fairOrder", unfollowed := true, recurses := true, apart := false, narrowed := true }
def FairOrderUptoSaid : Prop := fairOrderUptoRow.holds Try.pinned (OpenSpec.upto fairOrderSpec)

/-- 'queuelablaw15.FairUnused', WHERE WHAT IT READS IS OF BULK AT MOST 1048576: true; the input reads as it did. -/
def fairUnusedUptoRow : OpenClaim := { program := "ytgmebdomopdgmaa", sum := "106e5c306eef815edef48c19a2e99edaab794aa92163a3760ac3910b179204b4", func := "queuelab/queuelablaw15.FairUnused", spec := "fairUnused", unfollowed := true, recurses := true, apart := false, narrowed := true }
def FairUnusedUptoSaid : Prop := fairUnusedUptoRow.holds Try.pinned (OpenSpec.upto fairUnusedSpec)

/-- 'queuelablaw15.FairRight', WHERE WHAT IT READS IS OF BULK AT MOST 1048576: true; the input reads as it did. -/
def fairRightUptoRow : OpenClaim := { program := "ytgmebdomopdgmaa", sum := "106e5c306eef815edef48c19a2e99edaab794aa92163a3760ac3910b179204b4", func := "queuelab/queuelablaw15.FairRight", spec := "fairRight", unfollowed := true, recurses := true, apart := false, narrowed := true }
def FairRightUptoSaid : Prop := fairRightUptoRow.holds Try.pinned (OpenSpec.upto fairRightSpec)

end Rows
end Go.Proofs.Ytgmebdomopdgmaa
