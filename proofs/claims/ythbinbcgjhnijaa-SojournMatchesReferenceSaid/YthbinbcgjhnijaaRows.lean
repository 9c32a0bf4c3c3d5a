/-
  No cell of these rows narrows 'for every input' (looked for: loops, veiled, ifaces, maps, wideKeys, modest, calm, conditions, laid).
  DERIVED. THE GIVEN ROWS OF THIS SEAT. 7 by the template 'for every input the law returns true; each argument reads behind the call as it read before'; 0 by the template 'total and deterministic' (their statements: YthbinbcgjhnijaaTotals.lean).
  GIVEN WITH THE SEED: the statements are not yours to turn. If you find one false, say at which input.
  Laid BY PROGRAM, IN A SANDBOX (cutbox-rows.mjs): the forced cells as the released guide's own fill.sh prints them over the translation 1cdb5a4b99c2bb45… (all of the seat's roots in one cut). By AI agents, Wed Nov 11 2026. No macro, syntax, notation, axiom, sorry.
-/
import Derived.Test.YthbinbcgjhnijaaChecked
import GoSem.Claim
import GoSem.ClaimJoined
import GoSem.ClaimMapViews
import Derived.JoinedTies
import Derived.KernelRfl
namespace Go.Proofs.Ythbinbcgjhnijaa
/- THE CELL 'sum', in the pinned program and in every row, IS THE sha256 OF THE DUMP (.gsa) THAT YthbinbcgjhnijaaProg.lean LOADS. Nothing in Lean hashes anything: it is a label: what it is worth is what the hold of that sum in a sandbox is worth. -/
noncomputable def Try.pinned : Pinned := { name := "ythbinbcgjhnijaa", sum := "1cdb5a4b99c2bb457136e23a6f5e8051a1d10ba79e76b76a1c23ef43929da0f8", checked := Try.checked }
namespace Rows
def none {H : Type} : Left H := { results := [], args := [] }

/-- 'queuelablaw20.SojournMatchesReference': WHATEVER THE INPUT: true; the input reads as it did. -/
def sojournMatchesReferenceSpec : ChangeSpec := { name := "sojournMatchesReference", fn := fun _ => fun
  | [d1, d2, d3] => { results := [.lit (.bool true)], args := [d1, d2, d3] }
  | _ => none }
def sojournMatchesReferenceRow : OpenClaim := { program := "ythbinbcgjhnijaa", sum := "1cdb5a4b99c2bb457136e23a6f5e8051a1d10ba79e76b76a1c23ef43929da0f8", func := "queuelab/queuelablaw20.SojournMatchesReference", spec := "sojournMatchesReference", unfollowed := true, recurses := true, apart := false }
def SojournMatchesReferenceSaid : Prop := sojournMatchesReferenceRow.holds Try.pinned (OpenSpec.ofChange sojournMatchesReferenceSpec)

/-- ITS FALSE NEIGHBOUR: 'it returns false'. Refute it at one input. -/
def sojournMatchesReferenceWrong : ChangeSpec := { name := "sojournMatchesReference", fn := fun _ => fun
  | [d1, d2, d3] => { results := [.lit (.bool false)], args := [d1, d2, d3] }
  | _ => none }
def SojournMatchesReferenceWrongFalsely : Prop := sojournMatchesReferenceRow.holds Try.pinned (OpenSpec.ofChange sojournMatchesReferenceWrong)

/-- 'queuelablaw20.SojournConserves': WHATEVER THE INPUT: true; the input reads as it did. -/
def sojournConservesSpec : ChangeSpec := { name := "sojournConserves", fn := fun _ => fun
  | [d1, d2, d3, d4] => { results := [.lit (.bool true)], args := [d1, d2, d3, d4] }
  | _ => none }
def sojournConservesRow : OpenClaim := { program := "ythbinbcgjhnijaa", sum := "1cdb5a4b99c2bb457136e23a6f5e8051a1d10ba79e76b76a1c23ef43929da0f8", func := "queuelab/queuelablaw20.SojournConserves", spec := "sojournConserves", unfollowed := true, recurses := true, apart := false }
def SojournConservesSaid : Prop := sojournConservesRow.holds Try.pinned (OpenSpec.ofChange sojournConservesSpec)

/-- ITS FALSE NEIGHBOUR: 'it returns false'. Refute it at one input. -/
def sojournConservesWrong : ChangeSpec := { name := "sojournConserves", fn := fun _ => fun
  | [d1, d2, d3, d4] => { results := [.lit (.bool false)], args := [d1, d2, d3, d4] }
  | _ => none }
def SojournConservesWrongFalsely : Prop := sojournConservesRow.holds Try.pinned (OpenSpec.ofChange sojournConservesWrong)

/-- 'queuelablaw20.SojournShort': WHATEVER THE INPUT: true; the input reads as it did. -/
def sojournShortSpec : ChangeSpec := { name := "sojournShort", fn := fun _ => fun
  | [d1, d2] => { results := [.lit (.bool true)], args := [d1, d2] }
  | _ => none }
def sojournShortRow : OpenClaim := { program := "ythbinbcgjhnijaa", sum := "1cdb5a4b99c2bb457136e23a6f5e8051a1d10ba79e76b76a1c23ef43929da0f8", func := "queuelab/queuelablaw20.SojournShort", spec := "sojournShort", unfollowed := true, recurses := true, apart := false }
def SojournShortSaid : Prop := sojournShortRow.holds Try.pinned (OpenSpec.ofChange sojournShortSpec)

/-- ITS FALSE NEIGHBOUR: 'it returns false'. Refute it at one input. -/
def sojournShortWrong : ChangeSpec := { name := "sojournShort", fn := fun _ => fun
  | [d1, d2] => { results := [.lit (.bool false)], args := [d1, d2] }
  | _ => none }
def SojournShortWrongFalsely : Prop := sojournShortRow.holds Try.pinned (OpenSpec.ofChange sojournShortWrong)

/-- 'queuelablaw20.SojournPatience': WHATEVER THE INPUT: true; the input reads as it did. -/
def sojournPatienceSpec : ChangeSpec := { name := "sojournPatience", fn := fun _ => fun
  | [d1, d2, d3, d4] => { results := [.lit (.bool true)], args := [d1, d2, d3, d4] }
  | _ => none }
def sojournPatienceRow : OpenClaim := { program := "ythbinbcgjhnijaa", sum := "1cdb5a4b99c2bb457136e23a6f5e8051a1d10ba79e76b76a1c23ef43929da0f8", func := "queuelab/queuelablaw20.SojournPatience", spec := "sojournPatience", unfollowed := true, recurses := true, apart := false }
def SojournPatienceSaid : Prop := sojournPatienceRow.holds Try.pinned (OpenSpec.ofChange sojournPatienceSpec)

/-- ITS FALSE NEIGHBOUR: 'it returns false'. Refute it at one input. -/
def sojournPatienceWrong : ChangeSpec := { name := "sojournPatience", fn := fun _ => fun
  | [d1, d2, d3, d4] => { results := [.lit (.bool false)], args := [d1, d2, d3, d4] }
  | _ => none }
def SojournPatienceWrongFalsely : Prop := sojournPatienceRow.holds Try.pinned (OpenSpec.ofChange sojournPatienceWrong)

/-- 'queuelablaw20.SojournMarks': WHATEVER THE INPUT: true; the input reads as it did. -/
def sojournMarksSpec : ChangeSpec := { name := "sojournMarks", fn := fun _ => fun
  | [d1, d2, d3, d4] => { results := [.lit (.bool true)], args := [d1, d2, d3, d4] }
  | _ => none }
def sojournMarksRow : OpenClaim := { program := "ythbinbcgjhnijaa", sum := "1cdb5a4b99c2bb457136e23a6f5e8051a1d10ba79e76b76a1c23ef43929da0f8", func := "queuelab/queuelablaw20.SojournMarks", spec := "sojournMarks", unfollowed := true, recurses := true, apart := false }
def SojournMarksSaid : Prop := sojournMarksRow.holds Try.pinned (OpenSpec.ofChange sojournMarksSpec)

/-- ITS FALSE NEIGHBOUR: 'it returns false'. Refute it at one input. -/
def sojournMarksWrong : ChangeSpec := { name := "sojournMarks", fn := fun _ => fun
  | [d1, d2, d3, d4] => { results := [.lit (.bool false)], args := [d1, d2, d3, d4] }
  | _ => none }
def SojournMarksWrongFalsely : Prop := sojournMarksRow.holds Try.pinned (OpenSpec.ofChange sojournMarksWrong)

/-- 'queuelablaw20.SojournPressure': WHATEVER THE INPUT: true; the input reads as it did. -/
def sojournPressureSpec : ChangeSpec := { name := "sojournPressure", fn := fun _ => fun
  | [d1, d2] => { results := [.lit (.bool true)], args := [d1, d2] }
  | _ => none }
def sojournPressureRow : OpenClaim := { program := "ythbinbcgjhnijaa", sum := "1cdb5a4b99c2bb457136e23a6f5e8051a1d10ba79e76b76a1c23ef43929da0f8", func := "queuelab/queuelablaw20.SojournPressure", spec := "sojournPressure", unfollowed := true, recurses := true, apart := false }
def SojournPressureSaid : Prop := sojournPressureRow.holds Try.pinned (OpenSpec.ofChange sojournPressureSpec)

/-- ITS FALSE NEIGHBOUR: 'it returns false'. Refute it at one input. -/
def sojournPressureWrong : ChangeSpec := { name := "sojournPressure", fn := fun _ => fun
  | [d1, d2] => { results := [.lit (.bool false)], args := [d1, d2] }
  | _ => none }
def SojournPressureWrongFalsely : Prop := sojournPressureRow.holds Try.pinned (OpenSpec.ofChange sojournPressureWrong)

/-- 'queuelablaw20.SojournRoom': WHATEVER THE INPUT: true; the input reads as it did. -/
def sojournRoomSpec : ChangeSpec := { name := "sojournRoom", fn := fun _ => fun
  | [d1, d2, d3] => { results := [.lit (.bool true)], args := [d1, d2, d3] }
  | _ => none }
def sojournRoomRow : OpenClaim := { program := "ythbinbcgjhnijaa", sum := "1cdb5a4b99c2bb457136e23a6f5e8051a1d10ba79e76b76a1c23ef43929da0f8", func := "queuelab/queuelablaw20.SojournRoom", spec := "sojournRoom", unfollowed := true, recurses := true, apart := false }
def SojournRoomSaid : Prop := sojournRoomRow.holds Try.pinned (OpenSpec.ofChange sojournRoomSpec)

/-- ITS FALSE NEIGHBOUR: 'it returns false'. Refute it at one input. -/
def sojournRoomWrong : ChangeSpec := { name := "sojournRoom", fn := fun _ => fun
  | [d1, d2, d3] => { results := [.lit (.bool false)], args := [d1, d2, d3] }
  | _ => none }
def SojournRoomWrongFalsely : Prop := sojournRoomRow.holds Try.pinned (OpenSpec.ofChange sojournRoomWrong)

/- THE SECOND FORM. 'bulk': how many values and letters a reading holds, each counted each time it is reached (what is shared counts as often as it is met; a slice's spare places count too). A statement '..UptoSaid' is the law's where the arguments, and the package variables that the reading takes, are together of bulk at most 1048576: NARROWER than '..Said'. Prove '..Said' where nothing that the law and all that it calls make is longer than what came in: it says more and counts as full. Else prove '..UptoSaid'. A law counts once. -/
mutual
def uptoBulk {H : Type} : DataW H → Nat
  | .lit (.string bytes) => bytes.length + 1
  | .lit _ => 1
  | .nil => 1
  | .ptr d => uptoBulk d + 1
  | .slice elems spare => uptoBulkAll elems + uptoBulkAll spare + 1
  | .agg parts => uptoBulkAll parts + 1
  | .iface _ d => uptoBulk d + 1
  | .map entries => uptoBulkEntries entries + 1
  | .held _ => 1
def uptoBulkAll {H : Type} : List (DataW H) → Nat
  | [] => 0
  | d :: r => uptoBulk d + uptoBulkAll r
def uptoBulkEntries {H : Type} : List (Lit × DataW H) → Nat
  | [] => 0
  | x :: r => uptoBulkEntry x + uptoBulkEntries r
def uptoBulkEntry {H : Type} : Lit × DataW H → Nat
  | (.string bytes, d) => bytes.length + uptoBulk d + 1
  | (_, d) => uptoBulk d + 1
 end
def uptoSmall : (H : Type) → List (DataW H) → Bool := fun _ ds => decide (uptoBulkAll ds ≤ 1048576)
def OpenSpec.upto (s : _root_.Go.ChangeSpec) : _root_.Go.OpenSpec := { _root_.Go.OpenSpec.ofChange s with cond := some uptoSmall }

/-- 'queuelablaw20.SojournMatchesReference', WHERE WHAT IT READS IS OF BULK AT MOST 1048576: true; the input reads as it did. -/
def sojournMatchesReferenceUptoRow : OpenClaim := { program := "ythbinbcgjhnijaa", sum := "1cdb5a4b99c2bb457136e23a6f5e8051a1d10ba79e76b76a1c23ef43929da0f8", func := "queuelab/queuelablaw20.SojournMatchesReference", spec := "sojournMatchesReference", unfollowed := true, recurses := true, apart := false, narrowed := true }
def SojournMatchesReferenceUptoSaid : Prop := sojournMatchesReferenceUptoRow.holds Try.pinned (OpenSpec.upto sojournMatchesReferenceSpec)

/-- 'queuelablaw20.SojournConserves', WHERE WHAT IT READS IS OF BULK AT MOST 1048576: true; the input reads as it did. -/
def sojournConservesUptoRow : OpenClaim := { program := "ythbinbcgjhnijaa", sum := "1cdb5a4b99c2bb457136e23a6f5e8051a1d10ba79e76b76a1c23ef43929da0f8", func := "queuelab/queuelablaw20.SojournConserves", spec := "sojournConserves", unfollowed := true, recurses := true, apart := false, narrowed := true }
def SojournConservesUptoSaid : Prop := sojournConservesUptoRow.holds Try.pinned (OpenSpec.upto sojournConservesSpec)

/-- 'queuelablaw20.SojournShort', WHERE WHAT IT READS IS OF BULK AT MOST 1048576: true; the input reads as it did. -/
def sojournShortUptoRow : OpenClaim := { program := "ythbinbcgjhnijaa", sum := "1cdb5a4b99c2bb457136e23a6f5e8051a1d10ba79e76b76a1c23ef43929da0f8", func := "queuelab/queuelablaw20.SojournShort", spec := "sojournShort", unfollowed := true, recurses := true, apart := false, narrowed := true }
def SojournShortUptoSaid : Prop := sojournShortUptoRow.holds Try.pinned (OpenSpec.upto sojournShortSpec)

/-- 'queuelablaw20.SojournPatience', WHERE WHAT IT READS IS OF BULK AT MOST 1048576: true; the input reads as it did. -/
def sojournPatienceUptoRow : OpenClaim := { program := "ythbinbcgjhnijaa", sum := "1cdb5a4b99c2bb457136e23a6f5e8051a1d10ba79e76b76a1c23ef43929da0f8", func := "queuelab/queuelablaw20.SojournPatience", spec := "sojournPatience", unfollowed := true, recurses := true, apart := false, narrowed := true }
def SojournPatienceUptoSaid : Prop := sojournPatienceUptoRow.holds Try.pinned (OpenSpec.upto sojournPatienceSpec)

/-- 'queuelablaw20.SojournMarks', WHERE WHAT IT READS IS OF BULK AT MOST 1048576: true; the input reads as it did. -/
def sojournMarksUptoRow : OpenClaim := { program := "ythbinbcgjhnijaa", sum := "1cdb5a4b99c2bb457136e23a6f5e8051a1d10ba79e76b76a1c23ef43929da0f8", func := "queuelab/queuelablaw20.SojournMarks", spec := "sojournMarks", unfollowed := true, recurses := true, apart := false, narrowed := true }
def SojournMarksUptoSaid : Prop := sojournMarksUptoRow.holds Try.pinned (OpenSpec.upto sojournMarksSpec)

/-- 'queuelablaw20.SojournPressure', WHERE WHAT IT READS IS OF BULK AT MOST 1048576: true; the input reads as it did. -/
def sojournPressureUptoRow : OpenClaim := { program := "ythbinbcgjhnijaa", sum := "1cdb5a4b99c2bb457136e23a6f5e8051a1d10ba79e76b76a1c23ef43929da0f8", func := "queuelab/queuelablaw20.SojournPressure", spec := "sojournPressure", unfollowed := true, recurses := true, apart := false, narrowed := true }
def SojournPressureUptoSaid : Prop := sojournPressureUptoRow.holds Try.pinned (OpenSpec.upto sojournPressureSpec)

/-- 'queuelablaw20.SojournRoom', WHERE WHAT IT READS IS OF BULK AT MOST 1048576: true; the input reads as it did. -/
def sojournRoomUptoRow : OpenClaim := { program := "ythbinbcgjhnijaa", sum := "1cdb5a4b99c2bb457136e23a6f5e8051a1d10ba79e76b76a1c23ef43929da0f8", func := "queuelab/queuelablaw20.SojournRoom", spec := "sojournRoom", unfollowed := true, recurses := true, apart := false, narrowed := true }
def SojournRoomUptoSaid : Prop := sojournRoomUptoRow.holds Try.pinned (OpenSpec.upto sojournRoomSpec)

end Rows
end Go.Proofs.Ythbinbcgjhnijaa
