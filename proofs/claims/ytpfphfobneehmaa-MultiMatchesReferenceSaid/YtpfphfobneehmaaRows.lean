/-
  No cell of these rows narrows 'for every input' (looked for: loops, veiled, ifaces, maps, wideKeys, modest, calm, conditions, laid).
  DERIVED. THE GIVEN ROWS OF THIS SEAT. 7 by the template 'for every input the law returns true; each argument reads behind the call as it read before'; 0 by the template 'total and deterministic' (their statements: YtpfphfobneehmaaTotals.lean).
  GIVEN WITH THE SEED: the statements are not yours to turn. If you find one false, say at which input.
  Laid BY PROGRAM, IN A SANDBOX (cutbox-rows.mjs): the forced cells as the released guide's own fill.sh prints them over the translation 866fdcf7d8e0e9c3… (all of the seat's roots in one cut). By AI agents, Wed Nov 11 2026. No macro, syntax, notation, axiom, sorry.
-/
import Derived.Test.YtpfphfobneehmaaChecked
import GoSem.Claim
import GoSem.ClaimJoined
import GoSem.ClaimMapViews
import Derived.JoinedTies
import Derived.KernelRfl
namespace Go.Proofs.Ytpfphfobneehmaa
/- THE CELL 'sum', in the pinned program and in every row, IS THE sha256 OF THE DUMP (.gsa) THAT YtpfphfobneehmaaProg.lean LOADS. Nothing in Lean hashes anything: it is a label: what it is worth is what the hold of that sum in a sandbox is worth. -/
noncomputable def Try.pinned : Pinned := { name := "ytpfphfobneehmaa", sum := "866fdcf7d8e0e9c37004940d2a5075c5ffb7464bc1ac2c60b11791315da113db", checked := Try.checked }
namespace Rows
def none {H : Type} : Left H := { results := [], args := [] }

/-- 'queuelablaw16.MultiMatchesReference': WHATEVER THE INPUT: true; the input reads as it did. -/
def multiMatchesReferenceSpec : ChangeSpec := { name := "multiMatchesReference", fn := fun _ => fun
  | [d1, d2, d3, d4] => { results := [.lit (.bool true)], args := [d1, d2, d3, d4] }
  | _ => none }
def multiMatchesReferenceRow : OpenClaim := { program := "ytpfphfobneehmaa", sum := "866fdcf7d8e0e9c37004940d2a5075c5ffb7464bc1ac2c60b11791315da113db", func := "queuelab/queuelablaw16.MultiMatchesReference", spec := "multiMatchesReference", unfollowed := true, recurses := true, named := ["math/bits.divideError", "math/bits.overflowError"], apart := false }
def MultiMatchesReferenceSaid : Prop := multiMatchesReferenceRow.holds Try.pinned (OpenSpec.ofChange multiMatchesReferenceSpec)

/-- ITS FALSE NEIGHBOUR: 'it returns false'. Refute it at one input. -/
def multiMatchesReferenceWrong : ChangeSpec := { name := "multiMatchesReference", fn := fun _ => fun
  | [d1, d2, d3, d4] => { results := [.lit (.bool false)], args := [d1, d2, d3, d4] }
  | _ => none }
def MultiMatchesReferenceWrongFalsely : Prop := multiMatchesReferenceRow.holds Try.pinned (OpenSpec.ofChange multiMatchesReferenceWrong)

/-- 'queuelablaw16.MultiRounds': WHATEVER THE INPUT: true; the input reads as it did. -/
def multiRoundsSpec : ChangeSpec := { name := "multiRounds", fn := fun _ => fun
  | [d1, d2, d3] => { results := [.lit (.bool true)], args := [d1, d2, d3] }
  | _ => none }
def multiRoundsRow : OpenClaim := { program := "ytpfphfobneehmaa", sum := "866fdcf7d8e0e9c37004940d2a5075c5ffb7464bc1ac2c60b11791315da113db", func := "queuelab/queuelablaw16.MultiRounds", spec := "multiRounds", unfollowed := true, recurses := true, named := ["math/bits.divideError", "math/bits.overflowError"], apart := false }
def MultiRoundsSaid : Prop := multiRoundsRow.holds Try.pinned (OpenSpec.ofChange multiRoundsSpec)

/-- ITS FALSE NEIGHBOUR: 'it returns false'. Refute it at one input. -/
def multiRoundsWrong : ChangeSpec := { name := "multiRounds", fn := fun _ => fun
  | [d1, d2, d3] => { results := [.lit (.bool false)], args := [d1, d2, d3] }
  | _ => none }
def MultiRoundsWrongFalsely : Prop := multiRoundsRow.holds Try.pinned (OpenSpec.ofChange multiRoundsWrong)

/-- 'queuelablaw16.MultiFair': WHATEVER THE INPUT: true; the input reads as it did. -/
def multiFairSpec : ChangeSpec := { name := "multiFair", fn := fun _ => fun
  | [d1, d2, d3] => { results := [.lit (.bool true)], args := [d1, d2, d3] }
  | _ => none }
def multiFairRow : OpenClaim := { program := "ytpfphfobneehmaa", sum := "866fdcf7d8e0e9c37004940d2a5075c5ffb7464bc1ac2c60b11791315da113db", func := "queuelab/queuelablaw16.MultiFair", spec := "multiFair", unfollowed := true, recurses := true, named := ["math/bits.divideError", "math/bits.overflowError"], apart := false }
def MultiFairSaid : Prop := multiFairRow.holds Try.pinned (OpenSpec.ofChange multiFairSpec)

/-- ITS FALSE NEIGHBOUR: 'it returns false'. Refute it at one input. -/
def multiFairWrong : ChangeSpec := { name := "multiFair", fn := fun _ => fun
  | [d1, d2, d3] => { results := [.lit (.bool false)], args := [d1, d2, d3] }
  | _ => none }
def MultiFairWrongFalsely : Prop := multiFairRow.holds Try.pinned (OpenSpec.ofChange multiFairWrong)

/-- 'queuelablaw16.MultiOneLink': WHATEVER THE INPUT: true; the input reads as it did. -/
def multiOneLinkSpec : ChangeSpec := { name := "multiOneLink", fn := fun _ => fun
  | [d1, d2, d3] => { results := [.lit (.bool true)], args := [d1, d2, d3] }
  | _ => none }
def multiOneLinkRow : OpenClaim := { program := "ytpfphfobneehmaa", sum := "866fdcf7d8e0e9c37004940d2a5075c5ffb7464bc1ac2c60b11791315da113db", func := "queuelab/queuelablaw16.MultiOneLink", spec := "multiOneLink", unfollowed := true, recurses := true, named := ["math/bits.divideError", "math/bits.overflowError"], apart := false }
def MultiOneLinkSaid : Prop := multiOneLinkRow.holds Try.pinned (OpenSpec.ofChange multiOneLinkSpec)

/-- ITS FALSE NEIGHBOUR: 'it returns false'. Refute it at one input. -/
def multiOneLinkWrong : ChangeSpec := { name := "multiOneLink", fn := fun _ => fun
  | [d1, d2, d3] => { results := [.lit (.bool false)], args := [d1, d2, d3] }
  | _ => none }
def MultiOneLinkWrongFalsely : Prop := multiOneLinkRow.holds Try.pinned (OpenSpec.ofChange multiOneLinkWrong)

/-- 'queuelablaw16.MultiCheapest': WHATEVER THE INPUT: true; the input reads as it did. -/
def multiCheapestSpec : ChangeSpec := { name := "multiCheapest", fn := fun _ => fun
  | [d1, d2, d3] => { results := [.lit (.bool true)], args := [d1, d2, d3] }
  | _ => none }
def multiCheapestRow : OpenClaim := { program := "ytpfphfobneehmaa", sum := "866fdcf7d8e0e9c37004940d2a5075c5ffb7464bc1ac2c60b11791315da113db", func := "queuelab/queuelablaw16.MultiCheapest", spec := "multiCheapest", unfollowed := true, recurses := true, named := ["math/bits.divideError", "math/bits.overflowError"], apart := false }
def MultiCheapestSaid : Prop := multiCheapestRow.holds Try.pinned (OpenSpec.ofChange multiCheapestSpec)

/-- ITS FALSE NEIGHBOUR: 'it returns false'. Refute it at one input. -/
def multiCheapestWrong : ChangeSpec := { name := "multiCheapest", fn := fun _ => fun
  | [d1, d2, d3] => { results := [.lit (.bool false)], args := [d1, d2, d3] }
  | _ => none }
def MultiCheapestWrongFalsely : Prop := multiCheapestRow.holds Try.pinned (OpenSpec.ofChange multiCheapestWrong)

/-- 'queuelablaw16.MultiErrors': WHATEVER THE INPUT: true; the input reads as it did. -/
def multiErrorsSpec : ChangeSpec := { name := "multiErrors", fn := fun _ => fun
  | [d1, d2] => { results := [.lit (.bool true)], args := [d1, d2] }
  | _ => none }
def multiErrorsRow : OpenClaim := { program := "ytpfphfobneehmaa", sum := "866fdcf7d8e0e9c37004940d2a5075c5ffb7464bc1ac2c60b11791315da113db", func := "queuelab/queuelablaw16.MultiErrors", spec := "multiErrors", unfollowed := true, recurses := true, named := ["math/bits.divideError", "math/bits.overflowError"], apart := false }
def MultiErrorsSaid : Prop := multiErrorsRow.holds Try.pinned (OpenSpec.ofChange multiErrorsSpec)

/-- ITS FALSE NEIGHBOUR: 'it returns false'. Refute it at one input. -/
def multiErrorsWrong : ChangeSpec := { name := "multiErrors", fn := fun _ => fun
  | [d1, d2] => { results := [.lit (.bool false)], args := [d1, d2] }
  | _ => none }
def MultiErrorsWrongFalsely : Prop := multiErrorsRow.holds Try.pinned (OpenSpec.ofChange multiErrorsWrong)

/-- 'queuelablaw16.MultiProof': WHATEVER THE INPUT: true; the input reads as it did. -/
def multiProofSpec : ChangeSpec := { name := "multiProof", fn := fun _ => fun
  | [d1, d2] => { results := [.lit (.bool true)], args := [d1, d2] }
  | _ => none }
def multiProofRow : OpenClaim := { program := "ytpfphfobneehmaa", sum := "866fdcf7d8e0e9c37004940d2a5075c5ffb7464bc1ac2c60b11791315da113db", func := "queuelab/queuelablaw16.MultiProof", spec := "multiProof", unfollowed := true, recurses := true, named := ["math/bits.divideError", "math/bits.overflowError"], apart := false }
def MultiProofSaid : Prop := multiProofRow.holds Try.pinned (OpenSpec.ofChange multiProofSpec)

/-- ITS FALSE NEIGHBOUR: 'it returns false'. Refute it at one input. -/
def multiProofWrong : ChangeSpec := { name := "multiProof", fn := fun _ => fun
  | [d1, d2] => { results := [.lit (.bool false)], args := [d1, d2] }
  | _ => none }
def MultiProofWrongFalsely : Prop := multiProofRow.holds Try.pinned (OpenSpec.ofChange multiProofWrong)

/- THE SECOND FORM. 'bulk': how many values and letters a reading holds, each counted each time it is reached (what is shared counts as often as it is met; a slice's spare places count too). A statement '..UptoSaid' is the law's where the arguments, and the package variables that the reading takes, are together of bulk at most 1048576: NARROWER than '..Said'. Prove '..Said' where nothing that the law and all that it calls make is longer than what came in: it says more and counts as full. Else prove '..UptoSaid'. A law counts once. -/
mutual
def uptoBulk {H : Type} : DataW H → Nat
  | .lit (.string bytes) => bytes.length + 1
  | .lit _ => 1
  | .nil => 1
  | .ptr d => uptoBulk d + 1
  | .slice elems spare => uptoBulkAll elems + uptoBulkAll spare + 1
  | .agg parts => uptoBulkAll parts + 1
  | .iface _ d => uptoBulk d + 1
  | .map entries => uptoBulkEntries entries + 1
  | .held _ => 1
def uptoBulkAll {H : Type} : List (DataW H) → Nat
  | [] => 0
  | d :: r => uptoBulk d + uptoBulkAll r
def uptoBulkEntries {H : Type} : List (Lit × DataW H) → Nat
  | [] => 0
  | x :: r => uptoBulkEntry x + uptoBulkEntries r
def uptoBulkEntry {H : Type} : Lit × DataW H → Nat
  | (.string bytes, d) => bytes.length + uptoBulk d + 1
  | (_, d) => uptoBulk d + 1
 end
def uptoSmall : (H : Type) → List (DataW H) → Bool := fun _ ds => decide (uptoBulkAll ds ≤ 1048576)
def OpenSpec.upto (s : _root_.Go.ChangeSpec) : _root_.Go.OpenSpec := { _root_.Go.OpenSpec.ofChange s with cond := some uptoSmall }

/-- 'queuelablaw16.MultiMatchesReference', WHERE WHAT IT READS IS OF BULK AT MOST 1048576: true; the input reads as it did. -/
def multiMatchesReferenceUptoRow : OpenClaim := { program := "ytpfphfobneehmaa", sum := "866fdcf7d8e0e9c37004940d2a5075c5ffb7464bc1ac2c60b11791315da113db", func := "queuelab/queuelablaw16.MultiMatchesReference", spec := "multiMatchesReference", unfollowed := true, recurses := true, named := ["math/bits.divideError", "math/bits.overflowError"], apart := false, narrowed := true }
def MultiMatchesReferenceUptoSaid : Prop := multiMatchesReferenceUptoRow.holds Try.pinned (OpenSpec.upto multiMatchesReferenceSpec)

/-- 'queuelablaw16.MultiRounds', WHERE WHAT IT READS IS OF BULK AT MOST 1048576: true; the input reads as it did. -/
def multiRoundsUptoRow : OpenClaim := { program := "ytpfphfobneehmaa", sum := "866fdcf7d8e0e9c37004940d2a5075c5ffb7464bc1ac2c60b11791315da113db", func := "queuelab/queuelablaw16.MultiRounds", spec := "multiRounds", unfollowed := true, recurses := true, named := ["math/bits.divideError", "math/bits.overflowError"], apart := false, narrowed := true }
def MultiRoundsUptoSaid : Prop := multiRoundsUptoRow.holds Try.pinned (OpenSpec.upto multiRoundsSpec)

/-- 'queuelablaw16.MultiFair', WHERE WHAT IT READS IS OF BULK AT MOST 1048576: true; the input reads as it did. -/
def multiFairUptoRow : OpenClaim := { program := "ytpfphfobneehmaa", sum := "866fdcf7d8e0e9c37004940d2a5075c5ffb7464bc1ac2c60b11791315da113db", func := "queuelab/queuelablaw16.MultiFair", spec := "multiFair", unfollowed := true, recurses := true, named := ["math/bits.divideError", "math/bits.overflowError"], apart := false, narrowed := true }
def MultiFairUptoSaid : Prop := multiFairUptoRow.holds Try.pinned (OpenSpec.upto multiFairSpec)

/-- 'queuelablaw16.MultiOneLink', WHERE WHAT IT READS IS OF BULK AT MOST 1048576: true; the input reads as it did. -/
def multiOneLinkUptoRow : OpenClaim := { program := "ytpfphfobneehmaa", sum := "866fdcf7d8e0e9c37004940d2a5075c5ffb7464bc1ac2c60b11791315da113db", func := "queuelab/queuelablaw16.MultiOneLink", spec := "multiOneLink", unfollowed := true, recurses := true, named := ["math/bits.divideError", "math/bits.overflowError"], apart := false, narrowed := true }
def MultiOneLinkUptoSaid : Prop := multiOneLinkUptoRow.holds Try.pinned (OpenSpec.upto multiOneLinkSpec)

/-- 'queuelablaw16.MultiCheapest', WHERE WHAT IT READS IS OF BULK AT MOST 1048576: true; the input reads as it did. -/
def multiCheapestUptoRow : OpenClaim := { program := "ytpfphfobneehmaa", sum := "866fdcf7d8e0e9c37004940d2a5075c5ffb7464bc1ac2c60b11791315da113db", func := "queuelab/queuelablaw16.MultiCheapest", spec := "multiCheapest", unfollowed := true, recurses := true, named := ["math/bits.divideError", "math/bits.overflowError"], apart := false, narrowed := true }
def MultiCheapestUptoSaid : Prop := multiCheapestUptoRow.holds Try.pinned (OpenSpec.upto multiCheapestSpec)

/-- 'queuelablaw16.MultiErrors', WHERE WHAT IT READS IS OF BULK AT MOST 1048576: true; the input reads as it did. -/
def multiErrorsUptoRow : OpenClaim := { program := "ytpfphfobneehmaa", sum := "866fdcf7d8e0e9c37004940d2a5075c5ffb7464bc1ac2c60b11791315da113db", func := "queuelab/queuelablaw16.MultiErrors", spec := "multiErrors", unfollowed := true, recurses := true, named := ["math/bits.divideError", "math/bits.overflowError"], apart := false, narrowed := true }
def MultiErrorsUptoSaid : Prop := multiErrorsUptoRow.holds Try.pinned (OpenSpec.upto multiErrorsSpec)

/-- 'queuelablaw16.MultiProof', WHERE WHAT IT READS IS OF BULK AT MOST 1048576: true; the input reads as it did. -/
def multiProofUptoRow : OpenClaim := { program := "ytpfphfobneehmaa", sum := "866fdcf7d8e0e9c37004940d2a5075c5ffb7464bc1ac2c60b11791315da113db", func := "queuelab/queuelablaw16.MultiProof", spec := "multiProof", unfollowed := true, recurses := true, named := ["math/bits.divideError", "math/bits.overflowError"], apart := false, narrowed := true }
def MultiProofUptoSaid : Prop := multiProofUptoRow.holds Try.pinned (OpenSpec.upto multiProofSpec)

end Rows
end Go.Proofs.Ytpfphfobneehmaa
