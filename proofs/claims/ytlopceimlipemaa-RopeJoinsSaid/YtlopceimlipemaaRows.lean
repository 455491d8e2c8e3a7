/-
  No cell of these rows narrows 'for every input' (looked for: loops, veiled, ifaces, maps, wideKeys, modest, calm, conditions, laid).
  DERIVED. THE GIVEN ROWS OF THIS SEAT. 7 by the template 'for every input the law returns true; each argument reads behind the call as it read before'; 0 by the template 'total and deterministic' (their statements: YtlopceimlipemaaTotals.lean).
  GIVEN WITH THE SEED: the statements are not yours to turn. If you find one false, say at which input.
  Laid BY PROGRAM, IN A SANDBOX (cutbox-rows.mjs): the forced cells as the released guide's own fill.sh prints them over the translation aa7f9eb1025c5f36… (all of the seat's roots in one cut). By AI agents, Wed Nov 11 2026. No macro, syntax, notation, axiom, sorry.
-/
import Derived.Test.YtlopceimlipemaaChecked
import GoSem.Claim
import GoSem.ClaimJoined
import GoSem.ClaimMapViews
import Derived.JoinedTies
import Derived.KernelRfl
namespace Go.Proofs.Ytlopceimlipemaa
/- THE CELL 'sum', in the pinned program and in every row, IS THE sha256 OF THE DUMP (.gsa) THAT YtlopceimlipemaaProg.lean LOADS. Nothing in Lean hashes anything: it is a label: what it is worth is what the hold of that sum in a sandbox is worth. -/
noncomputable def Try.pinned : Pinned := { name := "ytlopceimlipemaa", sum := "aa7f9eb1025c5f3657f553f66c763a7983427a6119d1bf42dd9d170b9cffb28c", checked := Try.checked }
namespace Rows
def none {H : Type} : Left H := { results := [], args := [] }

/-- 'chiasmuslaw15.RopeEnds': WHATEVER THE INPUT: true; the input reads as it did. -/
def ropeEndsSpec : ChangeSpec := { name := "ropeEnds", fn := fun _ => fun
  | [d1, d2] => { results := [.lit (.bool true)], args := [d1, d2] }
  | _ => none }
def ropeEndsRow : OpenClaim := { program := "ytlopceimlipemaa", sum := "aa7f9eb1025c5f3657f553f66c763a7983427a6119d1bf42dd9d170b9cffb28c", func := "chiasmus/chiasmuslaw15.RopeEnds", spec := "ropeEnds", unfollowed := true, recurses := true, apart := false }
def RopeEndsSaid : Prop := ropeEndsRow.holds Try.pinned (OpenSpec.ofChange ropeEndsSpec)

/-- ITS FALSE NEIGHBOUR: 'it returns false'. Refute it at one input. -/
def ropeEndsWrong : ChangeSpec := { name := "ropeEnds", fn := fun _ => fun
  | [d1, d2] => { results := [.lit (.bool false)], args := [d1, d2] }
  | _ => none }
def RopeEndsWrongFalsely : Prop := ropeEndsRow.holds Try.pinned (OpenSpec.ofChange ropeEndsWrong)

/-- 'chiasmuslaw15.RopeParts': WHATEVER THE INPUT: true; the input reads as it did. -/
def ropePartsSpec : ChangeSpec := { name := "ropeParts", fn := fun _ => fun
  | [d1, d2, d3, d4] => { results := [.lit (.bool true)], args := [d1, d2, d3, d4] }
  | _ => none }
def ropePartsRow : OpenClaim := { program := "ytlopceimlipemaa", sum := "aa7f9eb1025c5f3657f553f66c763a7983427a6119d1bf42dd9d170b9cffb28c", func := "chiasmus/chiasmuslaw15.RopeParts", spec := "ropeParts", unfollowed := true, recurses := true, apart := false }
def RopePartsSaid : Prop := ropePartsRow.holds Try.pinned (OpenSpec.ofChange ropePartsSpec)

/-- ITS FALSE NEIGHBOUR: 'it returns false'. Refute it at one input. -/
def ropePartsWrong : ChangeSpec := { name := "ropeParts", fn := fun _ => fun
  | [d1, d2, d3, d4] => { results := [.lit (.bool false)], args := [d1, d2, d3, d4] }
  | _ => none }
def RopePartsWrongFalsely : Prop := ropePartsRow.holds Try.pinned (OpenSpec.ofChange ropePartsWrong)

/-- 'chiasmuslaw15.RopeJoins': WHATEVER THE INPUT: true; the input reads as it did. -/
def ropeJoinsSpec : ChangeSpec := { name := "ropeJoins", fn := fun _ => fun
  | [d1, d2, d3, d4, d5, d6] => { results := [.lit (.bool true)], args := [d1, d2, d3, d4, d5, d6] }
  | _ => none }
def ropeJoinsRow : OpenClaim := { program := "ytlopceimlipemaa", sum := "aa7f9eb1025c5f3657f553f66c763a7983427a6119d1bf42dd9d170b9cffb28c", func := "chiasmus/chiasmuslaw15.RopeJoins", spec := "ropeJoins", unfollowed := true, recurses := true, apart := false }
def RopeJoinsSaid : Prop := ropeJoinsRow.holds Try.pinned (OpenSpec.ofChange ropeJoinsSpec)

/-- ITS FALSE NEIGHBOUR: 'it returns false'. Refute it at one input. -/
def ropeJoinsWrong : ChangeSpec := { name := "ropeJoins", fn := fun _ => fun
  | [d1, d2, d3, d4, d5, d6] => { results := [.lit (.bool false)], args := [d1, d2, d3, d4, d5, d6] }
  | _ => none }
def RopeJoinsWrongFalsely : Prop := ropeJoinsRow.holds Try.pinned (OpenSpec.ofChange ropeJoinsWrong)

/-- 'chiasmuslaw15.RopeShares': WHATEVER THE INPUT: true; the input reads as it did. -/
def ropeSharesSpec : ChangeSpec := { name := "ropeShares", fn := fun _ => fun
  | [d1, d2, d3] => { results := [.lit (.bool true)], args := [d1, d2, d3] }
  | _ => none }
def ropeSharesRow : OpenClaim := { program := "ytlopceimlipemaa", sum := "aa7f9eb1025c5f3657f553f66c763a7983427a6119d1bf42dd9d170b9cffb28c", func := "chiasmus/chiasmuslaw15.RopeShares", spec := "ropeShares", unfollowed := true, recurses := true, apart := false }
def RopeSharesSaid : Prop := ropeSharesRow.holds Try.pinned (OpenSpec.ofChange ropeSharesSpec)

/-- ITS FALSE NEIGHBOUR: 'it returns false'. Refute it at one input. -/
def ropeSharesWrong : ChangeSpec := { name := "ropeShares", fn := fun _ => fun
  | [d1, d2, d3] => { results := [.lit (.bool false)], args := [d1, d2, d3] }
  | _ => none }
def RopeSharesWrongFalsely : Prop := ropeSharesRow.holds Try.pinned (OpenSpec.ofChange ropeSharesWrong)

/-- 'chiasmuslaw15.RopeDepth': WHATEVER THE INPUT: true; the input reads as it did. -/
def ropeDepthSpec : ChangeSpec := { name := "ropeDepth", fn := fun _ => fun
  | [d1, d2] => { results := [.lit (.bool true)], args := [d1, d2] }
  | _ => none }
def ropeDepthRow : OpenClaim := { program := "ytlopceimlipemaa", sum := "aa7f9eb1025c5f3657f553f66c763a7983427a6119d1bf42dd9d170b9cffb28c", func := "chiasmus/chiasmuslaw15.RopeDepth", spec := "ropeDepth", unfollowed := true, recurses := true, apart := false }
def RopeDepthSaid : Prop := ropeDepthRow.holds Try.pinned (OpenSpec.ofChange ropeDepthSpec)

/-- ITS FALSE NEIGHBOUR: 'it returns false'. Refute it at one input. -/
def ropeDepthWrong : ChangeSpec := { name := "ropeDepth", fn := fun _ => fun
  | [d1, d2] => { results := [.lit (.bool false)], args := [d1, d2] }
  | _ => none }
def RopeDepthWrongFalsely : Prop := ropeDepthRow.holds Try.pinned (OpenSpec.ofChange ropeDepthWrong)

/-- 'chiasmuslaw15.RopeSteps': WHATEVER THE INPUT: true; the input reads as it did. -/
def ropeStepsSpec : ChangeSpec := { name := "ropeSteps", fn := fun _ => fun
  | [d1, d2] => { results := [.lit (.bool true)], args := [d1, d2] }
  | _ => none }
def ropeStepsRow : OpenClaim := { program := "ytlopceimlipemaa", sum := "aa7f9eb1025c5f3657f553f66c763a7983427a6119d1bf42dd9d170b9cffb28c", func := "chiasmus/chiasmuslaw15.RopeSteps", spec := "ropeSteps", unfollowed := true, recurses := true, apart := false }
def RopeStepsSaid : Prop := ropeStepsRow.holds Try.pinned (OpenSpec.ofChange ropeStepsSpec)

/-- ITS FALSE NEIGHBOUR: 'it returns false'. Refute it at one input. -/
def ropeStepsWrong : ChangeSpec := { name := "ropeSteps", fn := fun _ => fun
  | [d1, d2] => { results := [.lit (.bool false)], args := [d1, d2] }
  | _ => none }
def RopeStepsWrongFalsely : Prop := ropeStepsRow.holds Try.pinned (OpenSpec.ofChange ropeStepsWrong)

/-- 'chiasmuslaw15.RopeEquals': WHATEVER THE INPUT: true; the input reads as it did. -/
def ropeEqualsSpec : ChangeSpec := { name := "ropeEquals", fn := fun _ => fun
  | [d1, d2] => { results := [.lit (.bool true)], args := [d1, d2] }
  | _ => none }
def ropeEqualsRow : OpenClaim := { program := "ytlopceimlipemaa", sum := "aa7f9eb1025c5f3657f553f66c763a7983427a6119d1bf42dd9d170b9cffb28c", func := "chiasmus/chiasmuslaw15.RopeEquals", spec := "ropeEquals", unfollowed := true, recurses := true, apart := false }
def RopeEqualsSaid : Prop := ropeEqualsRow.holds Try.pinned (OpenSpec.ofChange ropeEqualsSpec)

/-- ITS FALSE NEIGHBOUR: 'it returns false'. Refute it at one input. -/
def ropeEqualsWrong : ChangeSpec := { name := "ropeEquals", fn := fun _ => fun
  | [d1, d2] => { results := [.lit (.bool false)], args := [d1, d2] }
  | _ => none }
def RopeEqualsWrongFalsely : Prop := ropeEqualsRow.holds Try.pinned (OpenSpec.ofChange ropeEqualsWrong)

/- THE SECOND FORM. 'bulk': how many values and letters a reading holds, each counted each time it is reached (what is shared counts as often as it is met; a slice's spare places count too). A statement '..UptoSaid' is the law's where the arguments, and the package variables that the reading takes, are together of bulk at most 1048576: NARROWER than '..Said'. Prove '..Said' where nothing that the law and all that it calls make is longer than what came in: it says more and counts as full. Else prove '..UptoSaid'. A law counts once. -/
mutual
def uptoBulk {H : Type} : DataW H → Nat
  | .lit (.string bytes) => bytes.length + 1
  | .lit _ => 1
  | .nil => 1
  | .ptr d => uptoBulk d + 1
  | .slice elems spare => uptoBulkAll elems + uptoBulkAll spare + 1
  | .agg parts => uptoBulkAll parts + 1
  | .iface _ d => uptoBulk d + 1
  | .map entries => uptoBulkEntries entries + 1
  | .held _ => 1
def uptoBulkAll {H : Type} : List (DataW H) → Nat
  | [] => 0
  | d :: r => uptoBulk d + uptoBulkAll r
def uptoBulkEntries {H : Type} : List (Lit × DataW H) → Nat
  | [] => 0
  | x :: r => uptoBulkEntry x + uptoBulkEntries r
def uptoBulkEntry {H : Type} : Lit × DataW H → Nat
  | (.string bytes, d) => bytes.length + uptoBulk d + 1
  | (_, d) => uptoBulk d + 1
 end
def uptoSmall : (H : Type) → List (DataW H) → Bool := fun _ ds => decide (uptoBulkAll ds ≤ 1048576)
def OpenSpec.upto (s : _root_.Go.ChangeSpec) : _root_.Go.OpenSpec := { _root_.Go.OpenSpec.ofChange s with cond := some uptoSmall }

/-- 'chiasmuslaw15.RopeEnds', WHERE WHAT IT READS IS OF BULK AT MOST 1048576: true; the input reads as it did. -/
def ropeEndsUptoRow : OpenClaim := { program := "ytlopceimlipemaa", sum := "aa7f9eb1025c5f3657f553f66c763a7983427a6119d1bf42dd9d170b9cffb28c", func := "chiasmus/chiasmuslaw15.RopeEnds", spec := "ropeEnds", unfollowed := true, recurses := true, apart := false, narrowed := true }
def RopeEndsUptoSaid : Prop := ropeEndsUptoRow.holds Try.pinned (OpenSpec.upto ropeEndsSpec)

/-- 'chiasmuslaw15.RopeParts', WHERE WHAT IT READS IS OF BULK AT MOST 1048576: true; the input reads as it did. -/
def ropePartsUptoRow : OpenClaim := { program := "ytlopceimlipemaa", sum := "aa7f9eb1025c5f3657f553f66c763a7983427a6119d1bf42dd9d170b9cffb28c", func := "chiasmus/chiasmuslaw15.RopeParts", spec := "ropeParts", unfollowed := true, recurses := true, apart := false, narrowed := true }
def RopePartsUptoSaid : Prop := ropePartsUptoRow.holds Try.pinned (OpenSpec.upto ropePartsSpec)

/-- 'chiasmuslaw15.RopeJoins', WHERE WHAT IT READS IS OF BULK AT MOST 1048576: true; the input reads as it did. -/
def ropeJoinsUptoRow : OpenClaim := { program := "ytlopceimlipemaa", sum := "aa7f9eb1025c5f3657f553f66c763a7983427a6119d1bf42dd9d170b9cffb28c", func := "chiasmus/chiasmuslaw15.RopeJoins", spec := "ropeJoins", unfollowed := true, recurses := true, apart := false, narrowed := true }
def RopeJoinsUptoSaid : Prop := ropeJoinsUptoRow.holds Try.pinned (OpenSpec.upto ropeJoinsSpec)

/-- 'chiasmuslaw15.RopeShares', WHERE WHAT IT READS IS OF BULK AT MOST 1048576: true; the input reads as it did. -/
def ropeSharesUptoRow : OpenClaim := { program := "ytlopceimlipemaa", sum := "aa7f9eb1025c5f3657f553f66c763a7983427a6119d1bf42dd9d170b9cffb28c", func := "chiasmus/chiasmuslaw15.RopeShares", spec := "ropeShares", unfollowed := true, recurses := true, apart := false, narrowed := true }
def RopeSharesUptoSaid : Prop := ropeSharesUptoRow.holds Try.pinned (OpenSpec.upto ropeSharesSpec)

/-- 'chiasmuslaw15.RopeDepth', WHERE WHAT IT READS IS OF BULK AT MOST 1048576: true; the input reads as it did. -/
def ropeDepthUptoRow : OpenClaim := { program := "ytlopceimlipemaa", sum := "aa7f9eb1025c5f3657f553f66c763a7983427a6119d1bf42dd9d170b9cffb28c", func := "chiasmus/chiasmuslaw15.RopeDepth", spec := "ropeDepth", unfollowed := true, recurses := true, apart := false, narrowed := true }
def RopeDepthUptoSaid : Prop := ropeDepthUptoRow.holds Try.pinned (OpenSpec.upto ropeDepthSpec)

/-- 'chiasmuslaw15.RopeSteps', WHERE WHAT IT READS IS OF BULK AT MOST 1048576: true; the input reads as it did. -/
def ropeStepsUptoRow : OpenClaim := { program := "ytlopceimlipemaa", sum := "aa7f9eb1025c5f3657f553f66c763a7983427a6119d1bf42dd9d170b9cffb28c", func := "chiasmus/chiasmuslaw15.RopeSteps", spec := "ropeSteps", unfollowed := true, recurses := true, apart := false, narrowed := true }
def RopeStepsUptoSaid : Prop := ropeStepsUptoRow.holds Try.pinned (OpenSpec.upto ropeStepsSpec)

/-- 'chiasmuslaw15.RopeEquals', WHERE WHAT IT READS IS OF BULK AT MOST 1048576: true; the input reads as it did. -/
def ropeEqualsUptoRow : OpenClaim := { program := "ytlopceimlipemaa", sum := "aa7f9eb1025c5f3657f553f66c763a7983427a6119d1bf42dd9d170b9cffb28c", func := "chiasmus/chiasmuslaw15.RopeEquals", spec := "ropeEquals", unfollowed := true, recurses := true, apart := false, narrowed := true }
def RopeEqualsUptoSaid : Prop := ropeEqualsUptoRow.holds Try.pinned (OpenSpec.upto ropeEqualsSpec)

end Rows
end Go.Proofs.Ytlopceimlipemaa
