/-
  NARROWER THAN 'FOR EVERY INPUT', by the rows' own cells (each row's printed sentence says how): TermTexts: loops · TermErrors: loops · TermBack: loops · TermOrders: loops · TermPlaces: loops · TermOrdered: loops · TermParts: loops.
  DERIVED. THE GIVEN ROWS OF THIS SEAT. 7 by the template 'for every input the law returns true; each argument reads behind the call as it read before'; 0 by the template 'total and deterministic' (their statements: YtdbjjaodkapikaaTotals.lean).
  GIVEN WITH THE SEED: the statements are not yours to turn. If you find one false, say at which input.
  Laid BY PROGRAM, IN A SANDBOX (cutbox-rows.mjs): the forced cells as the released guide's own fill.sh prints them over the translation a71c4a405f418989… (all of the seat's roots in one cut). By AI agents, Wed Nov 11 2026. No macro, syntax, notation, axiom, sorry.
-/
import Derived.Test.YtdbjjaodkapikaaChecked
import GoSem.Claim
import GoSem.ClaimJoined
import GoSem.ClaimMapViews
import Derived.JoinedTies
import Derived.KernelRfl
namespace Go.Proofs.Ytdbjjaodkapikaa
/- THE CELL 'sum', in the pinned program and in every row, IS THE sha256 OF THE DUMP (.gsa) THAT YtdbjjaodkapikaaProg.lean LOADS. Nothing in Lean hashes anything: it is a label: what it is worth is what the hold of that sum in a sandbox is worth. -/
noncomputable def Try.pinned : Pinned := { name := "ytdbjjaodkapikaa", sum := "a71c4a405f41898961b3c0aaff00648498bd2581988ddd3fd984186c5de92d35", checked := Try.checked }
namespace Rows
def none {H : Type} : Left H := { results := [], args := [] }

/-- 'chiasmuslaw01.TermTexts': WHATEVER THE INPUT: true; the input reads as it did. -/
def termTextsSpec : ChangeSpec := { name := "termTexts", fn := fun _ => fun
  | [d1, d2] => { results := [.lit (.bool true)], args := [d1, d2] }
  | _ => none }
def termTextsRow : OpenClaim := { program := "ytdbjjaodkapikaa", sum := "a71c4a405f41898961b3c0aaff00648498bd2581988ddd3fd984186c5de92d35", func := "chiasmus/chiasmuslaw01.TermTexts", spec := "termTexts", inPlace := ["internal/bytealg.IndexByteString", "internal/abi.NoEscape"], unfollowed := true, recurses := true, loops := true, apart := false }
def TermTextsSaid : Prop := termTextsRow.holds Try.pinned (OpenSpec.ofChange termTextsSpec)

/-- ITS FALSE NEIGHBOUR: 'it returns false'. Refute it at one input. -/
def termTextsWrong : ChangeSpec := { name := "termTexts", fn := fun _ => fun
  | [d1, d2] => { results := [.lit (.bool false)], args := [d1, d2] }
  | _ => none }
def TermTextsWrongFalsely : Prop := termTextsRow.holds Try.pinned (OpenSpec.ofChange termTextsWrong)

/-- 'chiasmuslaw01.TermErrors': WHATEVER THE INPUT: true; the input reads as it did. -/
def termErrorsSpec : ChangeSpec := { name := "termErrors", fn := fun _ => fun
  | [d] => { results := [.lit (.bool true)], args := [d] }
  | _ => none }
def termErrorsRow : OpenClaim := { program := "ytdbjjaodkapikaa", sum := "a71c4a405f41898961b3c0aaff00648498bd2581988ddd3fd984186c5de92d35", func := "chiasmus/chiasmuslaw01.TermErrors", spec := "termErrors", inPlace := ["internal/bytealg.IndexByteString", "internal/abi.NoEscape"], unfollowed := true, recurses := true, loops := true, apart := false }
def TermErrorsSaid : Prop := termErrorsRow.holds Try.pinned (OpenSpec.ofChange termErrorsSpec)

/-- ITS FALSE NEIGHBOUR: 'it returns false'. Refute it at one input. -/
def termErrorsWrong : ChangeSpec := { name := "termErrors", fn := fun _ => fun
  | [d] => { results := [.lit (.bool false)], args := [d] }
  | _ => none }
def TermErrorsWrongFalsely : Prop := termErrorsRow.holds Try.pinned (OpenSpec.ofChange termErrorsWrong)

/-- 'chiasmuslaw01.TermBack': WHATEVER THE INPUT: true; the input reads as it did. -/
def termBackSpec : ChangeSpec := { name := "termBack", fn := fun _ => fun
  | [d1, d2] => { results := [.lit (.bool true)], args := [d1, d2] }
  | _ => none }
def termBackRow : OpenClaim := { program := "ytdbjjaodkapikaa", sum := "a71c4a405f41898961b3c0aaff00648498bd2581988ddd3fd984186c5de92d35", func := "chiasmus/chiasmuslaw01.TermBack", spec := "termBack", inPlace := ["internal/bytealg.IndexByteString", "internal/abi.NoEscape"], unfollowed := true, recurses := true, loops := true, apart := false }
def TermBackSaid : Prop := termBackRow.holds Try.pinned (OpenSpec.ofChange termBackSpec)

/-- ITS FALSE NEIGHBOUR: 'it returns false'. Refute it at one input. -/
def termBackWrong : ChangeSpec := { name := "termBack", fn := fun _ => fun
  | [d1, d2] => { results := [.lit (.bool false)], args := [d1, d2] }
  | _ => none }
def TermBackWrongFalsely : Prop := termBackRow.holds Try.pinned (OpenSpec.ofChange termBackWrong)

/-- 'chiasmuslaw01.TermOrders': WHATEVER THE INPUT: true; the input reads as it did. -/
def termOrdersSpec : ChangeSpec := { name := "termOrders", fn := fun _ => fun
  | [d1, d2] => { results := [.lit (.bool true)], args := [d1, d2] }
  | _ => none }
def termOrdersRow : OpenClaim := { program := "ytdbjjaodkapikaa", sum := "a71c4a405f41898961b3c0aaff00648498bd2581988ddd3fd984186c5de92d35", func := "chiasmus/chiasmuslaw01.TermOrders", spec := "termOrders", inPlace := ["internal/bytealg.IndexByteString", "internal/abi.NoEscape"], unfollowed := true, recurses := true, loops := true, apart := false }
def TermOrdersSaid : Prop := termOrdersRow.holds Try.pinned (OpenSpec.ofChange termOrdersSpec)

/-- ITS FALSE NEIGHBOUR: 'it returns false'. Refute it at one input. -/
def termOrdersWrong : ChangeSpec := { name := "termOrders", fn := fun _ => fun
  | [d1, d2] => { results := [.lit (.bool false)], args := [d1, d2] }
  | _ => none }
def TermOrdersWrongFalsely : Prop := termOrdersRow.holds Try.pinned (OpenSpec.ofChange termOrdersWrong)

/-- 'chiasmuslaw01.TermPlaces': WHATEVER THE INPUT: true; the input reads as it did. -/
def termPlacesSpec : ChangeSpec := { name := "termPlaces", fn := fun _ => fun
  | [d1, d2, d3] => { results := [.lit (.bool true)], args := [d1, d2, d3] }
  | _ => none }
def termPlacesRow : OpenClaim := { program := "ytdbjjaodkapikaa", sum := "a71c4a405f41898961b3c0aaff00648498bd2581988ddd3fd984186c5de92d35", func := "chiasmus/chiasmuslaw01.TermPlaces", spec := "termPlaces", inPlace := ["internal/bytealg.IndexByteString", "internal/abi.NoEscape"], unfollowed := true, recurses := true, loops := true, apart := false }
def TermPlacesSaid : Prop := termPlacesRow.holds Try.pinned (OpenSpec.ofChange termPlacesSpec)

/-- ITS FALSE NEIGHBOUR: 'it returns false'. Refute it at one input. -/
def termPlacesWrong : ChangeSpec := { name := "termPlaces", fn := fun _ => fun
  | [d1, d2, d3] => { results := [.lit (.bool false)], args := [d1, d2, d3] }
  | _ => none }
def TermPlacesWrongFalsely : Prop := termPlacesRow.holds Try.pinned (OpenSpec.ofChange termPlacesWrong)

/-- 'chiasmuslaw01.TermOrdered': WHATEVER THE INPUT: true; the input reads as it did. -/
def termOrderedSpec : ChangeSpec := { name := "termOrdered", fn := fun _ => fun
  | [d1, d2, d3, d4, d5] => { results := [.lit (.bool true)], args := [d1, d2, d3, d4, d5] }
  | _ => none }
def termOrderedRow : OpenClaim := { program := "ytdbjjaodkapikaa", sum := "a71c4a405f41898961b3c0aaff00648498bd2581988ddd3fd984186c5de92d35", func := "chiasmus/chiasmuslaw01.TermOrdered", spec := "termOrdered", inPlace := ["internal/bytealg.IndexByteString", "internal/abi.NoEscape"], unfollowed := true, recurses := true, loops := true, apart := false }
def TermOrderedSaid : Prop := termOrderedRow.holds Try.pinned (OpenSpec.ofChange termOrderedSpec)

/-- ITS FALSE NEIGHBOUR: 'it returns false'. Refute it at one input. -/
def termOrderedWrong : ChangeSpec := { name := "termOrdered", fn := fun _ => fun
  | [d1, d2, d3, d4, d5] => { results := [.lit (.bool false)], args := [d1, d2, d3, d4, d5] }
  | _ => none }
def TermOrderedWrongFalsely : Prop := termOrderedRow.holds Try.pinned (OpenSpec.ofChange termOrderedWrong)

/-- 'chiasmuslaw01.TermParts': WHATEVER THE INPUT: true; the input reads as it did. -/
def termPartsSpec : ChangeSpec := { name := "termParts", fn := fun _ => fun
  | [d1, d2] => { results := [.lit (.bool true)], args := [d1, d2] }
  | _ => none }
def termPartsRow : OpenClaim := { program := "ytdbjjaodkapikaa", sum := "a71c4a405f41898961b3c0aaff00648498bd2581988ddd3fd984186c5de92d35", func := "chiasmus/chiasmuslaw01.TermParts", spec := "termParts", inPlace := ["internal/bytealg.IndexByteString", "internal/abi.NoEscape", "internal/bytealg.IndexString"], unfollowed := true, recurses := true, named := ["internal/bytealg.MaxLen"], loops := true, apart := false }
def TermPartsSaid : Prop := termPartsRow.holds Try.pinned (OpenSpec.ofChange termPartsSpec)

/-- ITS FALSE NEIGHBOUR: 'it returns false'. Refute it at one input. -/
def termPartsWrong : ChangeSpec := { name := "termParts", fn := fun _ => fun
  | [d1, d2] => { results := [.lit (.bool false)], args := [d1, d2] }
  | _ => none }
def TermPartsWrongFalsely : Prop := termPartsRow.holds Try.pinned (OpenSpec.ofChange termPartsWrong)

/- THE SECOND FORM. 'bulk': how many values and letters a reading holds, each counted each time it is reached (what is shared counts as often as it is met; a slice's spare places count too). A statement '..UptoSaid' is the law's where the arguments, and the package variables that the reading takes, are together of bulk at most 1048576: NARROWER than '..Said'. Prove '..Said' where nothing that the law and all that it calls make is longer than what came in: it says more and counts as full. Else prove '..UptoSaid'. A law counts once. -/
mutual
def uptoBulk {H : Type} : DataW H → Nat
  | .lit (.string bytes) => bytes.length + 1
  | .lit _ => 1
  | .nil => 1
  | .ptr d => uptoBulk d + 1
  | .slice elems spare => uptoBulkAll elems + uptoBulkAll spare + 1
  | .agg parts => uptoBulkAll parts + 1
  | .iface _ d => uptoBulk d + 1
  | .map entries => uptoBulkEntries entries + 1
  | .held _ => 1
def uptoBulkAll {H : Type} : List (DataW H) → Nat
  | [] => 0
  | d :: r => uptoBulk d + uptoBulkAll r
def uptoBulkEntries {H : Type} : List (Lit × DataW H) → Nat
  | [] => 0
  | x :: r => uptoBulkEntry x + uptoBulkEntries r
def uptoBulkEntry {H : Type} : Lit × DataW H → Nat
  | (.string bytes, d) => bytes.length + uptoBulk d + 1
  | (_, d) => uptoBulk d + 1
 end
def uptoSmall : (H : Type) → List (DataW H) → Bool := fun _ ds => decide (uptoBulkAll ds ≤ 1048576)
def OpenSpec.upto (s : _root_.Go.ChangeSpec) : _root_.Go.OpenSpec := { _root_.Go.OpenSpec.ofChange s with cond := some uptoSmall }

/-- 'chiasmuslaw01.TermTexts', WHERE WHAT IT READS IS OF BULK AT MOST 1048576: true; the input reads as it did. -/
def termTextsUptoRow : OpenClaim := { program := "ytdbjjaodkapikaa", sum := "a71c4a405f41898961b3c0aaff00648498bd2581988ddd3fd984186c5de92d35", func := "chiasmus/chiasmuslaw01.TermTexts", spec := "termTexts", inPlace := ["internal/bytealg.IndexByteString", "internal/abi.NoEscape"], unfollowed := true, recurses := true, loops := true, apart := false, narrowed := true }
def TermTextsUptoSaid : Prop := termTextsUptoRow.holds Try.pinned (OpenSpec.upto termTextsSpec)

/-- 'chiasmuslaw01.TermErrors', WHERE WHAT IT READS IS OF BULK AT MOST 1048576: true; the input reads as it did. -/
def termErrorsUptoRow : OpenClaim := { program := "ytdbjjaodkapikaa", sum := "a71c4a405f41898961b3c0aaff00648498bd2581988ddd3fd984186c5de92d35", func := "chiasmus/chiasmuslaw01.TermErrors", spec := "termErrors", inPlace := ["internal/bytealg.IndexByteString", "internal/abi.NoEscape"], unfollowed := true, recurses := true, loops := true, apart := false, narrowed := true }
def TermErrorsUptoSaid : Prop := termErrorsUptoRow.holds Try.pinned (OpenSpec.upto termErrorsSpec)

/-- 'chiasmuslaw01.TermBack', WHERE WHAT IT READS IS OF BULK AT MOST 1048576: true; the input reads as it did. -/
def termBackUptoRow : OpenClaim := { program := "ytdbjjaodkapikaa", sum := "a71c4a405f41898961b3c0aaff00648498bd2581988ddd3fd984186c5de92d35", func := "chiasmus/chiasmuslaw01.TermBack", spec := "termBack", inPlace := ["internal/bytealg.IndexByteString", "internal/abi.NoEscape"], unfollowed := true, recurses := true, loops := true, apart := false, narrowed := true }
def TermBackUptoSaid : Prop := termBackUptoRow.holds Try.pinned (OpenSpec.upto termBackSpec)

/-- 'chiasmuslaw01.TermOrders', WHERE WHAT IT READS IS OF BULK AT MOST 1048576: true; the input reads as it did. -/
def termOrdersUptoRow : OpenClaim := { program := "ytdbjjaodkapikaa", sum := "a71c4a405f41898961b3c0aaff00648498bd2581988ddd3fd984186c5de92d35", func := "chiasmus/chiasmuslaw01.TermOrders", spec := "termOrders", inPlace := ["internal/bytealg.IndexByteString", "internal/abi.NoEscape"], unfollowed := true, recurses := true, loops := true, apart := false, narrowed := true }
def TermOrdersUptoSaid : Prop := termOrdersUptoRow.holds Try.pinned (OpenSpec.upto termOrdersSpec)

/-- 'chiasmuslaw01.TermPlaces', WHERE WHAT IT READS IS OF BULK AT MOST 1048576: true; the input reads as it did. -/
def termPlacesUptoRow : OpenClaim := { program := "ytdbjjaodkapikaa", sum := "a71c4a405f41898961b3c0aaff00648498bd2581988ddd3fd984186c5de92d35", func := "chiasmus/chiasmuslaw01.TermPlaces", spec := "termPlaces", inPlace := ["internal/bytealg.IndexByteString", "internal/abi.NoEscape"], unfollowed := true, recurses := true, loops := true, apart := false, narrowed := true }
def TermPlacesUptoSaid : Prop := termPlacesUptoRow.holds Try.pinned (OpenSpec.upto termPlacesSpec)

/-- 'chiasmuslaw01.TermOrdered', WHERE WHAT IT READS IS OF BULK AT MOST 1048576: true; the input reads as it did. -/
def termOrderedUptoRow : OpenClaim := { program := "ytdbjjaodkapikaa", sum := "a71c4a405f41898961b3c0aaff00648498bd2581988ddd3fd984186c5de92d35", func := "chiasmus/chiasmuslaw01.TermOrdered", spec := "termOrdered", inPlace := ["internal/bytealg.IndexByteString", "internal/abi.NoEscape"], unfollowed := true, recurses := true, loops := true, apart := false, narrowed := true }
def TermOrderedUptoSaid : Prop := termOrderedUptoRow.holds Try.pinned (OpenSpec.upto termOrderedSpec)

/-- 'chiasmuslaw01.TermParts', WHERE WHAT IT READS IS OF BULK AT MOST 1048576: true; the input reads as it did. -/
def termPartsUptoRow : OpenClaim := { program := "ytdbjjaodkapikaa", sum := "a71c4a405f41898961b3c0aaff00648498bd2581988ddd3fd984186c5de92d35", func := "chiasmus/chiasmuslaw01.TermParts", spec := "termParts", inPlace := ["internal/bytealg.IndexByteString", "internal/abi.NoEscape", "internal/bytealg.IndexString"], unfollowed := true, recurses := true, named := ["internal/bytealg.MaxLen"], loops := true, apart := false, narrowed := true }
def TermPartsUptoSaid : Prop := termPartsUptoRow.holds Try.pinned (OpenSpec.upto termPartsSpec)

end Rows
end Go.Proofs.Ytdbjjaodkapikaa
