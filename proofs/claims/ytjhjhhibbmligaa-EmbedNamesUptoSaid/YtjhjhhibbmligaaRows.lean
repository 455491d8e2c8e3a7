/-
  NARROWER THAN 'FOR EVERY INPUT', by the rows' own cells (each row's printed sentence says how): EmbedStacks: loops · EmbedIn: loops · EmbedChecks: loops · EmbedOrder: loops · EmbedNames: loops · EmbedWhistles: loops · EmbedPairs: loops · TermTexts: loops · TermBack: loops · TermParts: loops · TermErrors: loops · TermOrders: loops.
  DERIVED. THE GIVEN ROWS OF THIS SEAT. 12 by the template 'for every input the law returns true; each argument reads behind the call as it read before'; 0 by the template 'total and deterministic' (their statements: YtjhjhhibbmligaaTotals.lean).
  GIVEN WITH THE SEED: the statements are not yours to turn. If you find one false, say at which input.
  Laid BY PROGRAM, IN A SANDBOX (cutbox-rows.mjs): the forced cells as the released guide's own fill.sh prints them over the translation 0e7888c966919969… (all of the seat's roots in one cut). By AI agents, Wed Nov 11 2026. No macro, syntax, notation, axiom, sorry.
-/
import Derived.Test.YtjhjhhibbmligaaChecked
import GoSem.Claim
import GoSem.ClaimJoined
import GoSem.ClaimMapViews
import Derived.JoinedTies
import Derived.KernelRfl
namespace Go.Proofs.Ytjhjhhibbmligaa
/- THE CELL 'sum', in the pinned program and in every row, IS THE sha256 OF THE DUMP (.gsa) THAT YtjhjhhibbmligaaProg.lean LOADS. Nothing in Lean hashes anything: it is a label: what it is worth is what the hold of that sum in a sandbox is worth. -/
noncomputable def Try.pinned : Pinned := { name := "ytjhjhhibbmligaa", sum := "0e7888c966919969915c0d1cdb8484ba28491ccaebbbcf98f8df487502c6341d", checked := Try.checked }
namespace Rows
def none {H : Type} : Left H := { results := [], args := [] }

/-- 'chiasmuslaw27.EmbedStacks': WHATEVER THE INPUT: true; the input reads as it did. -/
def embedStacksSpec : ChangeSpec := { name := "embedStacks", fn := fun _ => fun
  | [d1, d2, d3] => { results := [.lit (.bool true)], args := [d1, d2, d3] }
  | _ => none }
def embedStacksRow : OpenClaim := { program := "ytjhjhhibbmligaa", sum := "0e7888c966919969915c0d1cdb8484ba28491ccaebbbcf98f8df487502c6341d", func := "chiasmus/chiasmuslaw27.EmbedStacks", spec := "embedStacks", inPlace := ["internal/bytealg.IndexByteString"], unfollowed := true, recurses := true, loops := true, plainKeys := false, apart := false }
def EmbedStacksSaid : Prop := embedStacksRow.holds Try.pinned (OpenSpec.ofChange embedStacksSpec)

/-- ITS FALSE NEIGHBOUR: 'it returns false'. Refute it at one input. -/
def embedStacksWrong : ChangeSpec := { name := "embedStacks", fn := fun _ => fun
  | [d1, d2, d3] => { results := [.lit (.bool false)], args := [d1, d2, d3] }
  | _ => none }
def EmbedStacksWrongFalsely : Prop := embedStacksRow.holds Try.pinned (OpenSpec.ofChange embedStacksWrong)

/-- 'chiasmuslaw27.EmbedIn': WHATEVER THE INPUT: true; the input reads as it did. -/
def embedInSpec : ChangeSpec := { name := "embedIn", fn := fun _ => fun
  | [d1, d2] => { results := [.lit (.bool true)], args := [d1, d2] }
  | _ => none }
def embedInRow : OpenClaim := { program := "ytjhjhhibbmligaa", sum := "0e7888c966919969915c0d1cdb8484ba28491ccaebbbcf98f8df487502c6341d", func := "chiasmus/chiasmuslaw27.EmbedIn", spec := "embedIn", inPlace := ["internal/bytealg.IndexByteString"], unfollowed := true, recurses := true, loops := true, plainKeys := false, apart := false }
def EmbedInSaid : Prop := embedInRow.holds Try.pinned (OpenSpec.ofChange embedInSpec)

/-- ITS FALSE NEIGHBOUR: 'it returns false'. Refute it at one input. -/
def embedInWrong : ChangeSpec := { name := "embedIn", fn := fun _ => fun
  | [d1, d2] => { results := [.lit (.bool false)], args := [d1, d2] }
  | _ => none }
def EmbedInWrongFalsely : Prop := embedInRow.holds Try.pinned (OpenSpec.ofChange embedInWrong)

/-- 'chiasmuslaw27.EmbedChecks': WHATEVER THE INPUT: true; the input reads as it did. -/
def embedChecksSpec : ChangeSpec := { name := "embedChecks", fn := fun _ => fun
  | [d1, d2, d3] => { results := [.lit (.bool true)], args := [d1, d2, d3] }
  | _ => none }
def embedChecksRow : OpenClaim := { program := "ytjhjhhibbmligaa", sum := "0e7888c966919969915c0d1cdb8484ba28491ccaebbbcf98f8df487502c6341d", func := "chiasmus/chiasmuslaw27.EmbedChecks", spec := "embedChecks", inPlace := ["internal/bytealg.IndexByteString"], unfollowed := true, recurses := true, loops := true, plainKeys := false, apart := false }
def EmbedChecksSaid : Prop := embedChecksRow.holds Try.pinned (OpenSpec.ofChange embedChecksSpec)

/-- ITS FALSE NEIGHBOUR: 'it returns false'. Refute it at one input. -/
def embedChecksWrong : ChangeSpec := { name := "embedChecks", fn := fun _ => fun
  | [d1, d2, d3] => { results := [.lit (.bool false)], args := [d1, d2, d3] }
  | _ => none }
def EmbedChecksWrongFalsely : Prop := embedChecksRow.holds Try.pinned (OpenSpec.ofChange embedChecksWrong)

/-- 'chiasmuslaw27.EmbedOrder': WHATEVER THE INPUT: true; the input reads as it did. -/
def embedOrderSpec : ChangeSpec := { name := "embedOrder", fn := fun _ => fun
  | [d1, d2, d3, d4] => { results := [.lit (.bool true)], args := [d1, d2, d3, d4] }
  | _ => none }
def embedOrderRow : OpenClaim := { program := "ytjhjhhibbmligaa", sum := "0e7888c966919969915c0d1cdb8484ba28491ccaebbbcf98f8df487502c6341d", func := "chiasmus/chiasmuslaw27.EmbedOrder", spec := "embedOrder", inPlace := ["internal/bytealg.IndexByteString"], unfollowed := true, recurses := true, loops := true, plainKeys := false, apart := false }
def EmbedOrderSaid : Prop := embedOrderRow.holds Try.pinned (OpenSpec.ofChange embedOrderSpec)

/-- ITS FALSE NEIGHBOUR: 'it returns false'. Refute it at one input. -/
def embedOrderWrong : ChangeSpec := { name := "embedOrder", fn := fun _ => fun
  | [d1, d2, d3, d4] => { results := [.lit (.bool false)], args := [d1, d2, d3, d4] }
  | _ => none }
def EmbedOrderWrongFalsely : Prop := embedOrderRow.holds Try.pinned (OpenSpec.ofChange embedOrderWrong)

/-- 'chiasmuslaw27.EmbedNames': WHATEVER THE INPUT: true; the input reads as it did. -/
def embedNamesSpec : ChangeSpec := { name := "embedNames", fn := fun _ => fun
  | [d1, d2, d3] => { results := [.lit (.bool true)], args := [d1, d2, d3] }
  | _ => none }
def embedNamesRow : OpenClaim := { program := "ytjhjhhibbmligaa", sum := "0e7888c966919969915c0d1cdb8484ba28491ccaebbbcf98f8df487502c6341d", func := "chiasmus/chiasmuslaw27.EmbedNames", spec := "embedNames", inPlace := ["internal/bytealg.IndexByteString"], unfollowed := true, recurses := true, loops := true, plainKeys := false, apart := false }
def EmbedNamesSaid : Prop := embedNamesRow.holds Try.pinned (OpenSpec.ofChange embedNamesSpec)

/-- ITS FALSE NEIGHBOUR: 'it returns false'. Refute it at one input. -/
def embedNamesWrong : ChangeSpec := { name := "embedNames", fn := fun _ => fun
  | [d1, d2, d3] => { results := [.lit (.bool false)], args := [d1, d2, d3] }
  | _ => none }
def EmbedNamesWrongFalsely : Prop := embedNamesRow.holds Try.pinned (OpenSpec.ofChange embedNamesWrong)

/-- 'chiasmuslaw27.EmbedWhistles': WHATEVER THE INPUT: true; the input reads as it did. -/
def embedWhistlesSpec : ChangeSpec := { name := "embedWhistles", fn := fun _ => fun
  | [d1, d2, d3] => { results := [.lit (.bool true)], args := [d1, d2, d3] }
  | _ => none }
def embedWhistlesRow : OpenClaim := { program := "ytjhjhhibbmligaa", sum := "0e7888c966919969915c0d1cdb8484ba28491ccaebbbcf98f8df487502c6341d", func := "chiasmus/chiasmuslaw27.EmbedWhistles", spec := "embedWhistles", inPlace := ["internal/bytealg.IndexByteString"], unfollowed := true, recurses := true, loops := true, plainKeys := false, apart := false }
def EmbedWhistlesSaid : Prop := embedWhistlesRow.holds Try.pinned (OpenSpec.ofChange embedWhistlesSpec)

/-- ITS FALSE NEIGHBOUR: 'it returns false'. Refute it at one input. -/
def embedWhistlesWrong : ChangeSpec := { name := "embedWhistles", fn := fun _ => fun
  | [d1, d2, d3] => { results := [.lit (.bool false)], args := [d1, d2, d3] }
  | _ => none }
def EmbedWhistlesWrongFalsely : Prop := embedWhistlesRow.holds Try.pinned (OpenSpec.ofChange embedWhistlesWrong)

/-- 'chiasmuslaw27.EmbedPairs': WHATEVER THE INPUT: true; the input reads as it did. -/
def embedPairsSpec : ChangeSpec := { name := "embedPairs", fn := fun _ => fun
  | [d1, d2, d3] => { results := [.lit (.bool true)], args := [d1, d2, d3] }
  | _ => none }
def embedPairsRow : OpenClaim := { program := "ytjhjhhibbmligaa", sum := "0e7888c966919969915c0d1cdb8484ba28491ccaebbbcf98f8df487502c6341d", func := "chiasmus/chiasmuslaw27.EmbedPairs", spec := "embedPairs", inPlace := ["internal/bytealg.IndexByteString"], unfollowed := true, recurses := true, loops := true, plainKeys := false, apart := false }
def EmbedPairsSaid : Prop := embedPairsRow.holds Try.pinned (OpenSpec.ofChange embedPairsSpec)

/-- ITS FALSE NEIGHBOUR: 'it returns false'. Refute it at one input. -/
def embedPairsWrong : ChangeSpec := { name := "embedPairs", fn := fun _ => fun
  | [d1, d2, d3] => { results := [.lit (.bool false)], args := [d1, d2, d3] }
  | _ => none }
def EmbedPairsWrongFalsely : Prop := embedPairsRow.holds Try.pinned (OpenSpec.ofChange embedPairsWrong)

/-- 'chiasmuslaw01.TermTexts': WHATEVER THE INPUT: true; the input reads as it did. -/
def termTextsSpec : ChangeSpec := { name := "termTexts", fn := fun _ => fun
  | [d1, d2] => { results := [.lit (.bool true)], args := [d1, d2] }
  | _ => none }
def termTextsRow : OpenClaim := { program := "ytjhjhhibbmligaa", sum := "0e7888c966919969915c0d1cdb8484ba28491ccaebbbcf98f8df487502c6341d", func := "chiasmus/chiasmuslaw01.TermTexts", spec := "termTexts", inPlace := ["internal/bytealg.IndexByteString", "internal/abi.NoEscape"], unfollowed := true, recurses := true, loops := true, plainKeys := false, apart := false }
def TermTextsSaid : Prop := termTextsRow.holds Try.pinned (OpenSpec.ofChange termTextsSpec)

/-- ITS FALSE NEIGHBOUR: 'it returns false'. Refute it at one input. -/
def termTextsWrong : ChangeSpec := { name := "termTexts", fn := fun _ => fun
  | [d1, d2] => { results := [.lit (.bool false)], args := [d1, d2] }
  | _ => none }
def TermTextsWrongFalsely : Prop := termTextsRow.holds Try.pinned (OpenSpec.ofChange termTextsWrong)

/-- 'chiasmuslaw01.TermBack': WHATEVER THE INPUT: true; the input reads as it did. -/
def termBackSpec : ChangeSpec := { name := "termBack", fn := fun _ => fun
  | [d1, d2] => { results := [.lit (.bool true)], args := [d1, d2] }
  | _ => none }
def termBackRow : OpenClaim := { program := "ytjhjhhibbmligaa", sum := "0e7888c966919969915c0d1cdb8484ba28491ccaebbbcf98f8df487502c6341d", func := "chiasmus/chiasmuslaw01.TermBack", spec := "termBack", inPlace := ["internal/bytealg.IndexByteString", "internal/abi.NoEscape"], unfollowed := true, recurses := true, loops := true, plainKeys := false, apart := false }
def TermBackSaid : Prop := termBackRow.holds Try.pinned (OpenSpec.ofChange termBackSpec)

/-- ITS FALSE NEIGHBOUR: 'it returns false'. Refute it at one input. -/
def termBackWrong : ChangeSpec := { name := "termBack", fn := fun _ => fun
  | [d1, d2] => { results := [.lit (.bool false)], args := [d1, d2] }
  | _ => none }
def TermBackWrongFalsely : Prop := termBackRow.holds Try.pinned (OpenSpec.ofChange termBackWrong)

/-- 'chiasmuslaw01.TermParts': WHATEVER THE INPUT: true; the input reads as it did. -/
def termPartsSpec : ChangeSpec := { name := "termParts", fn := fun _ => fun
  | [d1, d2] => { results := [.lit (.bool true)], args := [d1, d2] }
  | _ => none }
def termPartsRow : OpenClaim := { program := "ytjhjhhibbmligaa", sum := "0e7888c966919969915c0d1cdb8484ba28491ccaebbbcf98f8df487502c6341d", func := "chiasmus/chiasmuslaw01.TermParts", spec := "termParts", inPlace := ["internal/bytealg.IndexByteString", "internal/abi.NoEscape", "internal/bytealg.IndexString"], unfollowed := true, recurses := true, named := ["internal/bytealg.MaxLen"], loops := true, plainKeys := false, apart := false }
def TermPartsSaid : Prop := termPartsRow.holds Try.pinned (OpenSpec.ofChange termPartsSpec)

/-- ITS FALSE NEIGHBOUR: 'it returns false'. Refute it at one input. -/
def termPartsWrong : ChangeSpec := { name := "termParts", fn := fun _ => fun
  | [d1, d2] => { results := [.lit (.bool false)], args := [d1, d2] }
  | _ => none }
def TermPartsWrongFalsely : Prop := termPartsRow.holds Try.pinned (OpenSpec.ofChange termPartsWrong)

/-- 'chiasmuslaw01.TermErrors': WHATEVER THE INPUT: true; the input reads as it did. -/
def termErrorsSpec : ChangeSpec := { name := "termErrors", fn := fun _ => fun
  | [d] => { results := [.lit (.bool true)], args := [d] }
  | _ => none }
def termErrorsRow : OpenClaim := { program := "ytjhjhhibbmligaa", sum := "0e7888c966919969915c0d1cdb8484ba28491ccaebbbcf98f8df487502c6341d", func := "chiasmus/chiasmuslaw01.TermErrors", spec := "termErrors", inPlace := ["internal/bytealg.IndexByteString", "internal/abi.NoEscape"], unfollowed := true, recurses := true, loops := true, plainKeys := false, apart := false }
def TermErrorsSaid : Prop := termErrorsRow.holds Try.pinned (OpenSpec.ofChange termErrorsSpec)

/-- ITS FALSE NEIGHBOUR: 'it returns false'. Refute it at one input. -/
def termErrorsWrong : ChangeSpec := { name := "termErrors", fn := fun _ => fun
  | [d] => { results := [.lit (.bool false)], args := [d] }
  | _ => none }
def TermErrorsWrongFalsely : Prop := termErrorsRow.holds Try.pinned (OpenSpec.ofChange termErrorsWrong)

/-- 'chiasmuslaw01.TermOrders': WHATEVER THE INPUT: true; the input reads as it did. -/
def termOrdersSpec : ChangeSpec := { name := "termOrders", fn := fun _ => fun
  | [d1, d2] => { results := [.lit (.bool true)], args := [d1, d2] }
  | _ => none }
def termOrdersRow : OpenClaim := { program := "ytjhjhhibbmligaa", sum := "0e7888c966919969915c0d1cdb8484ba28491ccaebbbcf98f8df487502c6341d", func := "chiasmus/chiasmuslaw01.TermOrders", spec := "termOrders", inPlace := ["internal/bytealg.IndexByteString", "internal/abi.NoEscape"], unfollowed := true, recurses := true, loops := true, plainKeys := false, apart := false }
def TermOrdersSaid : Prop := termOrdersRow.holds Try.pinned (OpenSpec.ofChange termOrdersSpec)

/-- ITS FALSE NEIGHBOUR: 'it returns false'. Refute it at one input. -/
def termOrdersWrong : ChangeSpec := { name := "termOrders", fn := fun _ => fun
  | [d1, d2] => { results := [.lit (.bool false)], args := [d1, d2] }
  | _ => none }
def TermOrdersWrongFalsely : Prop := termOrdersRow.holds Try.pinned (OpenSpec.ofChange termOrdersWrong)

/- THE SECOND FORM. 'bulk': how many values and letters a reading holds, each counted each time it is reached (what is shared counts as often as it is met; a slice's spare places count too). A statement '..UptoSaid' is the law's where the arguments, and the package variables that the reading takes, are together of bulk at most 1048576: NARROWER than '..Said'. Prove '..Said' where nothing that the law and all that it calls make is longer than what came in: it says more and counts as full. Else prove '..UptoSaid'. A law counts once. -/
mutual
def uptoBulk {H : Type} : DataW H → Nat
  | .lit (.string bytes) => bytes.length + 1
  | .lit _ => 1
  | .nil => 1
  | .ptr d => uptoBulk d + 1
  | .slice elems spare => uptoBulkAll elems + uptoBulkAll spare + 1
  | .agg parts => uptoBulkAll parts + 1
  | .iface _ d => uptoBulk d + 1
  | .map entries => uptoBulkEntries entries + 1
  | .held _ => 1
def uptoBulkAll {H : Type} : List (DataW H) → Nat
  | [] => 0
  | d :: r => uptoBulk d + uptoBulkAll r
def uptoBulkEntries {H : Type} : List (Lit × DataW H) → Nat
  | [] => 0
  | x :: r => uptoBulkEntry x + uptoBulkEntries r
def uptoBulkEntry {H : Type} : Lit × DataW H → Nat
  | (.string bytes, d) => bytes.length + uptoBulk d + 1
  | (_, d) => uptoBulk d + 1
 end
def uptoSmall : (H : Type) → List (DataW H) → Bool := fun _ ds => decide (uptoBulkAll ds ≤ 1048576)
def OpenSpec.upto (s : _root_.Go.ChangeSpec) : _root_.Go.OpenSpec := { _root_.Go.OpenSpec.ofChange s with cond := some uptoSmall }

/-- 'chiasmuslaw27.EmbedStacks', WHERE WHAT IT READS IS OF BULK AT MOST 1048576: true; the input reads as it did. -/
def embedStacksUptoRow : OpenClaim := { program := "ytjhjhhibbmligaa", sum := "0e7888c966919969915c0d1cdb8484ba28491ccaebbbcf98f8df487502c6341d", func := "chiasmus/chiasmuslaw27.EmbedStacks", spec := "embedStacks", inPlace := ["internal/bytealg.IndexByteString"], unfollowed := true, recurses := true, loops := true, plainKeys := false, apart := false, narrowed := true }
def EmbedStacksUptoSaid : Prop := embedStacksUptoRow.holds Try.pinned (OpenSpec.upto embedStacksSpec)

/-- 'chiasmuslaw27.EmbedIn', WHERE WHAT IT READS IS OF BULK AT MOST 1048576: true; the input reads as it did. -/
def embedInUptoRow : OpenClaim := { program := "ytjhjhhibbmligaa", sum := "0e7888c966919969915c0d1cdb8484ba28491ccaebbbcf98f8df487502c6341d", func := "chiasmus/chiasmuslaw27.EmbedIn", spec := "embedIn", inPlace := ["internal/bytealg.IndexByteString"], unfollowed := true, recurses := true, loops := true, plainKeys := false, apart := false, narrowed := true }
def EmbedInUptoSaid : Prop := embedInUptoRow.holds Try.pinned (OpenSpec.upto embedInSpec)

/-- 'chiasmuslaw27.EmbedChecks', WHERE WHAT IT READS IS OF BULK AT MOST 1048576: true; the input reads as it did. -/
def embedChecksUptoRow : OpenClaim := { program := "ytjhjhhibbmligaa", sum := "0e7888c966919969915c0d1cdb8484ba28491ccaebbbcf98f8df487502c6341d", func := "chiasmus/chiasmuslaw27.EmbedChecks", spec := "embedChecks", inPlace := ["internal/bytealg.IndexByteString"], unfollowed := true, recurses := true, loops := true, plainKeys := false, apart := false, narrowed := true }
def EmbedChecksUptoSaid : Prop := embedChecksUptoRow.holds Try.pinned (OpenSpec.upto embedChecksSpec)

/-- 'chiasmuslaw27.EmbedOrder', WHERE WHAT IT READS IS OF BULK AT MOST 1048576: true; the input reads as it did. -/
def embedOrderUptoRow : OpenClaim := { program := "ytjhjhhibbmligaa", sum := "0e7888c966919969915c0d1cdb8484ba28491ccaebbbcf98f8df487502c6341d", func := "chiasmus/chiasmuslaw27.EmbedOrder", spec := "embedOrder", inPlace := ["internal/bytealg.IndexByteString"], unfollowed := true, recurses := true, loops := true, plainKeys := false, apart := false, narrowed := true }
def EmbedOrderUptoSaid : Prop := embedOrderUptoRow.holds Try.pinned (OpenSpec.upto embedOrderSpec)

/-- 'chiasmuslaw27.EmbedNames', WHERE WHAT IT READS IS OF BULK AT MOST 1048576: true; the input reads as it did. -/
def embedNamesUptoRow : OpenClaim := { program := "ytjhjhhibbmligaa", sum := "0e7888c966919969915c0d1cdb8484ba28491ccaebbbcf98f8df487502c6341d", func := "chiasmus/chiasmuslaw27.EmbedNames", spec := "embedNames", inPlace := ["internal/bytealg.IndexByteString"], unfollowed := true, recurses := true, loops := true, plainKeys := false, apart := false, narrowed := true }
def EmbedNamesUptoSaid : Prop := embedNamesUptoRow.holds Try.pinned (OpenSpec.upto embedNamesSpec)

/-- 'chiasmuslaw27.EmbedWhistles', WHERE WHAT IT READS IS OF BULK AT MOST 1048576: true; the input reads as it did. -/
def embedWhistlesUptoRow : OpenClaim := { program := "ytjhjhhibbmligaa", sum := "0e7888c966919969915c0d1cdb8484ba28491ccaebbbcf98f8df487502c6341d", func := "chiasmus/chiasmuslaw27.EmbedWhistles", spec := "embedWhistles", inPlace := ["internal/bytealg.IndexByteString"], unfollowed := true, recurses := true, loops := true, plainKeys := false, apart := false, narrowed := true }
def EmbedWhistlesUptoSaid : Prop := embedWhistlesUptoRow.holds Try.pinned (OpenSpec.upto embedWhistlesSpec)

/-- 'chiasmuslaw27.EmbedPairs', WHERE WHAT IT READS IS OF BULK AT MOST 1048576: true; the input reads as it did. -/
def embedPairsUptoRow : OpenClaim := { program := "ytjhjhhibbmligaa", sum := "0e7888c966919969915c0d1cdb8484ba28491ccaebbbcf98f8df487502c6341d", func := "chiasmus/chiasmuslaw27.EmbedPairs", spec := "embedPairs", inPlace := ["internal/bytealg.IndexByteString"], unfollowed := true, recurses := true, loops := true, plainKeys := false, apart := false, narrowed := true }
def EmbedPairsUptoSaid : Prop := embedPairsUptoRow.holds Try.pinned (OpenSpec.upto embedPairsSpec)

/-- 'chiasmuslaw01.TermTexts', WHERE WHAT IT READS IS OF BULK AT MOST 1048576: true; the input reads as it did. -/
def termTextsUptoRow : OpenClaim := { program := "ytjhjhhibbmligaa", sum := "0e7888c966919969915c0d1cdb8484ba28491ccaebbbcf98f8df487502c6341d", func := "chiasmus/chiasmuslaw01.TermTexts", spec := "termTexts", inPlace := ["internal/bytealg.IndexByteString", "internal/abi.NoEscape"], unfollowed := true, recurses := true, loops := true, plainKeys := false, apart := false, narrowed := true }
def TermTextsUptoSaid : Prop := termTextsUptoRow.holds Try.pinned (OpenSpec.upto termTextsSpec)

/-- 'chiasmuslaw01.TermBack', WHERE WHAT IT READS IS OF BULK AT MOST 1048576: true; the input reads as it did. -/
def termBackUptoRow : OpenClaim := { program := "ytjhjhhibbmligaa", sum := "0e7888c966919969915c0d1cdb8484ba28491ccaebbbcf98f8df487502c6341d", func := "chiasmus/chiasmuslaw01.TermBack", spec := "termBack", inPlace := ["internal/bytealg.IndexByteString", "internal/abi.NoEscape"], unfollowed := true, recurses := true, loops := true, plainKeys := false, apart := false, narrowed := true }
def TermBackUptoSaid : Prop := termBackUptoRow.holds Try.pinned (OpenSpec.upto termBackSpec)

/-- 'chiasmuslaw01.TermParts', WHERE WHAT IT READS IS OF BULK AT MOST 1048576: true; the input reads as it did. -/
def termPartsUptoRow : OpenClaim := { program := "ytjhjhhibbmligaa", sum := "0e7888c966919969915c0d1cdb8484ba28491ccaebbbcf98f8df487502c6341d", func := "chiasmus/chiasmuslaw01.TermParts", spec := "termParts", inPlace := ["internal/bytealg.IndexByteString", "internal/abi.NoEscape", "internal/bytealg.IndexString"], unfollowed := true, recurses := true, named := ["internal/bytealg.MaxLen"], loops := true, plainKeys := false, apart := false, narrowed := true }
def TermPartsUptoSaid : Prop := termPartsUptoRow.holds Try.pinned (OpenSpec.upto termPartsSpec)

/-- 'chiasmuslaw01.TermErrors', WHERE WHAT IT READS IS OF BULK AT MOST 1048576: true; the input reads as it did. -/
def termErrorsUptoRow : OpenClaim := { program := "ytjhjhhibbmligaa", sum := "0e7888c966919969915c0d1cdb8484ba28491ccaebbbcf98f8df487502c6341d", func := "chiasmus/chiasmuslaw01.TermErrors", spec := "termErrors", inPlace := ["internal/bytealg.IndexByteString", "internal/abi.NoEscape"], unfollowed := true, recurses := true, loops := true, plainKeys := false, apart := false, narrowed := true }
def TermErrorsUptoSaid : Prop := termErrorsUptoRow.holds Try.pinned (OpenSpec.upto termErrorsSpec)

/-- 'chiasmuslaw01.TermOrders', WHERE WHAT IT READS IS OF BULK AT MOST 1048576: true; the input reads as it did. -/
def termOrdersUptoRow : OpenClaim := { program := "ytjhjhhibbmligaa", sum := "0e7888c966919969915c0d1cdb8484ba28491ccaebbbcf98f8df487502c6341d", func := "chiasmus/chiasmuslaw01.TermOrders", spec := "termOrders", inPlace := ["internal/bytealg.IndexByteString", "internal/abi.NoEscape"], unfollowed := true, recurses := true, loops := true, plainKeys := false, apart := false, narrowed := true }
def TermOrdersUptoSaid : Prop := termOrdersUptoRow.holds Try.pinned (OpenSpec.upto termOrdersSpec)

end Rows
end Go.Proofs.Ytjhjhhibbmligaa
