/-
  NARROWER THAN 'FOR EVERY INPUT', by the rows' own cells (each row's printed sentence says how): MetaUp: loops · MetaPieces: loops · MetaDn: loops · MetaBack: loops · MetaLevels: loops · MetaTowers: loops · MetaKeeps: loops.
  DERIVED. THE GIVEN ROWS OF THIS SEAT. 7 by the template 'for every input the law returns true; each argument reads behind the call as it read before'; 0 by the template 'total and deterministic' (their statements: YtnffhiiihegjbaaTotals.lean).
  GIVEN WITH THE SEED: the statements are not yours to turn. If you find one false, say at which input.
  Laid BY PROGRAM, IN A SANDBOX (cutbox-rows.mjs): the forced cells as the released guide's own fill.sh prints them over the translation 9db4eaa03218baf2… (all of the seat's roots in one cut). By AI agents, Wed Nov 11 2026. No macro, syntax, notation, axiom, sorry.
-/
import Derived.Test.YtnffhiiihegjbaaChecked
import GoSem.Claim
import GoSem.ClaimJoined
import GoSem.ClaimMapViews
import Derived.JoinedTies
import Derived.KernelRfl
namespace Go.Proofs.Ytnffhiiihegjbaa
/- THE CELL 'sum', in the pinned program and in every row, IS THE sha256 OF THE DUMP (.gsa) THAT YtnffhiiihegjbaaProg.lean LOADS. Nothing in Lean hashes anything: it is a label: what it is worth is what the hold of that sum in a sandbox is worth. -/
noncomputable def Try.pinned : Pinned := { name := "ytnffhiiihegjbaa", sum := "9db4eaa03218baf223ad3803b931aab4b8315df556f37f9eecfcbc9e8bd3aa4b", checked := Try.checked }
namespace Rows
def none {H : Type} : Left H := { results := [], args := [] }

/-- 'chiasmuslaw09.MetaUp': WHATEVER THE INPUT: true; the input reads as it did. -/
def metaUpSpec : ChangeSpec := { name := "metaUp", fn := fun _ => fun
  | [d] => { results := [.lit (.bool true)], args := [d] }
  | _ => none }
def metaUpRow : OpenClaim := { program := "ytnffhiiihegjbaa", sum := "9db4eaa03218baf223ad3803b931aab4b8315df556f37f9eecfcbc9e8bd3aa4b", func := "chiasmus/chiasmuslaw09.MetaUp", spec := "metaUp", unfollowed := true, recurses := true, loops := true, apart := false }
def MetaUpSaid : Prop := metaUpRow.holds Try.pinned (OpenSpec.ofChange metaUpSpec)

/-- ITS FALSE NEIGHBOUR: 'it returns false'. Refute it at one input. -/
def metaUpWrong : ChangeSpec := { name := "metaUp", fn := fun _ => fun
  | [d] => { results := [.lit (.bool false)], args := [d] }
  | _ => none }
def MetaUpWrongFalsely : Prop := metaUpRow.holds Try.pinned (OpenSpec.ofChange metaUpWrong)

/-- 'chiasmuslaw09.MetaPieces': WHATEVER THE INPUT: true; the input reads as it did. -/
def metaPiecesSpec : ChangeSpec := { name := "metaPieces", fn := fun _ => fun
  | [d1, d2] => { results := [.lit (.bool true)], args := [d1, d2] }
  | _ => none }
def metaPiecesRow : OpenClaim := { program := "ytnffhiiihegjbaa", sum := "9db4eaa03218baf223ad3803b931aab4b8315df556f37f9eecfcbc9e8bd3aa4b", func := "chiasmus/chiasmuslaw09.MetaPieces", spec := "metaPieces", unfollowed := true, recurses := true, loops := true, apart := false }
def MetaPiecesSaid : Prop := metaPiecesRow.holds Try.pinned (OpenSpec.ofChange metaPiecesSpec)

/-- ITS FALSE NEIGHBOUR: 'it returns false'. Refute it at one input. -/
def metaPiecesWrong : ChangeSpec := { name := "metaPieces", fn := fun _ => fun
  | [d1, d2] => { results := [.lit (.bool false)], args := [d1, d2] }
  | _ => none }
def MetaPiecesWrongFalsely : Prop := metaPiecesRow.holds Try.pinned (OpenSpec.ofChange metaPiecesWrong)

/-- 'chiasmuslaw09.MetaDn': WHATEVER THE INPUT: true; the input reads as it did. -/
def metaDnSpec : ChangeSpec := { name := "metaDn", fn := fun _ => fun
  | [d] => { results := [.lit (.bool true)], args := [d] }
  | _ => none }
def metaDnRow : OpenClaim := { program := "ytnffhiiihegjbaa", sum := "9db4eaa03218baf223ad3803b931aab4b8315df556f37f9eecfcbc9e8bd3aa4b", func := "chiasmus/chiasmuslaw09.MetaDn", spec := "metaDn", unfollowed := true, recurses := true, loops := true, apart := false }
def MetaDnSaid : Prop := metaDnRow.holds Try.pinned (OpenSpec.ofChange metaDnSpec)

/-- ITS FALSE NEIGHBOUR: 'it returns false'. Refute it at one input. -/
def metaDnWrong : ChangeSpec := { name := "metaDn", fn := fun _ => fun
  | [d] => { results := [.lit (.bool false)], args := [d] }
  | _ => none }
def MetaDnWrongFalsely : Prop := metaDnRow.holds Try.pinned (OpenSpec.ofChange metaDnWrong)

/-- 'chiasmuslaw09.MetaBack': WHATEVER THE INPUT: true; the input reads as it did. -/
def metaBackSpec : ChangeSpec := { name := "metaBack", fn := fun _ => fun
  | [d] => { results := [.lit (.bool true)], args := [d] }
  | _ => none }
def metaBackRow : OpenClaim := { program := "ytnffhiiihegjbaa", sum := "9db4eaa03218baf223ad3803b931aab4b8315df556f37f9eecfcbc9e8bd3aa4b", func := "chiasmus/chiasmuslaw09.MetaBack", spec := "metaBack", unfollowed := true, recurses := true, loops := true, apart := false }
def MetaBackSaid : Prop := metaBackRow.holds Try.pinned (OpenSpec.ofChange metaBackSpec)

/-- ITS FALSE NEIGHBOUR: 'it returns false'. Refute it at one input. -/
def metaBackWrong : ChangeSpec := { name := "metaBack", fn := fun _ => fun
  | [d] => { results := [.lit (.bool false)], args := [d] }
  | _ => none }
def MetaBackWrongFalsely : Prop := metaBackRow.holds Try.pinned (OpenSpec.ofChange metaBackWrong)

/-- 'chiasmuslaw09.MetaLevels': WHATEVER THE INPUT: true; the input reads as it did. -/
def metaLevelsSpec : ChangeSpec := { name := "metaLevels", fn := fun _ => fun
  | [d1, d2] => { results := [.lit (.bool true)], args := [d1, d2] }
  | _ => none }
def metaLevelsRow : OpenClaim := { program := "ytnffhiiihegjbaa", sum := "9db4eaa03218baf223ad3803b931aab4b8315df556f37f9eecfcbc9e8bd3aa4b", func := "chiasmus/chiasmuslaw09.MetaLevels", spec := "metaLevels", unfollowed := true, recurses := true, loops := true, apart := false }
def MetaLevelsSaid : Prop := metaLevelsRow.holds Try.pinned (OpenSpec.ofChange metaLevelsSpec)

/-- ITS FALSE NEIGHBOUR: 'it returns false'. Refute it at one input. -/
def metaLevelsWrong : ChangeSpec := { name := "metaLevels", fn := fun _ => fun
  | [d1, d2] => { results := [.lit (.bool false)], args := [d1, d2] }
  | _ => none }
def MetaLevelsWrongFalsely : Prop := metaLevelsRow.holds Try.pinned (OpenSpec.ofChange metaLevelsWrong)

/-- 'chiasmuslaw09.MetaTowers': WHATEVER THE INPUT: true; the input reads as it did. -/
def metaTowersSpec : ChangeSpec := { name := "metaTowers", fn := fun _ => fun
  | [d1, d2] => { results := [.lit (.bool true)], args := [d1, d2] }
  | _ => none }
def metaTowersRow : OpenClaim := { program := "ytnffhiiihegjbaa", sum := "9db4eaa03218baf223ad3803b931aab4b8315df556f37f9eecfcbc9e8bd3aa4b", func := "chiasmus/chiasmuslaw09.MetaTowers", spec := "metaTowers", unfollowed := true, recurses := true, loops := true, apart := false }
def MetaTowersSaid : Prop := metaTowersRow.holds Try.pinned (OpenSpec.ofChange metaTowersSpec)

/-- ITS FALSE NEIGHBOUR: 'it returns false'. Refute it at one input. -/
def metaTowersWrong : ChangeSpec := { name := "metaTowers", fn := fun _ => fun
  | [d1, d2] => { results := [.lit (.bool false)], args := [d1, d2] }
  | _ => none }
def MetaTowersWrongFalsely : Prop := metaTowersRow.holds Try.pinned (OpenSpec.ofChange metaTowersWrong)

/-- 'chiasmuslaw09.MetaKeeps': WHATEVER THE INPUT: true; the input reads as it did. -/
def metaKeepsSpec : ChangeSpec := { name := "metaKeeps", fn := fun _ => fun
  | [d] => { results := [.lit (.bool true)], args := [d] }
  | _ => none }
def metaKeepsRow : OpenClaim := { program := "ytnffhiiihegjbaa", sum := "9db4eaa03218baf223ad3803b931aab4b8315df556f37f9eecfcbc9e8bd3aa4b", func := "chiasmus/chiasmuslaw09.MetaKeeps", spec := "metaKeeps", inPlace := ["maps.clone"], unfollowed := true, recurses := true, loops := true, apart := false }
def MetaKeepsSaid : Prop := metaKeepsRow.holds Try.pinned (OpenSpec.ofChange metaKeepsSpec)

/-- ITS FALSE NEIGHBOUR: 'it returns false'. Refute it at one input. -/
def metaKeepsWrong : ChangeSpec := { name := "metaKeeps", fn := fun _ => fun
  | [d] => { results := [.lit (.bool false)], args := [d] }
  | _ => none }
def MetaKeepsWrongFalsely : Prop := metaKeepsRow.holds Try.pinned (OpenSpec.ofChange metaKeepsWrong)

/- THE SECOND FORM. 'bulk': how many values and letters a reading holds, each counted each time it is reached (what is shared counts as often as it is met; a slice's spare places count too). A statement '..UptoSaid' is the law's where the arguments, and the package variables that the reading takes, are together of bulk at most 1048576: NARROWER than '..Said'. Prove '..Said' where nothing that the law and all that it calls make is longer than what came in: it says more and counts as full. Else prove '..UptoSaid'. A law counts once. -/
mutual
def uptoBulk {H : Type} : DataW H → Nat
  | .lit (.string bytes) => bytes.length + 1
  | .lit _ => 1
  | .nil => 1
  | .ptr d => uptoBulk d + 1
  | .slice elems spare => uptoBulkAll elems + uptoBulkAll spare + 1
  | .agg parts => uptoBulkAll parts + 1
  | .iface _ d => uptoBulk d + 1
  | .map entries => uptoBulkEntries entries + 1
  | .held _ => 1
def uptoBulkAll {H : Type} : List (DataW H) → Nat
  | [] => 0
  | d :: r => uptoBulk d + uptoBulkAll r
def uptoBulkEntries {H : Type} : List (Lit × DataW H) → Nat
  | [] => 0
  | x :: r => uptoBulkEntry x + uptoBulkEntries r
def uptoBulkEntry {H : Type} : Lit × DataW H → Nat
  | (.string bytes, d) => bytes.length + uptoBulk d + 1
  | (_, d) => uptoBulk d + 1
 end
def uptoSmall : (H : Type) → List (DataW H) → Bool := fun _ ds => decide (uptoBulkAll ds ≤ 1048576)
def OpenSpec.upto (s : _root_.Go.ChangeSpec) : _root_.Go.OpenSpec := { _root_.Go.OpenSpec.ofChange s with cond := some uptoSmall }

/-- 'chiasmuslaw09.MetaUp', WHERE WHAT IT READS IS OF BULK AT MOST 1048576: true; the input reads as it did. -/
def metaUpUptoRow : OpenClaim := { program := "ytnffhiiihegjbaa", sum := "9db4eaa03218baf223ad3803b931aab4b8315df556f37f9eecfcbc9e8bd3aa4b", func := "chiasmus/chiasmuslaw09.MetaUp", spec := "metaUp", unfollowed := true, recurses := true, loops := true, apart := false, narrowed := true }
def MetaUpUptoSaid : Prop := metaUpUptoRow.holds Try.pinned (OpenSpec.upto metaUpSpec)

/-- 'chiasmuslaw09.MetaPieces', WHERE WHAT IT READS IS OF BULK AT MOST 1048576: true; the input reads as it did. -/
def metaPiecesUptoRow : OpenClaim := { program := "ytnffhiiihegjbaa", sum := "9db4eaa03218baf223ad3803b931aab4b8315df556f37f9eecfcbc9e8bd3aa4b", func := "chiasmus/chiasmuslaw09.MetaPieces", spec := "metaPieces", unfollowed := true, recurses := true, loops := true, apart := false, narrowed := true }
def MetaPiecesUptoSaid : Prop := metaPiecesUptoRow.holds Try.pinned (OpenSpec.upto metaPiecesSpec)

/-- 'chiasmuslaw09.MetaDn', WHERE WHAT IT READS IS OF BULK AT MOST 1048576: true; the input reads as it did. -/
def metaDnUptoRow : OpenClaim := { program := "ytnffhiiihegjbaa", sum := "9db4eaa03218baf223ad3803b931aab4b8315df556f37f9eecfcbc9e8bd3aa4b", func := "chiasmus/chiasmuslaw09.MetaDn", spec := "metaDn", unfollowed := true, recurses := true, loops := true, apart := false, narrowed := true }
def MetaDnUptoSaid : Prop := metaDnUptoRow.holds Try.pinned (OpenSpec.upto metaDnSpec)

/-- 'chiasmuslaw09.MetaBack', WHERE WHAT IT READS IS OF BULK AT MOST 1048576: true; the input reads as it did. -/
def metaBackUptoRow : OpenClaim := { program := "ytnffhiiihegjbaa", sum := "9db4eaa03218baf223ad3803b931aab4b8315df556f37f9eecfcbc9e8bd3aa4b", func := "chiasmus/chiasmuslaw09.MetaBack", spec := "metaBack", unfollowed := true, recurses := true, loops := true, apart := false, narrowed := true }
def MetaBackUptoSaid : Prop := metaBackUptoRow.holds Try.pinned (OpenSpec.upto metaBackSpec)

/-- 'chiasmuslaw09.MetaLevels', WHERE WHAT IT READS IS OF BULK AT MOST 1048576: true; the input reads as it did. -/
def metaLevelsUptoRow : OpenClaim := { program := "ytnffhiiihegjbaa", sum := "9db4eaa03218baf223ad3803b931aab4b8315df556f37f9eecfcbc9e8bd3aa4b", func := "chiasmus/chiasmuslaw09.MetaLevels", spec := "metaLevels", unfollowed := true, recurses := true, loops := true, apart := false, narrowed := true }
def MetaLevelsUptoSaid : Prop := metaLevelsUptoRow.holds Try.pinned (OpenSpec.upto metaLevelsSpec)

/-- 'chiasmuslaw09.MetaTowers', WHERE WHAT IT READS IS OF BULK AT MOST 1048576: true; the input reads as it did. -/
def metaTowersUptoRow : OpenClaim := { program := "ytnffhiiihegjbaa", sum := "9db4eaa03218baf223ad3803b931aab4b8315df556f37f9eecfcbc9e8bd3aa4b", func := "chiasmus/chiasmuslaw09.MetaTowers", spec := "metaTowers", unfollowed := true, recurses := true, loops := true, apart := false, narrowed := true }
def MetaTowersUptoSaid : Prop := metaTowersUptoRow.holds Try.pinned (OpenSpec.upto metaTowersSpec)

/-- 'chiasmuslaw09.MetaKeeps', WHERE WHAT IT READS IS OF BULK AT MOST 1048576: true; the input reads as it did. -/
def metaKeepsUptoRow : OpenClaim := { program := "ytnffhiiihegjbaa", sum := "9db4eaa03218baf223ad3803b931aab4b8315df556f37f9eecfcbc9e8bd3aa4b", func := "chiasmus/chiasmuslaw09.MetaKeeps", spec := "metaKeeps", inPlace := ["maps.clone"], unfollowed := true, recurses := true, loops := true, apart := false, narrowed := true }
def MetaKeepsUptoSaid : Prop := metaKeepsUptoRow.holds Try.pinned (OpenSpec.upto metaKeepsSpec)

end Rows
end Go.Proofs.Ytnffhiiihegjbaa
