/- Part of the walk: lemmas and printed functions that the claim uses (wip/tools/trim.py). -/
import Derived.Test.YtdbjjaodkapikaaHWTab
import Derived.Test.YtdbjjaodkapikaaHWN
namespace Go.Proofs.YtdbjjaodkapikaaW.PrintWords
open Go.RowKit
theorem own_apart {v1 v2 : Value} {n : Nat} (hlt : ∀ k, v1.ownBlock = some k → k < n) (hge : ∀ k, v2.ownBlock = some k → n ≤ k) : v1.ownBlock = none ∨ v1.ownBlock ≠ v2.ownBlock := by
  cases h : v1.ownBlock with
  | none => exact .inl rfl
  | some k => exact .inr (fun e => by have := hlt k h; have := hge k e.symm; omega)
end Go.Proofs.YtdbjjaodkapikaaW.PrintWords
namespace Go.Proofs.YtdbjjaodkapikaaW.PrintLast
end Go.Proofs.YtdbjjaodkapikaaW.PrintLast
