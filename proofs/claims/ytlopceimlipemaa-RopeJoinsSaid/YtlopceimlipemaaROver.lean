import Derived.Test.YtlopceimlipemaaRAll
import Derived.Test.YtlopceimlipemaaRBack
namespace Go.Proofs.Ytlopceimlipemaa.Rope
open Go.RowKit Go.Proofs.YtlopceimlipemaaW.PrintWords Go.Proofs.YtlopceimlipemaaW.PrintLast Go.Proofs.YtlopceimlipemaaW.PrintMore Go.Shelf
set_option linter.unusedVariables false
set_option linter.unusedSimpArgs false
set_option maxRecDepth 100000 in
set_option maxHeartbeats 400000 in
theorem over_int.calls (k : Nat) (cs : Array Value) (w : World) :
    Calls Try.prog 12 #[.func (.func k) #[] cs] w fun e w' => e = .returned (.func (.func k) #[] cs) ∧ w' = w := by
  have he : ∀ W : World, Sem.run Try.prog (binOp .eql 28 (.func (.func k) #[] cs) .nilFunc) W = .ok (.bool false) W := fun W => by kernel_rfl
  go_enter Try.func12, Try.ntmps12
  go_wp2
  go_ret
  exact ⟨rfl, rfl⟩

end Go.Proofs.Ytlopceimlipemaa.Rope
