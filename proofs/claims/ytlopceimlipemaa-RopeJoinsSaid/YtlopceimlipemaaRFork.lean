import Derived.Test.YtlopceimlipemaaRBase
import Derived.Test.YtlopceimlipemaaProg
import Derived.StillTailTactics
import Derived.WalkKit
namespace Go.Proofs.Ytlopceimlipemaa.Rope
open Go.RowKit Go.Proofs.YtlopceimlipemaaW.PrintWords Go.Proofs.YtlopceimlipemaaW.PrintLast Go.Proofs.YtlopceimlipemaaW.PrintMore
set_option linter.unusedVariables false
set_option linter.unusedSimpArgs false

def K_int : El Int := ⟨fun x => [(.int .i64 : Int → Value) x], [Value.int .i64 0], 1, 86, fun _ => rfl, rfl⟩
set_option maxRecDepth 100000 in
set_option maxHeartbeats 4000000 in
theorem fork_int.calls (p q : Option Addr) (a b : Tr Int) (w : World) (ha : IsN K_int w p a) (hb : IsN K_int w q b) (hs : a.len + b.len ≤ 4611686018427387904) :
    Calls Try.prog 72 #[.pointer p, .pointer q] w fun e w' => ∃ g, e = .returned (.pointer (some ⟨g, 0, none⟩)) ∧ IsN K_int w' (some ⟨g, 0, none⟩) (.fork a b) ∧ Below w.heap.size w w' := by
  obtain ⟨ba, la, ra, rfl, a0, a1, a2, a3, _⟩ := ha.node
  obtain ⟨bb, lb, rb, rfl, b0, b1, b2, b3, _⟩ := hb.node
  have h1 := ha.ht_le
  have h2 := hb.ht_le
  have HA := Aside0.mk ha
  have HB := Aside0.mk hb
  clear ha hb
  go_enter Try.func72, Try.ntmps72
  go_wp2
  go_still_tail 22, (by kernel_rfl)
  change wpList _ _ _ _ _ w.drew
  generalize hw2 : w.drew = w2
  go_wp2
  all_goals
    go_ret
    refine ⟨_, rfl, ⟨_, _, _, rfl, HA.out.below ?_, HB.out.below ?_, ?_⟩, ?_⟩
    · rw [← hw2]; exact ((Below.refl _ w).drew).alloc (by simp) _
    · rw [← hw2]; exact ((Below.refl _ w).drew).alloc (by simp) _
    · rw [heap_new]
      have hm := max_cases_ a.ht b.ht
      simp only [El.cells, El.zs, K_int, List.replicate, List.flatten, List.cons_append, List.nil_append]
      congr 4 <;> first | rfl | (congr 1; congr 1; omega) | skip
    · rw [← hw2]; exact ((Below.refl _ w).drew).alloc (by simp) _

end Go.Proofs.Ytlopceimlipemaa.Rope

namespace Go.Proofs.Ytlopceimlipemaa.Rope
open Go.RowKit Go.Proofs.YtlopceimlipemaaW.PrintWords Go.Proofs.YtlopceimlipemaaW.PrintLast Go.Proofs.YtlopceimlipemaaW.PrintMore
set_option linter.unusedVariables false
set_option linter.unusedSimpArgs false

def K_string : El ByteArray := ⟨fun x => [Value.string x], [Value.string ⟨#[]⟩], 1, 112, fun _ => rfl, rfl⟩
set_option maxRecDepth 100000 in
set_option maxHeartbeats 4000000 in
theorem fork_string.calls (p q : Option Addr) (a b : Tr ByteArray) (w : World) (ha : IsN K_string w p a) (hb : IsN K_string w q b) (hs : a.len + b.len ≤ 4611686018427387904) :
    Calls Try.prog 79 #[.pointer p, .pointer q] w fun e w' => ∃ g, e = .returned (.pointer (some ⟨g, 0, none⟩)) ∧ IsN K_string w' (some ⟨g, 0, none⟩) (.fork a b) ∧ Below w.heap.size w w' := by
  obtain ⟨ba, la, ra, rfl, a0, a1, a2, a3, _⟩ := ha.node
  obtain ⟨bb, lb, rb, rfl, b0, b1, b2, b3, _⟩ := hb.node
  have h1 := ha.ht_le
  have h2 := hb.ht_le
  have HA := Aside0.mk ha
  have HB := Aside0.mk hb
  clear ha hb
  go_enter Try.func79, Try.ntmps79
  go_wp2
  go_still_tail 22, (by kernel_rfl)
  change wpList _ _ _ _ _ w.drew
  generalize hw2 : w.drew = w2
  go_wp2
  all_goals
    go_ret
    refine ⟨_, rfl, ⟨_, _, _, rfl, HA.out.below ?_, HB.out.below ?_, ?_⟩, ?_⟩
    · rw [← hw2]; exact ((Below.refl _ w).drew).alloc (by simp) _
    · rw [← hw2]; exact ((Below.refl _ w).drew).alloc (by simp) _
    · rw [heap_new]
      have hm := max_cases_ a.ht b.ht
      simp only [El.cells, El.zs, K_string, List.replicate, List.flatten, List.cons_append, List.nil_append]
      congr 4 <;> first | rfl | (congr 1; congr 1; omega) | skip
    · rw [← hw2]; exact ((Below.refl _ w).drew).alloc (by simp) _

end Go.Proofs.Ytlopceimlipemaa.Rope
