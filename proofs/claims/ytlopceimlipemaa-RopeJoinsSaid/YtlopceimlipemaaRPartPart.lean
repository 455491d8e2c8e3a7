/- Part of Part is Part. -/
import Derived.Test.YtlopceimlipemaaRMore
namespace Go.Proofs.Ytlopceimlipemaa.Rope
open Go.RowKit Go.Proofs.YtlopceimlipemaaW.PrintWords Go.Proofs.YtlopceimlipemaaW.PrintLast Go.Proofs.YtlopceimlipemaaW.PrintMore
set_option linter.unusedVariables false
theorem part_le (T : Option (Tr Int)) (f t : Int) {n : Nat} (h : lenO T ≤ n) : lenO (partO T f t) ≤ n := by
  unfold partO
  have h1 := splitO_len T (hiB (lenO T) f t)
  have h2 := splitO_len (splitO T (hiB (lenO T) f t)).1 (loB (lenO T) f)
  omega
theorem part_at (T : Option (Tr Int)) (N f t : Nat) (hT : lenO T = N) (h1 : f ≤ N) (h2 : f ≤ t) : listO (partO T (f : Int) (t : Int)) = ((listO T).take t).drop f := by
  have hl : (listO T).length = N := by rw [listO_len, hT]
  have e1 : loB N (f : Int) = (f : Int) := by unfold loB mn mx; repeat (first | omega | split)
  have e2 : hiB N (f : Int) (t : Int) = ((min t N : Nat) : Int) := by unfold hiB mn mx; repeat (first | omega | split)
  unfold partO
  rw [(splitO_list _ _).2, (splitO_list _ _).1, hT, e1, e2, Int.toNat_natCast, Int.toNat_natCast]
  congr 1
  rcases Nat.le_total t N with h | h
  · rw [Nat.min_eq_left h]
  · rw [Nat.min_eq_right h, List.take_of_length_le (by omega), List.take_of_length_le (by omega)]
theorem part_part (T : Option (Tr Int)) (N a mi j : Nat) (e : Int) (hT : lenO T = N) (h1 : mi ≤ a) (h2 : a ≤ N) (he : e = mn (a : Int) ((mi : Int) + (j : Int))) : decide (listO (partO (partO T (mi : Int) (a : Int)) 0 (j : Int)) = listO (partO T (mi : Int) e)) = true := by
  have he2 : e = ((min a (mi + j) : Nat) : Int) := by rw [he]; unfold mn; repeat (first | omega | split)
  have hA := part_at T N mi a hT (by omega) h1
  have hlA : lenO (partO T (mi : Int) (a : Int)) = a - mi := by rw [← listO_len, hA, List.length_drop, List.length_take, listO_len, hT]; omega
  have hB := part_at (partO T (mi : Int) (a : Int)) (a - mi) 0 j hlA (by omega) (by omega)
  rw [Int.natCast_zero] at hB
  rw [hB, hA, he2, part_at T N mi _ hT (by omega) (by omega), List.drop_zero, List.take_drop, List.take_take]
  simp [Nat.min_comm]

end Go.Proofs.Ytlopceimlipemaa.Rope
