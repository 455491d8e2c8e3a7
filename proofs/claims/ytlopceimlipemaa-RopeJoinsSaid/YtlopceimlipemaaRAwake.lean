import Derived.Test.YtlopceimlipemaaROwn
import Derived.Test.YtlopceimlipemaaRPart
import Derived.Test.YtlopceimlipemaaRQx1
import Derived.Test.YtlopceimlipemaaRBox
namespace Go.Proofs.Ytlopceimlipemaa.Rope
open Go.RowKit Go.Proofs.YtlopceimlipemaaW.PrintWords Go.Proofs.YtlopceimlipemaaW.PrintLast Go.Proofs.YtlopceimlipemaaW.PrintMore Go.Shelf
set_option linter.unusedVariables false
set_option linter.unusedSimpArgs false
def sa (n : UInt8) : ByteArray := ⟨#[n]⟩
set_option maxRecDepth 100000 in
set_option maxHeartbeats 4000000 in
theorem awake.calls (w : World) : Calls Try.prog 10 #[] w fun e w' => e = .returned (.bool true) ∧ Below w.heap.size w w' := by
  obtain ⟨T1, hT1⟩ : ∃ T, T = buildT [sa 97, sa 98, sa 99, sa 100] := ⟨_, rfl⟩
  obtain ⟨T2, hT2⟩ : ∃ T, T = buildT [sa 120] := ⟨_, rfl⟩
  obtain ⟨T3, hT3⟩ : ∃ T, T = replO T1 1 3 T2 := ⟨_, rfl⟩
  have hl1 : lenO T1 = 4 := by rw [hT1, ← listO_len, buildT_list]; rfl
  have hl2 : lenO T2 = 1 := by rw [hT2, ← listO_len, buildT_list]; rfl
  have hi1 : listO T1 = [sa 97, sa 98, sa 99, sa 100] := by rw [hT1, buildT_list]
  have hi2 : listO T2 = [sa 120] := by rw [hT2, buildT_list]
  have hi3 : listO T3 = [sa 97, sa 120, sa 100] := by
    rw [hT3]
    simp only [replO, joinO_list, (splitO_list _ _).1, (splitO_list _ _).2, hl1, hi1, hi2]
    rfl
  have hl3 : lenO T3 = 3 := by rw [← listO_len, hi3]; rfl
  have hn5 : lenO (splitO T3 9).1 = 3 := by rw [← listO_len, (splitO_list _ _).1, hi3]; rfl
  have hn5' : lenO (splitO T3 9).2 = 0 := by rw [← listO_len, (splitO_list _ _).2, hi3]; rfl
  have HT1 := Aside0.mk hT1
  have HT2 := Aside0.mk hT2
  have HT3 := Aside0.mk hT3
  have HI3 := Aside0.mk hi3
  have HN5 := Aside0.mk (And.intro hn5 hn5')
  clear hT1 hT2 hT3 hi1 hi2 hi3 hn5 hn5'
  go_enter Try.func10, Try.ntmps10
  go_wp2_with fail
  have hN := heap_new w (.cells #[.string (sa 97), .string (sa 98), .string (sa 99), .string (sa 100)] 9)
  refine (Of_string.calls (some ⟨w.heap.size, 0, none⟩) 4 4 [sa 97, sa 98, sa 99, sa 100] _ rfl (lit_C_string hN rfl rfl (by decide)) (by omega) (by omega)).mono ?_
  rintro e w1 ⟨g1, rfl, hO1, hb1⟩
  have B1 := Aside0.mk (below_step ((Below.refl _ w).alloc (Nat.le_refl _) _) hb1)
  have O1 := Aside0.mk hO1
  clear hN hb1 hO1
  go_wp2_with fail
  have hN := heap_new w1 (.cells #[.string (sa 120)] 9)
  refine (Of_string.calls (some ⟨w1.heap.size, 0, none⟩) 1 1 [sa 120] _ rfl (lit_C_string hN rfl rfl (by decide)) (by omega) (by omega)).mono ?_
  rintro e w2 ⟨g2, rfl, hO2, hb2⟩
  have S2 := below_step ((Below.refl _ w1).alloc (Nat.le_refl _) (.cells #[.string (sa 120)] 9)) hb2
  rw [← HT1.out] at O1
  rw [← HT2.out] at hO2
  have O2 := Aside0.mk hO2
  have O1' := Aside0.mk (O1.out.below S2)
  have B2 := Aside0.mk (below_step B1.out S2)
  clear hN hb2 hO2 O1 B1 S2
  go_wp2_with fail
  refine (Replace_string.calls g1 g2 1 3 T1 T2 _ O1'.out O2.out (by omega)).mono ?_
  rintro e w3 ⟨g3, rfl, hO3, hb3⟩
  rw [← HT3.out] at hO3
  have O3 := Aside0.mk hO3
  have B3 := Aside0.mk (below_step B2.out hb3)
  clear hb3 hO3 O1' O2 B2
  go_wp2_with fail
  have hk4 := heap_new w3 (.cells #[.pointer g3] 74)
  have hb4 : Below w3.heap.size w3 (w3.alloc (.cells #[.pointer g3] 74)) := (Below.refl _ w3).alloc (Nat.le_refl _) _
  refine (RSplit_string.calls g3 9 T3 _ (O3.out.below hb4) (by omega)).mono ?_
  rintro e w5 ⟨g5, h5, rfl, hO5, hP5, hb5⟩
  have K5 := Aside0.mk (blk_below hk4 hb5)
  have B5 := Aside0.mk (below_step (below_step B3.out hb4) hb5)
  have O5 := Aside0.mk hO5
  have P5 := Aside0.mk hP5
  have O3' := Aside0.mk (O3.out.below (below_step hb4 hb5))
  obtain ⟨k1, k2, hb6⟩ := alloc2 w5 (.cells #[.pointer g5] 74) (.cells #[.pointer h5] 74)
  have K6 := Aside0.mk (blk_below K5.out hb6)
  have M1 := Aside0.mk k1
  have M2 := Aside0.mk k2
  have B6 := Aside0.mk hb6
  have hc6 : ((w5.alloc (.cells #[.pointer g5] 74)).alloc (.cells #[.pointer h5] 74)).cell? ⟨w3.heap.size, 0, none⟩ = some (.pointer g3) := (blk_cell K6.out 0).trans rfl
  clear hk4 hb4 hb5 hO5 hP5 B3 O3 k1 k2 hb6
  go_wp2_with fail
  refine (List_string.calls g3 T3 _ (O3'.out.below B6.out) (by omega)).mono ?_
  rintro e w7 ⟨v7, rfl, hr7, _, hb7⟩
  have hS7 := below_step B6.out hb7
  have J1 := Aside0.mk (blk_below M1.out hb7)
  have J2 := Aside0.mk (blk_below M2.out hb7)
  have B7 := Aside0.mk (below_step B5.out hS7)
  have O7 := Aside0.mk (O5.out.below hS7)
  have P7 := Aside0.mk (P5.out.below hS7)
  rw [HI3.out] at hr7
  obtain ⟨A7, c7, rfl, hc7, hC7⟩ := own_C_string (n := 3) hr7 rfl
  have C7 := Aside0.mk hC7
  clear hr7 hb7 hS7 hC7 hc6 O3' K6 M1 M2 B6 O5 P5 B5 K5
  go_wp2_with fail
  have hN := heap_new w7 (.cells #[.string (sa 97), .string (sa 120), .string (sa 100)] 9)
  have hb8 : Below w7.heap.size w7 (w7.alloc (.cells #[.string (sa 97), .string (sa 120), .string (sa 100)] 9)) := (Below.refl _ w7).alloc (Nat.le_refl _) _
  refine (Ytlopceimlipemaa.RQ.slices_Equal_string_string.calls 10 A7 c7 [sa 97, sa 120, sa 100] (some ⟨w7.heap.size, 0, none⟩) 3 [sa 97, sa 120, sa 100] true _ (Kd.C_below C7.out hb8) hc7 (lit_C_string hN rfl rfl (by decide)) (Nat.le_refl _) (by kernel_rfl)).mono ?_
  rintro e w8 ⟨rfl, hd8⟩
  have hS8 := below_step hb8 hd8.below
  have J1' := Aside0.mk (blk_below J1.out hS8)
  have J2' := Aside0.mk (blk_below J2.out hS8)
  have B8 := Aside0.mk (below_step B7.out hS8)
  have O8 := Aside0.mk (O7.out.below hS8)
  have P8 := Aside0.mk (P7.out.below hS8)
  have hc8 : w8.cell? ⟨w5.heap.size, 0, none⟩ = some (.pointer g5) := (blk_cell J1'.out 0).trans rfl
  clear hN hb8 hd8 hS8 J1 J2 B7 O7 P7 C7
  go_wp2_with fail
  refine (Len_string.calls g5 _ _ O8.out (by have := HN5.out.1; omega)).mono ?_
  rintro e w9 ⟨rfl, hb9⟩
  rw [HN5.out.1]
  have J2'' := Aside0.mk (blk_below J2'.out hb9)
  have B9 := Aside0.mk (below_step B8.out hb9)
  have P9 := Aside0.mk (P8.out.below hb9)
  have hc9 : w9.cell? ⟨w5.heap.size + 1, 0, none⟩ = some (.pointer h5) := (blk_cell J2''.out 0).trans rfl
  clear hc8 hb9 J1' J2' B8 O8 P8
  go_wp2_with fail
  refine (Len_string.calls h5 _ _ P9.out (by have := HN5.out.2; omega)).mono ?_
  rintro e w10 ⟨rfl, hb10⟩
  rw [HN5.out.2]
  have B10 := Aside0.mk (below_step B9.out hb10)
  clear hc9 hb10 J2'' B9 P9
  go_wp2_with fail
  go_ret
  exact ⟨rfl, B10.out⟩

end Go.Proofs.Ytlopceimlipemaa.Rope
