/- RopeParts: Part, Split and Replace. -/
import Derived.Test.YtlopceimlipemaaRAlike
import Derived.Test.YtlopceimlipemaaRRef
import Derived.Test.YtlopceimlipemaaRAwake
import Derived.Test.YtlopceimlipemaaRPart
namespace Go.Proofs.Ytlopceimlipemaa.Rope
open Go.RowKit Go.Proofs.YtlopceimlipemaaW.PrintWords Go.Proofs.YtlopceimlipemaaW.PrintLast Go.Proofs.YtlopceimlipemaaW.PrintMore Go.Shelf
set_option linter.unusedVariables false
set_option linter.unusedSimpArgs false
attribute [local go_sem] Oper.semAt_some

theorem partO_list {T : Option (Tr Int)} {l : List Int} (hT : listO T = l) (f t : Int) : listO (partO T f t) = partL l f t := by
  subst hT
  unfold partO partL
  rw [(splitO_list _ _).2, (splitO_list _ _).1, listO_len]
theorem take_min (l : List Int) (a b : Nat) (h : b = a ∨ (l.length ≤ a ∧ l.length ≤ b)) : l.take a = l.take b := by
  rcases h with rfl | ⟨h1, h2⟩
  · rfl
  · rw [List.take_of_length_le h1, List.take_of_length_le h2]
theorem drop_min (l : List Int) (a b : Nat) (h : b = a ∨ (l.length ≤ a ∧ l.length ≤ b)) : l.drop a = l.drop b := by
  rcases h with rfl | ⟨h1, h2⟩
  · rfl
  · rw [List.drop_of_length_le h1, List.drop_of_length_le h2]
theorem split1_list {T : Option (Tr Int)} {l : List Int} (hT : listO T = l) (f : Int) : listO (splitO T f).1 = partL l 0 f := by
  subst hT
  rw [(splitO_list _ _).1]
  unfold partL
  rw [show loB (listO T).length 0 = 0 by unfold loB mn mx; repeat' split; all_goals omega]
  simp only [Int.toNat_zero, List.drop_zero]
  apply take_min
  unfold hiB mn mx
  repeat' split
  all_goals omega
theorem split2_list {T : Option (Tr Int)} {l : List Int} (hT : listO T = l) (f : Int) : listO (splitO T f).2 = partL l f l.length := by
  subst hT
  rw [(splitO_list _ _).2]
  unfold partL
  rw [show hiB (listO T).length f ((listO T).length : Int) = ((listO T).length : Int) by unfold hiB mn mx; repeat' split; all_goals omega]
  simp only [Int.toNat_natCast, List.take_length]
  apply drop_min
  unfold loB mn mx
  repeat' split
  all_goals omega
theorem repl_list {T S : Option (Tr Int)} {l m : List Int} (hT : listO T = l) (hS : listO S = m) (f t : Int) : listO (replO T f t S) = replL l f t m := by
  subst hT; subst hS
  unfold replO replL
  rw [joinO_list, joinO_list, (splitO_list _ _).1, (splitO_list _ _).2, listO_len]
theorem partL_le (l : List Int) (f t : Int) : (partL l f t).length ≤ l.length := by
  unfold partL; rw [List.length_drop, List.length_take]; omega
theorem replL_le (l : List Int) (f t : Int) (m : List Int) : (replL l f t m).length ≤ l.length + m.length + l.length := by
  unfold replL; simp only [List.length_append, List.length_drop, List.length_take]; omega

set_option maxRecDepth 100000 in
set_option maxHeartbeats 4000000 in
theorem Parts1.calls (A : Option Addr) (c n : Nat) (l : List Int) (A2 : Option Addr) (c2 n2 : Nat) (m : List Int) (f t : Int) (w : World) (hC : D_int.C w A n l) (hl : l.length = n) (hc : n ≤ c) (hA : A = none → c = 0)
    (hC2 : D_int.C w A2 n2 m) (hl2 : m.length = n2) (hc2 : n2 ≤ c2) (hA2 : A2 = none → c2 = 0) (hn : n ≤ 500) (hn2 : n2 ≤ 500) :
    Calls Try.prog 4 #[.slice A n c, .slice A2 n2 c2, .int .i64 f, .int .i64 t] w fun e w' => e = .returned (.bool true) ∧ Below w.heap.size w w' := by
  obtain ⟨T, hT⟩ : ∃ T, T = buildT l := ⟨_, rfl⟩
  obtain ⟨S, hS⟩ : ∃ S, S = buildT m := ⟨_, rfl⟩
  have hTi : listO T = l := by rw [hT, buildT_list]
  have hSi : listO S = m := by rw [hS, buildT_list]
  have hTl : lenO T = n := by rw [← listO_len, hTi, hl]
  have hSl : lenO S = n2 := by rw [← listO_len, hSi, hl2]
  have d1 : decide ((500 : Int) < (n : Int)) = false := by simp; omega
  have d1' : decide (500 < n) = false := by simp; omega
  have d2 : decide ((500 : Int) < (n2 : Int)) = false := by simp; omega
  have d2' : decide (500 < n2) = false := by simp; omega
  have HC := Aside0.mk hC
  have HL := Aside0.mk hl
  have HA := Aside0.mk hA
  have HC2 := Aside0.mk hC2
  have HL2 := Aside0.mk hl2
  have HA2 := Aside0.mk hA2
  have HT := Aside0.mk hT
  have HS := Aside0.mk hS
  have HTI := Aside0.mk hTi
  have HSI := Aside0.mk hSi
  have HTL := Aside0.mk hTl
  have HSL := Aside0.mk hSl
  have HN4 : Aside0 (n ≤ 4611686018427387904) := ⟨by omega⟩
  have HN42 : Aside0 (n2 ≤ 4611686018427387904) := ⟨by omega⟩
  have HB8 : Aside0 (n * 8 ≤ 35184372088832) := ⟨by omega⟩
  have HB82 : Aside0 (n2 * 8 ≤ 35184372088832) := ⟨by omega⟩
  have HL4 : Aside0 (lenO T ≤ 4611686018427387904) := ⟨by omega⟩
  have HL42 : Aside0 (lenO T + lenO S ≤ 4611686018427387904) := ⟨by omega⟩
  clear hC hl hA hC2 hl2 hA2 hT hS hTi hSi hTl hSl
  go_enter Try.func4, Try.ntmps4
  go_wp2_with fail
  refine (Of_int.calls A c n l _ HL.out HC.out hc HN4.out).mono ?_
  rintro e w1 ⟨g, rfl, hO, hb1⟩
  rw [← HT.out] at hO
  have HO := Aside0.mk hO
  have HB1 := Aside0.mk hb1
  have z1 : (w1.alloc (.cells #[.pointer g] 26)).cell? ⟨w1.heap.size, 0, none⟩ = some (.pointer g) := (blk_cell (heap_new w1 _) 0).trans rfl
  clear hO hb1
  go_wp2_with fail
  have hba : Below w1.heap.size w1 (w1.alloc (.cells #[.pointer g] 26)) := (Below.refl _ _).alloc (Nat.le_refl _) _
  refine (RSplit_int.calls g f T _ (HO.out.below hba) HL4.out).mono ?_
  rintro e w2 ⟨ga, gb, rfl, hOa, hOb, hb2⟩
  have K1 := blk_below (heap_new w1 (.cells #[.pointer g] 26)) hb2
  obtain ⟨k2, k3, hb3⟩ := alloc2 w2 (.cells #[.pointer ga] 26) (.cells #[.pointer gb] 26)
  obtain ⟨W3, hW3⟩ : ∃ W, (w2.alloc (.cells #[.pointer ga] 26)).alloc (.cells #[.pointer gb] 26) = W := ⟨_, rfl⟩
  have HW3 := Aside0.mk hW3
  rw [hW3] at k2 k3 hb3
  have x1 : W3.cell? ⟨w1.heap.size, 0, none⟩ = some (.pointer g) := (blk_cell (blk_below K1 hb3) 0).trans rfl
  have x2 : W3.cell? ⟨w2.heap.size, 0, none⟩ = some (.pointer ga) := (blk_cell k2 0).trans rfl
  have x3 : W3.cell? ⟨w2.heap.size + 1, 0, none⟩ = some (.pointer gb) := (blk_cell k3 0).trans rfl
  have hbw : Below w.heap.size w W3 := below_step (below_step (below_step HB1.out hba) hb2) hb3
  have O3 := Aside0.mk (HO.out.below (below_step (below_step hba hb2) hb3))
  have OA := Aside0.mk (hOa.below hb3)
  have OB := Aside0.mk (hOb.below hb3)
  have HBW := Aside0.mk hbw
  have C3 := Aside0.mk (Kd.C_below HC.out hbw)
  have C32 := Aside0.mk (Kd.C_below HC2.out hbw)
  clear hba hOa hOb hb2 hb3 k2 k3 K1 hW3 hbw z1
  go_wp2_with fail
  rw [HW3.out]
  clear HW3
  have HP1 : Aside0 (listO (partO T f t) = partL l f t) := ⟨partO_list HTI.out f t⟩
  have HP2 : Aside0 (listO (splitO T f).1 = partL l 0 f) := ⟨split1_list HTI.out f⟩
  have HP3 : Aside0 (listO (splitO T f).2 = partL l f n) := ⟨by have := split2_list HTI.out f; rwa [HL.out] at this⟩
  have HP4 : Aside0 (listO (replO T f t S) = replL l f t m) := ⟨repl_list HTI.out HSI.out f t⟩
  have HQ1 : Aside0 (∀ k f t, (partL l f t).length = k → k * 8 ≤ 140737488351232) := ⟨fun k f t h => by have := partL_le l f t; have := HL.out; omega⟩
  have HQ4 : Aside0 (∀ k, (replL l f t m).length = k → k * 8 ≤ 140737488351232) := ⟨fun k h => by have := replL_le l f t m; have := HL.out; have := HL2.out; omega⟩
  have HLT : Aside0 (lenO T + lenO S ≤ 2305843009213693952) := ⟨by have := HTL.out; have := HSL.out; omega⟩
  have HB5 : Aside0 (n * 8 ≤ 140737488351232) := ⟨by omega⟩
  clear d1 d1' d2 d2'
  go_region_held3 (fun W' => Below W3.heap.size W3 W' ∧ W'.cell? ⟨w1.heap.size, 0, none⟩ = some (.pointer g) ∧ W'.cell? ⟨w2.heap.size, 0, none⟩ = some (.pointer ga) ∧ W'.cell? ⟨w2.heap.size + 1, 0, none⟩ = some (.pointer gb))
    (first | exact ⟨below_drew (Below.refl _ _), x1, x2, x3⟩ | (go_split_ands; exact ⟨below_step (by assumption) hb1, pw_cell_below hb1 (by assumption), pw_cell_below hb1 (by assumption), pw_cell_below hb1 (by assumption)⟩))
    (first
      | (go_at_call 18; go_split_ands; refine (Part_int.calls g f t T _ (IsO.below (by assumption) O3.out) HL4.out).mono ?_; rintro e W' ⟨g5, rfl, hO5, hb1⟩; have O5 := Aside0.mk hO5; clear hO5)
      | (go_at_call 19; go_split_ands; with_reducible refine (Part19.calls A c n l f t _ (Kd.C_below C3.out (by assumption)) HL.out hc HA.out HB5.out).mono ?_; rintro e W' ⟨A6, k6, c6, rfl, h61, h62, h63, hC6, hb1⟩; have H61 := Aside0.mk h61; have C6 := Aside0.mk hC6; have O6 := Aside0.mk (O5.out.below hb1); clear h61 h63 hC6)
      | (go_at_call 17; go_split_ands; with_reducible refine (alike.calls g5 (partO T f t) A6 k6 c6 (partL l f t) _ O6.out HP1.out H61.out C6.out h62 (HQ1.out _ _ _ H61.out)).mono ?_; rintro e W' ⟨rfl, hb1⟩)
      | (go_at_call 19; go_split_ands; with_reducible refine (Part19.calls A c n l 0 f _ (Kd.C_below C3.out (by assumption)) HL.out hc HA.out HB5.out).mono ?_; rintro e W' ⟨A7, k7, c7, rfl, h71, h72, h73, hC7, hb1⟩; have H71 := Aside0.mk h71; have C7 := Aside0.mk hC7; clear h71 h73 hC7)
      | (go_at_call 17; go_split_ands; with_reducible refine (alike.calls ga (splitO T f).1 A7 k7 c7 (partL l 0 f) _ (IsO.below (by assumption) OA.out) HP2.out H71.out C7.out h72 (HQ1.out _ _ _ H71.out)).mono ?_; rintro e W' ⟨rfl, hb1⟩)
      | (go_at_call 19; go_split_ands; with_reducible refine (Part19.calls A c n l f n _ (Kd.C_below C3.out (by assumption)) HL.out hc HA.out HB5.out).mono ?_; rintro e W' ⟨A8, k8, c8, rfl, h81, h82, h83, hC8, hb1⟩; have H81 := Aside0.mk h81; have C8 := Aside0.mk hC8; clear h81 h83 hC8)
      | (go_at_call 17; go_split_ands; with_reducible refine (alike.calls gb (splitO T f).2 A8 k8 c8 (partL l f n) _ (IsO.below (by assumption) OB.out) HP3.out H81.out C8.out h82 (HQ1.out _ _ _ H81.out)).mono ?_; rintro e W' ⟨rfl, hb1⟩)
      | (go_at_call 11; go_split_ands; refine (Of_int.calls A2 c2 n2 m _ HL2.out (Kd.C_below C32.out (by assumption)) hc2 HN42.out).mono ?_; rintro e W' ⟨g9, rfl, hO9, hb1⟩; rw [← HS.out] at hO9; have O9 := Aside0.mk hO9; clear hO9)
      | (go_at_call 20; go_split_ands; refine (Replace_int.calls g g9 f t T S _ (IsO.below (by assumption) O3.out) O9.out HLT.out).mono ?_; rintro e W' ⟨g10, rfl, hO10, hb1⟩; have O10 := Aside0.mk hO10; clear hO10)
      | (go_at_call 21; go_split_ands; refine (Replace21.calls A c n l f t A2 c2 n2 m _ (Kd.C_below C3.out (by assumption)) HL.out hc HA.out (Kd.C_below C32.out (by assumption)) HL2.out hc2 HA2.out HB8.out HB82.out).mono ?_; rintro e W' ⟨A11, k11, c11, rfl, h111, h112, h113, hC11, hb1⟩; have H111 := Aside0.mk h111; have C11 := Aside0.mk hC11; have O11 := Aside0.mk (O10.out.below hb1); clear h111 h113 hC11)
      | (go_at_call 17; go_split_ands; with_reducible refine (alike.calls g10 (replO T f t S) A11 k11 c11 (replL l f t m) _ O11.out HP4.out H111.out C11.out h112 (HQ4.out _ H111.out)).mono ?_; rintro e W' ⟨rfl, hb1⟩)
      | (go_at_call 10; refine (awake.calls _).mono ?_; rintro e W' ⟨rfl, hb1⟩))
  have hfin : Below W3.heap.size W3 W' := by go_split_ands; assumption
  have HFIN := Aside0.mk (HBW.out.trans (hfin.mono HBW.out.size))
  go_wp2
  go_ret
  exact ⟨rfl, HFIN.out⟩

set_option maxRecDepth 100000 in
set_option maxHeartbeats 4000000 in
theorem Parts0.calls (A : Option Addr) (c n : Nat) (A2 : Option Addr) (c2 n2 : Nat) (f t : Int) (w : World) (hn : 500 < n ∨ 500 < n2) :
    Calls Try.prog 4 #[.slice A n c, .slice A2 n2 c2, .int .i64 f, .int .i64 t] w fun e w' => e = .returned (.bool true) ∧ Below w.heap.size w w' := by
  by_cases h1 : 500 < n
  · have d1 : decide ((500 : Int) < (n : Int)) = true := by simp; omega
    have d1' : decide (500 < n) = true := by simp; omega
    clear hn
    go_enter Try.func4, Try.ntmps4
    go_wp2_with fail
    refine (awake.calls _).mono ?_
    rintro e w1 ⟨rfl, hb⟩
    have HB := Aside0.mk hb
    clear hb
    go_wp2_with fail
    go_ret
    exact ⟨rfl, HB.out⟩
  · have h2 : 500 < n2 := by omega
    have d1 : decide ((500 : Int) < (n : Int)) = false := by simp; omega
    have d1' : decide (500 < n) = false := by simp; omega
    have d2 : decide ((500 : Int) < (n2 : Int)) = true := by simp; omega
    have d2' : decide (500 < n2) = true := by simp; omega
    clear hn
    go_enter Try.func4, Try.ntmps4
    go_wp2_with fail
    refine (awake.calls _).mono ?_
    rintro e w1 ⟨rfl, hb⟩
    have HB := Aside0.mk hb
    clear hb
    go_wp2_with fail
    go_ret
    exact ⟨rfl, HB.out⟩
theorem Parts.row (A : Option Addr) (c : Nat) (l : List Int) (A2 : Option Addr) (c2 : Nat) (m : List Int) (f t : Int) (w : World) (hC : D_int.C w A l.length l) (hc : l.length ≤ c) (_ : l.length * 8 ≤ 140737488351232) (hA : A = none → c = 0)
    (hC2 : D_int.C w A2 m.length m) (hc2 : m.length ≤ c2) (_ : m.length * 8 ≤ 140737488351232) (hA2 : A2 = none → c2 = 0) (_ : (Lit.int .i64 f).wf = true) (_ : (Lit.int .i64 t).wf = true) :
    Calls Try.prog 4 #[.slice A l.length c, .slice A2 m.length c2, .int .i64 f, .int .i64 t] w fun e w' => e = .returned (.bool true) ∧ Below w.heap.size w w' := by
  by_cases h : l.length ≤ 500 ∧ m.length ≤ 500
  · exact Parts1.calls A c _ l A2 c2 _ m f t w hC rfl hc hA hC2 rfl hc2 hA2 h.1 h.2
  · exact Parts0.calls A c _ A2 c2 _ f t w (by omega)

end Go.Proofs.Ytlopceimlipemaa.Rope
